/- Models and proofs. Conditions: none. -/
import Derived.Test.YtmdlcmbplnhdnaaGreatDoorZRRc1
import Derived.Maps.RangeRun
set_option linter.unusedVariables false
set_option linter.unusedSimpArgs false
set_option maxHeartbeats 4000000
set_option maxRecDepth 20000
namespace Go.Sx
open Go.RowKit
section
variable {P:Program} {rd:Option Nat} {c:uF} {n:Sz} {σ:Fr} {M L M' L':List bA} {Q:Exit->Act->World->Prop} {ops:Array Oper} {rest:List Oper} {K:Act->World->Prop}
variable {d:Option Tmp} {D:Nat} {ty:TypeId} {pos:String} {aft:Array Edge} {g:Option (Nat×Bool)}
variable {α β:Type} {e:cZ α} {r:eH α}
theorem aL.b {A:Nat->Bool} {f a M L:List bA} {j:Nat} {H:List (Nat×List bA×List bA)} (h:A j=true) (k:aL A f a H):aL A f a ((j,M,L)::H):=⟨.inl h,k⟩
theorem aL.h {A:Nat->Bool} {b a M L:List bA} {j:Nat} {H:List (Nat×List bA×List bA)} (h:aY M b) (f:Az L a) (k:aL A b a H):aL A b a ((j,M,L)::H):=⟨.inr ⟨h,f⟩,k⟩
theorem aL.z {A:Nat->Bool} {b a:List bA}:aL A b a []:=trivial
theorem zZ.b {A:Nat->Bool} {f a M L:List bA} {j:Nat} {H:List (Nat×List bA×List bA)} (h:A j=true) (k:zZ A M L H):zZ A M L ((j,f,a)::H):=⟨.inl h,k⟩
theorem zZ.h {A:Nat->Bool} {b a M L:List bA} {j:Nat} {H:List (Nat×List bA×List bA)} (h:aY M b) (f:Az L a) (k:zZ A M L H):zZ A M L ((j,b,a)::H):=⟨.inr ⟨h,f⟩,k⟩
theorem zZ.z {A:Nat->Bool} {M L:List bA}:zZ A M L []:=trivial
theorem lH {v:Value} {vs:List Value} (h:one v=true) (k:vs.all one=true):(v::vs).all one=true:=by simp[h,k]
theorem dL (k:IntKind) (x:Int):(Value.int k x).cells = #[.int k x]:=rfl
theorem cT (b:Bool):(Value.bool b).cells = #[.bool b]:=rfl
theorem cM (a:Option Addr) (l k:Nat):(Value.slice a l k).cells = #[.slice a l k]:=rfl
theorem dM (a:Option Addr):(Value.pointer a).cells = #[.pointer a]:=rfl
theorem dN (a:ByteArray):(Value.string a).cells = #[.string a]:=rfl
theorem cU (f:Fn) (a b:Array Value):(Value.func f a b).cells = #[.func f a b]:=rfl
theorem zO (q:Nat) {vs:List Value} {a:List (List α)} {k:Int} {u:Value} (s:M[q]? = some (lD e (vs.set k.toNat u) a)) (h:0<=k∧k<a.length):∀c w,St c M L w->Go.Sx.one u=true:=λc w t=>by
 obtain⟨S,p,x,m,_⟩:=t.res s;have f:k.toNat<vs.length:=by simp at p;omega
 obtain⟨_,_,o⟩:=m k.toNat u _ (by rw[List.getElem?_set_self f]) (List.getElem?_eq_getElem (by omega));rcases o with⟨i,_⟩|⟨b,v,j,T,l,i,_⟩<;>(rw[i];rfl)
theorem UQ [cN P] [Inhabited α] {T o:TypeId} {C:Nat} {z:Value} {l:TypeDesc} {x:Operand} {b k:Nat} {i:Int} {f:List α} {u:Value} (m:ev σ x=some (.pointer (some ⟨b,i.toNat*1,none⟩)))
  (q:aE M L (bV b (cellsOf e f) o)) (v:cN.tab P T=some ⟨l,1,C,z⟩) (y:wT l=false) (A:e.sz=1) (B:(e.enc (at' f i))=[u]) (h:(0<=i∧i<(k:Int))∧f.length=k):
  Y P c n σ M L ⟨d,.load T x,ty,pos,aft,g⟩ u:=λa w s t=>by
 obtain⟨F,p⟩:=q.st t;have j:=wC e f i.toNat (at' f i) (jK h.1.1 (by omega)) 0 u (by rw[B];rfl);rw[A,Nat.add_zero]at j;rw[Nat.mul_one]at m j;simp[execOp,s.eval m,yV (cN.ok v) y (bV.cell p j)]
theorem Jt [cN P] (q:Nat) {T j:TypeId} {B:Nat} {z:Value} {p:TypeDesc} {x y:Operand} {b k:Nat} {i:Int} {a:List α} {u:Value} (o:α) (h:(0<=i∧i<(k:Int))∧a.length=k) (m:ev σ x=some (.pointer (some ⟨b,i.toNat*1,none⟩))) (A:ev σ y=some u)
  (s:M[q]? = some (bV b (cellsOf e a) j)) (w:e.enc o=[u]) (f:one u=true) (t:cN.tab P T=some ⟨p,1,B,z⟩) (l:e.sz=1)
  (v:J c n σ (M.set q (bV b (cellsOf e (a.set i.toNat o)) j)) L (wpList P ops Q rest)):
  J c n σ M L (wpList P ops Q (⟨none,.store T x y,ty,pos,aft,none⟩::rest)):=by
 rw[Nat.mul_one]at m;refine gZ q m A f s t ?_ ?_
 ·have:=eJ e a;rw[l]at this;rw[Nat.blt_eq];omega
 ·rw[<-wW l w];exact v
end
end Go.Sx
namespace Go.Sx
section
abbrev vI (x:Int):Value:= .int .i64 x
abbrev vU (x:Int):Value:= .int .u32 x
abbrev vP (b:Nat):Value:= .pointer (some ⟨b,0,none⟩)
open Go.RowKit
variable {P:Program} {rd:Option Nat} {c:uF} {n:Sz} {σ:Fr} {M L:List bA} {Q:Exit->Act->World->Prop} {ops:Array Oper} {rest:List Oper} {d:Nat} {ty:TypeId} {pos:String} {aft:Array Edge} {x y:Operand} {v:Value} {K:Act->World->Prop}
theorem aA (h:(ev σ x,Nat.blt d n.sz)=(some v,true)) (k:J c n ((d,v)::σ) M L (wpList P ops Q rest)):J c n σ M L (wpList P ops Q (⟨some d,.move x,ty,pos,aft,none⟩::rest)):=aB (gH (Prod.mk.inj h).1) (Prod.mk.inj h).2 k
theorem aC (h:(ev σ x,Nat.blt d n.sz)=(some v,true)) (k:J c n ((d,v)::σ) M L (wpList P ops Q rest)):J c n σ M L (wpList P ops Q (⟨some d,.assign x,ty,pos,aft,none⟩::rest)):=aB (oQ (Prod.mk.inj h).1) (Prod.mk.inj h).2 k
theorem bU [cN P] {T:TypeId} {r s i t:Nat} {z w:Value} {e:Array Field} {p u q:String} {m:Bool} {g a j:Nat} {l:TypeDesc} {b o f:Nat} (h:(ev σ x,cN.tab P T,e[f]?,cN.tab P g,i==0,Nat.blt d n.sz)=(some (.pointer (some ⟨b,o,none⟩)),some ⟨.struct e,r,s,z⟩,some ⟨p,g,a,m,u,q,j⟩,some ⟨l,i,t,w⟩,false,true)) (k:J c n ((d,.pointer (some ⟨b,o+a,none⟩))::σ) M L (wpList P ops Q rest)):J c n σ M L (wpList P ops Q (⟨some d,.fieldAddr T x f,ty,pos,aft,none⟩::rest)):=by
  simp only[Prod.mk.injEq]at h;exact aB (dC h.1 h.2.1 h.2.2.1 h.2.2.2.1 h.2.2.2.2.1) h.2.2.2.2.2 k
theorem dK [cN P] (i:Nat) {T e:TypeId} {f g:Nat} {z:Value} {a:TypeDesc} {b o:Nat} {cs:List Value} (h:(ev σ x,M[i]?,cN.tab P T,wT a,cs[o]?,Nat.blt d n.sz)=(some (.pointer (some ⟨b,o,none⟩)),some (bV b cs e),some ⟨a,f,g,z⟩,false,some v,true)) (k:J c n ((d,v)::σ) M L (wpList P ops Q rest)):J c n σ M L (wpList P ops Q (⟨some d,.load T x,ty,pos,aft,none⟩::rest)):=by
  simp only[Prod.mk.injEq]at h;exact aB (eG i h.1 h.2.1 h.2.2.1 h.2.2.2.1 h.2.2.2.2.1) h.2.2.2.2.2 k
theorem dV [cN P] (i:Nat) {T e:TypeId} {f:Nat} {z:Value} {a:TypeDesc} {b:Nat} {cs:List Value} (h:(ev σ x,M[i]?,cN.tab P T,wT a,Nat.blt d n.sz)=(some (.pointer (some ⟨b,0,none⟩)),some (bV b cs e),some ⟨a,cs.length,f,z⟩,true,true)) (k:J c n ((d,.agg cs.toArray)::σ) M L (wpList P ops Q rest)):J c n σ M L (wpList P ops Q (⟨some d,.load T x,ty,pos,aft,none⟩::rest)):=by
  simp only[Prod.mk.injEq]at h;exact aB (fW i h.1 h.2.1 h.2.2.1 h.2.2.2.1) h.2.2.2.2 k
theorem aH {e:Op} {j:Nat} {b a:Bool} (h:(gv ops σ j,a==b,Nat.blt d n.sz)=(some a,false,true)) (k:J c n ((d,undef)::σ) M L (wpList P ops Q rest)):J c n σ M L (wpList P ops Q (⟨some d,e,ty,pos,aft,some (j,b)⟩::rest)):=by
  simp only[Prod.mk.injEq]at h;exact We h.1 h.2.1 h.2.2 k
theorem cR {j:Nat} {b:Bool} (h:(gv ops σ j,ev σ x,Nat.blt d n.sz)=(some b,some v,true)) (k:J c n ((d,v)::σ) M L (wpList P ops Q rest)):J c n σ M L (wpList P ops Q (⟨some d,.move x,ty,pos,aft,some (j,b)⟩::rest)):=by
  simp only[Prod.mk.injEq]at h;exact aP h.1 (gH h.2.1) h.2.2 k
theorem cO {t a:TypeId} {i:IntKind} {p q:Int} (h:(ev σ x,ev σ y,Nat.blt d n.sz)=(some (.int i p),some (.int i q),true)) (k:J c n ((d,.bool (decide (p<q)))::σ) M L (wpList P ops Q rest)):J c n σ M L (wpList P ops Q (⟨some d,.binOp .lss t x y a,ty,pos,aft,none⟩::rest)):=by
  simp only[Prod.mk.injEq]at h;exact aB (Gq h.1 h.2.1) h.2.2 k
theorem cP {t a:TypeId} {i:IntKind} {p q:Int} (h:(ev σ x,ev σ y,Nat.blt d n.sz)=(some (.int i p),some (.int i q),true)) (k:J c n ((d,.bool (decide (p=q)))::σ) M L (wpList P ops Q rest)):J c n σ M L (wpList P ops Q (⟨some d,.binOp .eql t x y a,ty,pos,aft,none⟩::rest)):=by
  simp only[Prod.mk.injEq]at h;exact aB (OU h.1 h.2.1) h.2.2 k
theorem cI {t a:TypeId} {i:IntKind} {p q:Int} (h:(ev σ x,ev σ y,Nat.blt d n.sz)=(some (.int i p),some (.int i q),true)) (k:J c n ((d,.int i (wI i (p+q)))::σ) M L (wpList P ops Q rest)):J c n σ M L (wpList P ops Q (⟨some d,.binOp .add t x y a,ty,pos,aft,none⟩::rest)):=by
  simp only[Prod.mk.injEq]at h;exact aB (Aa h.1 h.2.1) h.2.2 k
theorem cdI {e b:Code} {p:Prop} {_:Decidable p} {f:Type} {u w:Option f} {r:f} (h:(if p then u else w)=some r) (j:ev σ x=some (.bool (decide p))) (i:p->u=some r->J c n σ M L (e.wpr rd P Q)) (g:¬p->w=some r->J c n σ M L (b.wpr rd P Q)):J c n σ M L ((Code.cond x e b).wpr rd P Q):=ZM j (λa=>i a (Ik a h)) (λa=>g a (ifN a h))
theorem fE {b a:Code} {p:Prop} {_:Decidable p} {e:Type} {u w:Option e} {r:e} (h:(if p then u else w)=some r) (i:ev σ x=some (.bool (decide p))) (g:u=some r->J c n σ M L (b.wpr rd P Q)) (f:w=some r->J c n σ M L (a.wpr rd P Q)):J c n σ M L ((Code.cond x b a).wpr rd P Q):=cdI h i (λ_=>g) (λ_=>f)
theorem Ab {f e:Code} {b:Bool} {g:Type} {u w:Option g} {r:g} (h:(if b=true then u else w)=some r) (k:ev σ x=some (.bool b)) (j:b=true->u=some r->J c n σ M L (f.wpr rd P Q)) (i:b=false->w=some r->J c n σ M L (e.wpr rd P Q)):J c n σ M L ((Code.cond x f e).wpr rd P Q):=MR k (λa=>j a (Ik a h)) (λa=>i a (DY a h))
theorem Dy {d:Option Tmp} {f:Op} {j e:Nat} {p:Prop} {_:Decidable p} {b:Bool} {i:Type} {u w:Option i} {r:i} (h:(if p then u else w)=some r) (g:((ops[j]?).bind (·.dst),lk σ e)=(some e,some (.bool (decide p)))) (l:p->u=some r->J c n ((e,.bool true)::σ) M L (wpList P ops Q (⟨d,f,ty,pos,aft,some (j,b)⟩::rest))) (k:¬p->w=some r->J c n ((e,.bool false)::σ) M L (wpList P ops Q (⟨d,f,ty,pos,aft,some (j,b)⟩::rest))):J c n σ M L (wpList P ops Q (⟨d,f,ty,pos,aft,some (j,b)⟩::rest)):=Wd (Prod.mk.inj g).1 (Prod.mk.inj g).2 (λa=>l a (Ik a h)) (λa=>k a (ifN a h))
theorem aM {ops:Array Oper} (h:J c n σ M L K):J c n σ M L (wpList P ops (Exit.then K Q) []):=h
theorem aW {id:Nat} {l:List Oper} {z:Code} (h:J c n σ M L (wpList P l.toArray (Exit.then (z.wpr rd P Q) Q) l)) (a:l.all jS=true:=by rfl):J c n σ M L ((Code.seq (Code.region id l.toArray false) z).wpr rd P Q):=aK (aO h a)
variable {A B:Type} {ret:Unit->Value} {MO LO:Unit->List bA->List bA} {fn:Func} {C:A->Prop} {σI:A->B->Fr} {MI LI:A->B->List bA}
theorem kV {t:Tmp} (h:(ret (),fn.results,lk σ t,MO () [],LO () [],n.ds)=(v,#[.tmp t],some v,M,[],[])):J c n σ M L (gS P fn (MW c ret MO LO) .ret):=by
  simp only[Prod.mk.injEq]at h;exact fV () h.1 h.2.1 (RV.tmp h.2.2.1) (h.2.2.2.1▸aY.refl _) (by rw[h.2.2.2.2.1];exact aF.nil) h.2.2.2.2.2
theorem sE {t:Tmp} (h:(ret (),fn.results,lk σ t,MO () [],LO () [],n.ds)=(v,#[.tmp t],some v,[],[],[])):J c n σ M L (gS P fn (MW c ret MO LO) .ret):=by
  simp only[Prod.mk.injEq]at h;exact fV () h.1 h.2.1 (RV.tmp h.2.2.1) (by rw[h.2.2.2.1];exact aY.nil) (by rw[h.2.2.2.2.1];exact aF.nil) h.2.2.2.2.2
theorem Ch {x:Code} (C:A->Prop) (σI:A->B->Fr) (MI:A->B->List bA) (e:J c n σ M L (x.wpr rd P (Exit.then (Ws c n C σI MI (λ_ _=>L)) Q))) (f:∀a b,C a->J c n (σI a b) (MI a b) L K):J c n σ M L (x.wpr rd P (Exit.then K Q)):=BH C σI MI (λ_ _=>L) e f
theorem dZ {R:Type} {f:Code} (e:A->(A->Option R)->Option R) {r:R} {U:Nat} (σI:A->B->Fr) (MI:A->B->List bA) (i:A) (j:B) (h:bI e U i=some r) (m:zQ σ (σI i j)) (l:aY M (MI i j)) (g:∀k a b,e a (bI e k)=some r->J c n (σI a b) (MI a b) L (f.wpr rd P (Exit.then (ZK c n e r σI MI (λ_ _=>L) k) Q))):J c n σ M L ((Code.loop f).wpr rd P Q):=Ge e σI MI (λ_ _=>L) i j h m l (aF.refl _ _) g
theorem eD {x:Code} (C:A->Prop) (σI:A->Unit->Fr) (MI:A->Unit->List bA) (e:J c n σ M L (x.wpr rd P (Exit.then (Ws c n C σI MI (λ_ _=>L)) Q))) (f:∀a b,C a->J c n (σI a b) (MI a b) L K):J c n σ M L (x.wpr rd P (Exit.then K Q)):=Ch C σI MI e f
theorem cK (h:J c n σ M L K):J c n σ M L (Code.skip.wpr rd P (Exit.then K Q)):=dW h
theorem mQ {id:Nat} (h:J c n σ M L K):J c n σ M L (Exit.inBlock id (Exit.then K Q) .normal):=h
theorem fH {id:Nat} {a b:Act->World->Prop} (h:J c n σ M L K):J c n σ M L ((Code.exit id).wpr rd P (Exit.then a (Exit.then b (Exit.inBlock id (Exit.then K Q))))):=qO (eM (eM (wQ (Bw h))))
theorem gM (x:A) (y:B) (a:C x) (b:zQ σ (σI x y)) (h:(MI x y,LI x y)=(M,L)):J c n σ M L (Ws c n C σI MI LI):=cL x y a b ((Prod.mk.inj h).1▸aY.refl _) ((Prod.mk.inj h).2▸aF.refl _ _)
theorem yX {R:Type} {a:A->(A->Option R)->Option R} {r:R} {k:Nat} (x:A) (y:B) (h:bI a k x=some r) (b:zQ σ (σI x y)) (e:(MI x y,LI x y)=(M,L)):J c n σ M L (ZK c n a r σI MI LI k):=lK x y h b ((Prod.mk.inj e).1▸aY.refl _) ((Prod.mk.inj e).2▸aF.refl _ _)
theorem aN.callQ {A:Type} {ret:A->Value} {MO:A->List bA->List bA} {f:FuncId} {h:List Operand} {vs:List Value} {a:Array TypeId} {e:List bA} {d:Option Tmp} {g:Option (Nat×Bool)} (j:aV P f) (k:aX P f vs.toArray e ret MO (λ_ l=>l)) (m:h.map (ev σ)=vs.map some) (i:aF M L e) (b:∀x l,MO x l=MO x []++l:=by exact λ_ _=>rfl):aN P c n σ M L ⟨d,.call ⟨.value (.func f),h.toArray,a⟩,ty,pos,aft,g⟩ ret (λx=>MO x M) (λ_=>L):=Rf j k m i b
variable {l:List Oper} {m:List Nat} {k0:Nat} {Bs:List (Nat×List bA×List bA)} {rs:List Nat} {i:Nat}
theorem bF (h:(l[i]?,ev σ x,Nat.blt i k0,Nat.blt d n.sz)=(some ⟨some d,.move x,ty,pos,aft,none⟩,some v,true,true)) (k:JR c n ((d,v)::σ) M L [] ((i,[],[])::Bs) (RW P l.toArray Q (before m) (cS l) k0 rs)):JR c n σ M L [] Bs (RW P l.toArray Q (before m) (cS l) k0 (i::rs)):=by
  simp only[Prod.mk.injEq]at h;exact bK h.1 aY.nil Az.nil (gH h.2.1) aL.z k h.2.2.1 Z h.2.2.2
theorem cY [cN P] {T:TypeId} {u w j D:Nat} {z F:Value} {e:Array Field} {s E t:String} {r:Bool} {g a p:Nat} {q:TypeDesc} {b o f:Nat} (h:(l[i]?,ev σ x,cN.tab P T,e[f]?,cN.tab P g,j==0,Nat.blt i k0,Nat.blt d n.sz)=(some ⟨some d,.fieldAddr T x f,ty,pos,aft,none⟩,some (.pointer (some ⟨b,o,none⟩)),some ⟨.struct e,u,w,z⟩,some ⟨s,g,a,r,E,t,p⟩,some ⟨q,j,D,F⟩,false,true,true)) (k:JR c n ((d,.pointer (some ⟨b,o+a,none⟩))::σ) M L [] ((i,[],[])::Bs) (RW P l.toArray Q (before m) (cS l) k0 rs)):JR c n σ M L [] Bs (RW P l.toArray Q (before m) (cS l) k0 (i::rs)):=by
  simp only[Prod.mk.injEq]at h;exact bK h.1 aY.nil Az.nil (dC h.2.1 h.2.2.1 h.2.2.2.1 h.2.2.2.2.1 h.2.2.2.2.2.1) aL.z k h.2.2.2.2.2.2.1 Z h.2.2.2.2.2.2.2
theorem iS [cN P] (p:Nat) {T a:TypeId} {f g:Nat} {z:Value} {e:TypeDesc} {b o:Nat} {cs:List Value} (h:(l[i]?,ev σ x,M[p]?,cN.tab P T,wT e,cs[o]?,Nat.blt i k0,Nat.blt d n.sz)=(some ⟨some d,.load T x,ty,pos,aft,none⟩,some (.pointer (some ⟨b,o,none⟩)),some (bV b cs a),some ⟨e,f,g,z⟩,false,some v,true,true)) (k:JR c n ((d,v)::σ) M L [] ((i,[bV b cs a],[])::Bs) (RW P l.toArray Q (before m) (cS l) k0 rs)):JR c n σ M L [] Bs (RW P l.toArray Q (before m) (cS l) k0 (i::rs)):=by
  simp only[Prod.mk.injEq]at h;exact bK h.1 (aY.cons p h.2.2.1 aY.nil) Az.nil (eG 0 h.2.1 Z h.2.2.2.1 h.2.2.2.2.1 h.2.2.2.2.2.1) aL.z k h.2.2.2.2.2.2.1 Z h.2.2.2.2.2.2.2
theorem mA [cN P] (p:Nat) {T a:TypeId} {f:Nat} {z:Value} {e:TypeDesc} {b:Nat} {cs:List Value} (h:(l[i]?,ev σ x,M[p]?,cN.tab P T,wT e,Nat.blt i k0,Nat.blt d n.sz)=(some ⟨some d,.load T x,ty,pos,aft,none⟩,some (.pointer (some ⟨b,0,none⟩)),some (bV b cs a),some ⟨e,cs.length,f,z⟩,true,true,true)) (k:JR c n ((d,.agg cs.toArray)::σ) M L [] ((i,[bV b cs a],[])::Bs) (RW P l.toArray Q (before m) (cS l) k0 rs)):JR c n σ M L [] Bs (RW P l.toArray Q (before m) (cS l) k0 (i::rs)):=by
  simp only[Prod.mk.injEq]at h;exact bK h.1 (aY.cons p h.2.2.1 aY.nil) Az.nil (fW 0 h.2.1 Z h.2.2.2.1 h.2.2.2.2.1) aL.z k h.2.2.2.2.2.1 Z h.2.2.2.2.2.2
end
theorem AC {X R:Type} {b:X->(X->Option R)->Option R} {r:R} (I:X->Prop) (e:X->Nat)
  (h:∀x f,I x->(∀c,I c->e c<e x->f c=some r)->b x f=some r):∀(a:Nat) (x:X),I x->e x<a->bI b a x=some r:=by
 intro a
 induction a with
 |zero=>intro x _ j;omega
 |succ k l=>
  intro x g j;exact h x _ g λc d i=>l c d (by omega)
def OK {R:Type} (Q:R->Prop) (o:Option R):Prop:=∃r,o=some r∧Q r
theorem xD {X R:Type} {step:X->(X->Option R)->Option R} {Q:R->Prop} (I:X->Prop) (d:X->Nat)
  (h:∀x e,I x->(∀b,I b->d b<d x->OK Q (e b))->OK Q (step x e)):∀(a:Nat) (x:X),I x->d x<a->OK Q (bI step a x):=by
 intro a
 induction a with
 |zero=>intro x _ i;omega
 |succ k j=>
  intro x f i;exact h x _ f λb c g=>j b c (by omega)
theorem cA {b:Type} {p:Prop} [Decidable p] (a:p) (x:Option b):ck p x=x:=if_pos a
theorem wr {x:Int} (a : -9223372036854775808<=x) (b:x<=9223372036854775807):wI .i64 x=x:=if_pos ⟨a,b⟩
theorem bB {a b:Type} {x:Option a} {y:a} {f:a->Option b} (h:x=some y):x.bind f=f y:=by rw[h];rfl
theorem aeR {a:Type} (l r:List a) (x y:a) (i:Nat) (h:l.length=i):(l++x::r).set i y=l++y::r:=by
 rw[List.set_append_right _ _ (by omega)];simp[<-h]
theorem UV {a:Type} [Inhabited a] (l r:List a) (x:a) (i:Nat) (h:l.length=i):at' (l++x::r) (i:Int)=x:=by
 rw[gR,List.getD_eq_getElem?_getD,List.getElem?_append_right (by omega)];simp[<-h]
theorem eS {X R:Type} {step:X->(X->Option R)->Option R} {K:Option R} (N:Nat) (F:Nat->X) (c:∀(k:Nat) g,k<N->step (F k) g=g (F (k+1))) (e:∀g,step (F N) g=K):∀b,N<b->bI step b (F 0)=K:=by
 have i:∀(d a b:Nat),a+d=N->d<b->bI step b (F a)=K:=by
  intro d
  induction d with
  |zero=>
   intro a b j h;obtain rfl:a=N:=by omega
   obtain⟨f,rfl⟩:∃f,b=f+1:=⟨b - 1,by omega⟩
   exact e _
  |succ d l=>
   intro a b j h;obtain⟨f,rfl⟩:∃f,b=f+1:=⟨b - 1,by omega⟩
   show step (F a) (bI step f)=K;rw[c a _ (by omega)];exact l (a+1) f (by omega) (by omega)
 exact λb h=>i N 0 b (by omega) h
theorem yR {X R:Type} {step:X->(X->Option R)->Option R} {K bad:Option R} (N:Nat) (p:Nat->Prop) (F:Nat->X) (r:∀(k:Nat) c,k<N->p k->step (F k) c=c (F (k+1))) (i:∀(k:Nat) c,k<N->¬p k->step (F k) c=bad) (j:∀c,step (F N) c=K):
  ∀b,N<b->((∀k,k<N->p k)->bI step b (F 0)=K)∧(¬(∀k,k<N->p k)->bI step b (F 0)=bad):=by
 have s:∀(d a b:Nat),a+d=N->d<b->((∀k,a<=k->k<N->p k)->bI step b (F a)=K)∧(¬(∀k,a<=k->k<N->p k)->bI step b (F a)=bad):=by
  intro d
  induction d with
  |zero=>
   intro a b t q;obtain rfl:a=N:=by omega
   obtain⟨f,rfl⟩:∃f,b=f+1:=⟨b - 1,by omega⟩
   exact⟨λ_=>j _,λh=>absurd (λk m g=>by omega) h⟩
  | succ d ih =>
   intro a b t q;obtain⟨f,rfl⟩:∃f,b=f+1:=⟨b - 1,by omega⟩
   obtain⟨u,v⟩:=ih (a+1) f (by omega) (by omega);have e:bI step (f+1) (F a)=step (F a) (bI step f):=rfl;rw[e];by_cases n:p a
   ·rw[r a _ (by omega) n];refine⟨λh=>u λk m g=>h k (by omega) g,λh=>v λo=>h λk m g=> ?_⟩
    by_cases l:k=a
    ·subst l;exact n
    ·exact o k (by omega) g
   ·exact⟨λh=>absurd (h a (Nat.le_refl _) (by omega)) n,λ_=>i a _ (by omega) n⟩
 intro b q;obtain⟨m,g⟩:=s N 0 b (by omega) q;exact⟨λh=>m λk _ l=>h k l,λh=>g λo=>h λk l=>o k (by omega) l⟩
theorem D_ {X R:Type} {step:X->(X->Option R)->Option R} {K:X->Option R} (N:Nat) (I:Nat->X->Prop) (e:∀(k:Nat) x i,k<N->I k x->∃c,I (k+1) c∧step x i=i c) (h:∀x i,I N x->step x i=K x):∀b x,I 0 x->N<b->∃c,I N c∧bI step b x=K c:=by
 have m:∀(d a b:Nat) (x:X),a+d=N->d<b->I a x->∃c,I N c∧bI step b x=K c:=by
  intro d
  induction d with
  |zero=>
   intro a b x p l g;obtain rfl:a=N:=by omega
   obtain⟨f,rfl⟩:∃f,b=f+1:=⟨b - 1,by omega⟩
   exact⟨x,g,h _ _ g⟩
  |succ d r=>
   intro a b x p l g;obtain⟨f,rfl⟩:∃f,b=f+1:=⟨b - 1,by omega⟩
   obtain⟨c,j,q⟩:=e a x (bI step f) (by omega) g;obtain⟨s,n,o⟩:=r (a+1) f c (by omega) (by omega) j;exact⟨s,n,by rw[<-o];exact q⟩
 exact λb x g l=>m N 0 b x (by omega) l g
def aac (q:Nat->Bool):Nat->Bool
 |0=>false
 |k+1=>aac q k||q k
theorem WJ {q:Nat->Bool}:∀{k:Nat},aac q k=true↔∃i,i<k∧q i=true
 |0=>by simp[aac]
 | k + 1 => by
  simp only[aac,Bool.or_eq_true,WJ (k:=k)];constructor
  ·rintro(⟨i,b,a⟩|h)
   ·exact⟨i,by omega,a⟩
   ·exact⟨k,by omega,h⟩
  ·rintro⟨i,b,a⟩;by_cases e:i=k
   ·subst e;exact .inr a
   ·exact .inl ⟨i,by omega,a⟩
def BC (p:Nat->Bool):Nat->Nat
 |0=>0
 |k+1=>if p k then BC p k ||| 2^k else BC p k
theorem PD (p:Nat->Bool):∀k,BC p k<2^k
 |0=>by simp[BC]
 |k+1=>by
  have h:=PD p k;simp only[BC];split
  ·exact Nat.or_lt_two_pow (by omega) (Nat.pow_lt_pow_right (by omega) (by omega))
  ·omega
theorem Md (p:Nat->Bool) (j:Nat):∀k,(BC p k).testBit j=(decide (j<k)&&p j)
 |0=>by simp[BC]
 | k + 1 => by
  have h:=Md p j k;simp only[BC];by_cases e:j=k
  ·subst e;cases c:p j<;>simp[h,c]
  ·have a:decide (j<k+1)=decide (j<k):=decide_eq_decide.2 (by omega);have b:¬k=j:=λh=>e h.symm;split
   ·rw[Nat.testBit_or,h,Nat.testBit_two_pow,a];simp[b]
   ·rw[h,a]
end Go.Sx
section
set_option linter.unusedSectionVars false
namespace Go.Sx
open Go.RowKit
section defs
variable {κ ν:Type} [DecidableEq κ]
def Ec (a:κ->Value) (b:ν->Value):Nat->List (κ×ν)->List MapEntry
 |_,[]=>[]
 |i,x::xs=>⟨a x.1,b x.2,i⟩::Ec a b (i+1) xs
def mT (k:κ):List (κ×ν)->Option ν
 | []=>none
 |x::xs=>if k=x.1 then some x.2 else mT k xs
def CP (k:κ) (v:ν):List (κ×ν)->List (κ×ν)
 | []=>[(k,v)]
 |x::xs=>if k=x.1 then(k,v)::xs else x::CP k v xs
def Vn (a:ν->Value) (k:κ):Nat->List (κ×ν)->Option (Nat×Value)
 |_,[]=>none
 |i,x::xs=>if k=x.1 then some (i,a x.2)else Vn a k (i+1) xs
theorem Nu (a:ν->Value) (k:κ):∀(i:Nat) (l:List (κ×ν)),(Vn a k i l).map (·.2)=(mT k l).map a
 |_,[]=>rfl
 |i,x::xs=>by
  simp only[Vn,mT];split
  ·rfl
  ·exact Nu a k (i+1) xs
theorem Kz (a:κ->Value) (b:ν->Value):∀(i:Nat) (l:List (κ×ν)) (x:κ×ν),Ec a b i (l++[x])=Ec a b i l++[⟨a x.1,b x.2,i+l.length⟩]
 |i,[],x=>rfl
 |i,y::ys,x=>by
  simp only[List.cons_append,Ec,Kz a b (i+1) ys x,List.length_cons];rw[show i+1+ys.length=i+(ys.length+1) by omega]
theorem HM (k:κ) (v:ν):∀l:List (κ×ν),mT k l=none->CP k v l=l++[(k,v)]
 | [],_=>rfl
 | x :: xs, h => by
  simp only[mT]at h;split at h
  ·cases h
  ·rename_i a;simp only[CP,if_neg a,HM k v xs h,List.cons_append]
theorem TJ (a:κ->Value) (b:ν->Value) (k:κ) (v:ν):∀(i0 i:Nat) (l:List (κ×ν)) (j:Nat) (u:Value),Vn b k i l=some (j,u)->
  i<=j∧((Ec a b i l)[j - i]?).map (·.key)=some (a k)∧Ec a b i (CP k v l)=(Ec a b i l).modify (j - i) (λe=>{e with key:=a k,val:=b v})∧(CP k v l).length=l.length
 |_,i,[],j,u,h=>by simp[Vn]at h
 | i0, i, x :: xs, j, u, h => by
  simp only[Vn]at h;split at h
  ·rename_i n;simp only[Option.some.injEq,Prod.mk.injEq]at h;obtain⟨rfl,_⟩:=h;simp[Ec,CP,n]
  ·rename_i c;obtain⟨o,f,g,m⟩:=TJ a b k v i0 (i+1) xs j u h;have d:j - i=(j - (i+1))+1:=by omega
   refine⟨by omega,?_,?_,?_⟩
   ·rw[d];simpa [Ec]using f
   ·simp only[CP,if_neg c,Ec];rw[d,List.modify_succ_cons,g]
   ·simp[CP,c,m]
end defs
structure Ju (P:Program) (kt:TypeId) {κ:Type} [DecidableEq κ] (ek:κ->Value):Prop where
 chk:∀b k w,(Instr.checkKey b 10000 kt (ek k)).run P w = .ok () w
 find:∀{ν:Type} (ev:ν->Value) (k:κ) (l:List (κ×ν)) w,(Instr.findKey kt (ek k) (Ec ek ev 0 l)).run P w = .ok (Vn ev k 0 l) w
 same:∀k,Instr.sameBits 10000 (ek k) (ek k)=true
def Mp {b c:Type} (d:b->Value) (e:c->Value) (r:Nat) (l:List (b×c)):bA where
 p w F:=F r∧w.heap[r]? = some (.map (Ec d e 0 l).toArray l.length)
 mono:=fun⟨f,a⟩ h=>by
  obtain⟨g,i⟩:=h r f (Array.getElem?_eq_some_iff.1 a).1;exact⟨g,by rw[i];exact a⟩
section
variable {P:Program} {rd:Option Nat} {c:uF} {n:Sz} {σ:Fr} {M L:List bA} {Q:Exit->Act->World->Prop} {ops:Array Oper} {rest:List Oper}
variable {d:Option Tmp} {ty:TypeId} {pos:String} {aft:Array Edge} {g:Option (Nat×Bool)}
theorem St.push {w:World} (t:St c M L w) (o:Obj) {m:bA} (z:m.p (w.alloc o) (λk=>k=w.heap.size)):St c (m::M) L (w.alloc o):=by
 have e:MQ w (w.alloc o):=(Below.refl _ _).alloc (Nat.le_refl _) _;obtain⟨v,F,b,x⟩:=t;have u:∀k,k<w.heap.size->(w.alloc o).heap[k]? = w.heap[k]? := e.block;refine⟨v.trans e,λi k=>match i with|0=>k=w.heap.size|i+1=>F i k,⟨?_,?_,?_⟩,λf y=> ?_⟩
 ·intro i A a;cases i with
  |zero=>simp at a;subst a;exact z
  |succ i=>exact bA.same (b.res i A (by simpa using a)) (λ_ h=>h) (λk _ s=>u k s)
 ·intro i k q;cases i with
  |zero=>subst q;exact⟨.inl v.size,by simp⟩
  |succ i=>exact⟨(b.rng i k q).1,Nat.lt_of_lt_of_le (b.rng i k q).2 e.size⟩
 ·intro i j k l r;cases i with
  |zero=>
   cases j with
   |zero=>rfl
   |succ j=>have:=(b.rng j k r).2;simp only at l;omega
  |succ i=>
   cases j with
   |zero=>have:=(b.rng i k l).2;simp only at r;omega
   |succ j=>exact congrArg (· + 1) (b.dis i j k l r)
 ·exact f.mono (x f y) λk q s=>⟨⟨q.1,λi l=>by
   cases i with
   |zero=>simp only at l;omega
   |succ i=>exact q.2 i l⟩,u k s⟩
variable {κ ν:Type} [DecidableEq κ] {ek:κ->Value} {ev:ν->Value}
theorem aN.makeMap (ek:κ->Value) (ev:ν->Value) {T:TypeId}:aN P c n σ M L ⟨d,.makeMap T none,ty,pos,aft,g⟩ (λr:Nat=> .map (some r)) (λr=>Mp ek ev r []::M) (λ_=>L):=λa w s t=>by
 have b:(execOp a.eval ⟨d,.makeMap T none,ty,pos,aft,g⟩).run P w = .ok (.value (.map (some w.heap.size))) (w.alloc (.map #[] 0)):=by
  simp[execOp,Instr.makeMap]
 simp only[Oper.wp,b,Oper.upon];exact⟨w.heap.size,rfl,t.push _ ⟨rfl,heap_alloc_new w _⟩⟩
theorem SH [cN P] {T j m:TypeId} {C D E G:Nat} {z f:Value} {o:TypeDesc} {w:World} {r:Nat} {l:List (κ×ν)} {F:Nat->Prop} (i:Ju P j ek) (q:(Mp ek ev r l).p w F)
  (s:cN.tab P T=some ⟨.map j m,C,D,z⟩) (t:cN.tab P m=some ⟨o,E,G,f⟩) (k:κ) (b:Bool):
  (Instr.lookup T (.map (some r)) (ek k) b).run P w = .ok (if b then .tuple #[((mT k l).map ev).getD f,.bool (mT k l).isSome]else((mT k l).map ev).getD f) w:=by
 have y:(getObj r).run P w = .ok (.map (Ec ek ev 0 l).toArray l.length) w:=by
  simp[getObj,Sem.run,q.2]
 have u:=i.find ev k l w;have a:=Nu ev k 0 l;simp only[Instr.lookup];simp[(cN.ok s).run_und w,y,i.chk,u];cases e:Vn ev k 0 l with
 |none=>
  rw[e]at a;have:mT k l=none:=by cases h:mT k l<;>simp[h]at a ⊢
  simp[this,(cN.ok t).run_zero w]
 | some x =>
  rw[e]at a;obtain⟨v,A,B⟩:∃v,mT k l=some v∧ev v=x.2:=by
   cases h:mT k l with
   |none=>simp[h]at a
   |some v=>simp[h]at a;exact⟨v,rfl,a.symm⟩
  simp[A,B]
theorem OX [cN P] (j:Nat) {T e f:TypeId} {D E G H:Nat} {z h:Value} {i:TypeDesc} {x y:Operand} {r:Nat} {l:List (κ×ν)} (k:κ) {b:Bool} (v:Ju P e ek) (B:Go.Sx.ev σ x=some (.map (some r))) (C:Go.Sx.ev σ y=some (ek k)) (q:M[j]? = some (Mp ek ev r l))
  (o:cN.tab P T=some ⟨.map e f,D,E,z⟩) (p:cN.tab P f=some ⟨i,G,H,h⟩) {u:Value} (A:((mT k l).map ev).getD h=u):
  Y P c n σ M L ⟨d,.lookup T x y b,ty,pos,aft,g⟩ (if b then .tuple #[u,.bool (mT k l).isSome]else u):=λa w s t=>by
 obtain⟨F,m⟩:=t.res q;subst A;simp[execOp,s.eval B,s.eval C,SH v m o p]
theorem Eg {w:World} {r:Nat} {a:Array MapEntry} {k:Nat} (h:w.heap[r]? = some (.map a k)) (o:Obj):(setObj r o).run P w = .ok () {w with heap:=w.heap.setIfInBounds r o}:=by
 simp[setObj,Sem.run,h]
theorem St.setMap {w:World} (t:St c M L w) {j r:Nat} {l b:List (κ×ν)} (f:M[j]? = some (Mp ek ev r l)) (o:Obj) (m:o = .map (Ec ek ev 0 b).toArray b.length):
  St c (M.set j (Mp ek ev r b)) L {w with heap:=w.heap.setIfInBounds r o}:=
 t.upd f Z Z Z (by simp) λF a _=>⟨λk _ i=>by
   rw[Array.getElem?_setIfInBounds_ne (λe=>i (by subst e;exact a.1))],F,⟨a.1,by
    rw[Array.getElem?_setIfInBounds_self_of_lt (Array.getElem?_eq_some_iff.1 a.2).1,m]⟩,λ_ h=> .inl h⟩
theorem Oo [cN P] (j:Nat) {T R vt:TypeId} {s1 s2:Nat} {z:Value} {x y v:Operand} {r:Nat} {l:List (κ×ν)} (k:κ) (f:ν) (C:Ju P R ek) (Y:Go.Sx.ev σ x=some (.map (some r))) (hy:Go.Sx.ev σ y=some (ek k)) (X:Go.Sx.ev σ v=some (ev f)) (K:M[j]? = some (Mp ek ev r l))
  (I:cN.tab P T=some ⟨.map R vt,s1,s2,z⟩) (h:J c n σ (M.set j (Mp ek ev r (CP k f l))) L (wpList P ops Q rest)):
  J c n σ M L (wpList P ops Q (⟨none,.mapUpdate T x y v,ty,pos,aft,none⟩::rest)):=λa w s t=>by
 refine mO Z ?_;obtain⟨F,E⟩:=t.res K;have N:(getObj r).run P w = .ok (.map (Ec ek ev 0 l).toArray l.length) w:=by
  simp[getObj,Sem.run,E.2]
 have b:=C.find ev k l w;have A:=Nu ev k 0 l;have B:∃o:Obj,(execOp a.eval ⟨none,.mapUpdate T x y v,ty,pos,aft,none⟩).run P w = .ok .skip {w with heap:=w.heap.setIfInBounds r o}∧o = .map (Ec ek ev 0 (CP k f l)).toArray (CP k f l).length:=by
  simp only[execOp,s.eval Y,s.eval hy,s.eval X,Instr.mapUpdate];cases m:Vn ev k 0 l with
  |none=>
   rw[m]at A b;have U:mT k l=none:=by cases h:mT k l<;>simp[h]at A ⊢
   refine⟨.map (Ec ek ev 0 l++[(⟨ek k,ev f,l.length⟩:MapEntry)]).toArray (l.length+1),by simp[(cN.ok I).run_und w,N,C.chk,b,Eg E.2],?_⟩
   rw[HM k f l U,Kz];simp
  | some q =>
   obtain⟨i,u⟩:=q;rw[m]at b;obtain⟨_,D,H,S⟩:=TJ ek ev k f 0 0 l i u m;rw[Nat.sub_zero]at D H;have O:(((Ec ek ev 0 l).toArray[i]?).map (·.key)).getD (ek k)=ek k:=by
    rw[List.getElem?_toArray,D];rfl
   refine⟨.map ((Ec ek ev 0 l).toArray.modify i λe=>{e with key:=ek k,val:=ev f}) l.length,?_,?_⟩
   ·have G:(Instr.keyThatStays (ek k) (ek k)).run P w = .ok (ek k) w:=by simp[Instr.keyThatStays,C.same k]
    have p:(Option.map (λx=>x.key) (Ec ek ev 0 l)[i]?).getD (ek k)=ek k:=by rw[D];rfl
    simp[(cN.ok I).run_und w,N,C.chk,b,p,G,Eg E.2]
   ·rw[H,S];simp
 obtain⟨o,W,V⟩:=B;simp only[Oper.wp,W,Oper.upon];exact h _ _ s (t.setMap K o V)
end
end Go.Sx
end
section
set_option linter.unusedSectionVars false
namespace Go.Sx
open Go.RowKit Go.ChangeMaps
def It (b m a:Nat) (c:List Nat):bA where
 p w F:=F b∧w.heap[b]? = some (.mapIter (some m) a c.toArray a)
 mono:=fun⟨e,d⟩ h=>by
  obtain⟨f,g⟩:=h b e (Array.getElem?_eq_some_iff.1 d).1;exact⟨f,by rw[g];exact d⟩
section
variable {κ ν:Type} [DecidableEq κ] {ek:κ->Value} {ev:ν->Value} {R:Type}
theorem NJ (ek:κ->Value) (ev:ν->Value):∀(k:Nat) (l:List (κ×ν)) (e:MapEntry),e∈Ec ek ev k l->∃i a,l[i]? = some a∧e=⟨ek a.1,ev a.2,k+i⟩
 |_,[],e,h=>by simp[Ec]at h
 | k, x :: xs, e, h => by
  rcases List.mem_cons.1 h with rfl|h
  ·exact⟨0,x,rfl,rfl⟩
  ·obtain⟨i,a,b,c⟩:=NJ ek ev (k+1) xs e h;exact⟨i+1,a,b,by rw[c,show k+1+i=k+(i+1) by omega]⟩
theorem NH (ek:κ->Value) (ev:ν->Value):∀(k:Nat) (l:List (κ×ν)) (i:Nat) (a:κ×ν),l[i]? = some a->(⟨ek a.1,ev a.2,k+i⟩:MapEntry)∈Ec ek ev k l
 |_,[],i,a,h=>by simp at h
 |k,x::xs,0,a,h=>by simp at h;subst h;exact List.mem_cons_self
 |k,x::xs,i+1,a,h=>by
  have:=NH ek ev (k+1) xs i a (by simpa using h);rw[show k+1+i=k+(i+1) by omega]at this;exact List.mem_cons_of_mem _ this
theorem PL (ek:κ->Value) (ev:ν->Value):∀(k:Nat) (l:List (κ×ν)),(Ec ek ev k l).map (·.born)=List.range' k l.length
 |_,[]=>rfl
 |k,x::xs=>by simp[Ec,PL ek ev (k+1) xs,List.range'_succ]
def Lm (a:κ×ν->Option R->Option R) (K:Option R) (l:List (κ×ν)):Option R:=l.foldr a K
def rem (l:List (κ×ν)) (a:List Nat):List (κ×ν):=((List.range l.length).filter (λi=> !a.contains i)).filterMap (λi=>l[i]?)
theorem Mh:∀l:List (κ×ν),(List.range l.length).filterMap (λi=>l[i]?)=l
 | []=>rfl
 |x::xs=>by
  rw[List.length_cons,List.range_succ_eq_map,List.filterMap_cons];simp only[List.getElem?_cons_zero,List.filterMap_map];congr 1;have:=Mh xs;simpa [Function.comp_def]using this
theorem abO (l:List (κ×ν)):rem l []=l:=by
 unfold rem;rw[List.filter_eq_self.2 (by simp),Mh]
theorem YP {l:List (κ×ν)} {a:List Nat} {i:Nat} {m:κ×ν} (k:l[i]? = some m) (t:i∉a):∃n o,rem l a=n++m::o∧rem l (a++[i])=n++o:=by
 have g:=bD k;have d:i∈(List.range l.length).filter (λi=> !a.contains i):=by simp[g,t]
 obtain⟨A,B,b⟩:=List.append_of_mem d;have c:((List.range l.length).filter (λi=> !a.contains i)).Nodup:=List.Pairwise.filter _ List.nodup_range;rw[b]at c;have r:i∉A:=λh=>by
  have:=(List.nodup_append.1 c).2.2 i h i List.mem_cons_self;exact this Z
 have s:i∉B:=λh=>by
  have:=(List.nodup_cons.1 (List.nodup_append.1 c).2.1).1;exact this h
 refine⟨A.filterMap (λi=>l[i]?),B.filterMap (λi=>l[i]?),?_,?_⟩
 ·unfold rem;rw[b,List.filterMap_append,List.filterMap_cons,k]
 ·unfold rem;have e:(List.range l.length).filter (λj=> !(a++[i]).contains j)=((List.range l.length).filter (λj=> !a.contains j)).filter (λj=>decide (j≠i)):=by
   rw[List.filter_filter];apply List.filter_congr;intro j _;rw[Bool.eq_iff_iff];simp[and_comm]
  rw[e,b,List.filter_append,List.filter_cons];have p:A.filter (λj=>decide (j≠i))=A:=List.filter_eq_self.2 (λj f=>by simp;rintro rfl;exact r f);have q:B.filter (λj=>decide (j≠i))=B:=List.filter_eq_self.2 (λj f=>by simp;rintro rfl;exact s f);rw[p,q,List.filterMap_append.symm];simp
theorem Mf {c:κ×ν->Option R->Option R} (f:∀a b x,c a (c b x)=c b (c a x)) (K:Option R) (d:κ×ν) (e:List (κ×ν)):∀g:List (κ×ν),Lm c K (g++d::e)=c d (Lm c K (g++e))
 | []=>rfl
 |x::xs=>by
  have:=Mf f K d e xs;unfold Lm at this ⊢;rw[List.cons_append,List.cons_append,List.foldr_cons,List.foldr_cons,this,f]
end
section
variable {P:Program} {rd:Option Nat} {c:uF} {n:Sz} {σ σ':Fr} {M L M' L':List bA} {Q:Exit->Act->World->Prop} {ops:Array Oper} {rest:List Oper}
variable {d:Option Tmp} {ty:TypeId} {pos:String} {aft:Array Edge} {g:Option (Nat×Bool)}
variable {κ ν:Type} [DecidableEq κ] {ek:κ->Value} {ev:ν->Value} {R:Type}
theorem aN.range [cN P] (j:Nat) {T f h:TypeId} {q r:Nat} {z:Value} {x:Operand} {m:Nat} {l:List (κ×ν)} (p:Go.Sx.ev σ x=some (.map (some m))) (o:M[j]? = some (Mp ek ev m l)) (k:cN.tab P T=some ⟨.map f h,q,r,z⟩):
  aN P c n σ M L ⟨d,.range T x,ty,pos,aft,g⟩ (λb:Nat=> .pointer (some ⟨b,0,none⟩)) (λb=>It b m l.length []::M) (λ_=>L):=λa w s t=>by
 obtain⟨F,i⟩:=t.res o;have e:(execOp a.eval ⟨d,.range T x,ty,pos,aft,g⟩).run P w = .ok (.value (.pointer (some ⟨w.heap.size,0,none⟩))) (w.alloc (.mapIter (some m) l.length #[] l.length)):=by
  simp[execOp,s.eval p,run_range_map w T f h m _ _ (cN.ok k).und i.2]
 simp only[Oper.wp,e,Oper.upon];exact⟨w.heap.size,rfl,t.push _ ⟨rfl,heap_alloc_new w _⟩⟩
def GI (ek:κ->Value) (ev:ν->Value) (l:List (κ×ν)):Option Nat->Value
 |none=> .tuple #[.bool false]
 |some i=>match l[i]? with
  |some a=> .tuple #[.bool true,ek a.1,ev a.2]
  |none=>undef
def aeD (b:Nat) (a:List Nat):Option Nat->Prop
 |none=>∀i,i<b->i∈a
 |some i=>i<b∧i∉a
def T_ (M:List bA) (f b m e:Nat) (a:List Nat):Option Nat->List bA
 |none=>M
 |some i=>M.set f (It b m e (a++[i]))
theorem St.pureL {w:World} {p:Prop} (hp:p) (t:St c M L w):St c M (acT p::L) w:=by
 obtain⟨ho,F,hF,hL⟩:=t;refine⟨ho,F,hF,λf hf=> ?_⟩
 rcases List.mem_cons.1 hf with rfl|hf
 ·exact hp
 ·exact hL f hf
theorem aN.next (jm ji:Nat) {x:Operand} {b m:Nat} {l:List (κ×ν)} {seen:List Nat} (hx:Go.Sx.ev σ x=some (.pointer (some ⟨b,0,none⟩))) (hf:M[jm]? = some (Mp ek ev m l)) (hi:M[ji]? = some (It b m l.length seen)):
  aN P c n σ M L ⟨d,.next x false,ty,pos,aft,g⟩ (GI ek ev l) (T_ M ji b m l.length seen) (λo=>acT (aeD l.length seen o)::L):=λa w s t=>by
 obtain⟨F,hF⟩:=t.res hf;obtain⟨G,hG⟩:=t.res hi;have hold:∀e∈(Ec ek ev 0 l).toArray.toList,e.born<l.length:=λe he=>by
  obtain⟨i,kv,h1,h2⟩:=NJ ek ev 0 l e (by simpa using he);rw[h2];have:=bD h1;simp;omega
 rcases run_next_at (P:=P) w ty b m l.length l.length seen.toArray (Ec ek ev 0 l).toArray l.length hG.2 hF.2 hold (Nat.le_refl _)with⟨h0,hr⟩|⟨e,he,w1,hw1,hr⟩
 ·have hrun:(execOp a.eval ⟨d,.next x false,ty,pos,aft,g⟩).run P w = .ok (.value (.tuple #[.bool false])) w:=by
   simp[execOp,s.eval hx,hr]
  simp only[Oper.wp,hrun,Oper.upon];refine⟨none,rfl,t.pureL λi hi'=> ?_⟩
  obtain⟨kv,hkv⟩:∃kv,l[i]? = some kv:=⟨_,List.getElem?_eq_getElem hi'⟩
  have:=all_seen _ _ h0 _ (by simpa using NH ek ev 0 l i kv hkv);simpa using this
 ·have hml:=_root_.Go.mem_left he;obtain⟨i,kv,h1,h2⟩:=NJ ek ev 0 l e (by simpa using hml.1);subst h2;rw[Nat.zero_add]at hr hml;have hrun:(execOp a.eval ⟨d,.next x false,ty,pos,aft,g⟩).run P w = .ok (.value (.tuple #[.bool true,ek kv.1,ev kv.2])) (setBlock w1 b (.mapIter (some m) l.length (seen.toArray.push i) l.length)):=by
   simp[execOp,s.eval hx,hr]
  simp only[Oper.wp,hrun,Oper.upon];have t1:St c M L w1:=by
   rcases hw1 with rfl|rfl
   ·exact t
   ·exact t.ext ((Below.refl _ _).drew)
  refine⟨some i,by simp[GI,h1],St.pureL ⟨bD h1,by simpa using hml.2⟩ ?_⟩
  refine t1.upd hi Z Z Z (by simp[setBlock]) λF hF _=>⟨λk _ hk=> ?_,F,⟨hF.1,?_⟩,λ_ h=> .inl h⟩
  ·simp only[setBlock];rw[Array.getElem?_setIfInBounds_ne (λe=>hk (by subst e;exact hF.1))]
  ·simp only[setBlock];rw[Array.getElem?_setIfInBounds_self_of_lt (Array.getElem?_eq_some_iff.1 hF.2).1];simp
theorem aN.entry (A z:Nat) {x:Operand} {b m i:Nat} {l:List (κ×ν)} {f:List Nat} {e:κ×ν} (j:l[i]? = some e) (y:Go.Sx.ev σ x=some (.pointer (some ⟨b,0,none⟩))) (q:M[A]? = some (Mp ek ev m l)) (r:M[z]? = some (It b m l.length (f++[i]))):
  aN P c n σ M L ⟨d,.entry x,ty,pos,aft,g⟩ (λ_:Unit=> .tuple #[ek e.1,ev e.2]) (λ_=>M) (λ_=>L):=λa w s t=>by
 obtain⟨F,o⟩:=t.res q;obtain⟨G,p⟩:=t.res r;have k:=NH ek ev 0 l i e j;rw[Nat.zero_add]at k;have u:((Ec ek ev 0 l).toArray.toList.map (·.born)).Nodup:=by
  simp only[PL];exact List.nodup_range'
 have v:=run_entry_at (P:=P) w b m l.length f.toArray (Ec ek ev 0 l).toArray l.length ⟨ek e.1,ev e.2,i⟩ (by rw[p.2];simp) o.2 (by simpa using k) u;have h:(execOp a.eval ⟨d,.entry x,ty,pos,aft,g⟩).run P w = .ok (.value (.tuple #[ek e.1,ev e.2])) w:=by
  simp[execOp,s.eval y,v]
 simp only[Oper.wp,h,Oper.upon];exact⟨(),by first|rfl|trivial,t⟩
theorem ZQ {G:Act->World->Prop} (σ':Fr) (M' L':List bA) (f:zQ σ σ') (e:aY M M') (b:aF [] L L') (h:J c n σ' M' L' G):J c n σ M L G:=λa w s t=>h a w (s.weak f) (t.weakE e b)
theorem Re {e:TypeId} {d:TypeDesc} (p:P.underlying e=some d) (m:∀b k w,(Instr.checkKey b 10000 e (ek k)).run P w = .ok () w) (o:∀a b,Instr.sameNow d (ek a) (ek b)=none)
  (r:∀a b w,(Op.equal e (ek a) (ek b)).run P w = .ok (decide (a=b)) w) (f:∀k,Instr.sameBits 10000 (ek k) (ek k)=true):Ju P e ek:=by
 refine⟨m,λ{ν'} ev' k l w=> ?_,f⟩
 have j:∀(l:List (κ×ν')) (i:Nat),(Instr.findAsking e (ek k) (Ec ek ev' i l) i).run P w = .ok (Vn ev' k i l) w:=by
  intro l
  induction l with
  |nil=>intro i;simp[Ec,Vn,Instr.findAsking]
  |cons x q t=>
   intro i;simp only[Ec,Vn,Instr.findAsking];simp[r];by_cases h:k=x.1
   ·simp[h]
   ·simp[h,t]
 unfold Instr.findKey;cases l with
 |nil=>simp[Ec,Vn,Instr.findNow,run_underlying p w]
 |cons x q=>
  have s:Instr.findNow d (ek k) (Ec ek ev' 0 (x::q)) 0=none:=by simp[Ec,Instr.findNow,o]
  simp[run_underlying p w,s,j]
def Wr {R:Type} (c:uF) (n:Sz) (σ:Fr) (M L:List bA) (x:Option R) (r:R) (a:Act) (w:World):Prop:=x=some r∧FB n σ a∧St c M L w
theorem Rb {R:Type} {x:Option R} {r:R} (h:x=some r) (e:zQ σ' σ) (b:aY M' M) (a:aF [] L' L):J c n σ' M' L' (Wr c n σ M L x r):=λ_ _ s t=>⟨h,s.weak e,t.weakE b a⟩
theorem UG (p:κ×ν->Option R->Option R) {K:Option R} {r:R} (O s:Nat) {b m:Nat} {l:List (κ×ν)} (hc:∀a b x,p a (p b x)=p b (p a x)) (h:Lm p K l=some r)
  (hf:M[O]? = some (Mp ek ev m l)) (U:M[s]? = some (It b m l.length [])) (af:Nat.beq s O=false) {t0 S T:Tmp} (hx:lk σ t0=some (.pointer (some ⟨b,0,none⟩))) (ab:Nat.blt S n.sz=true) (E:Nat.blt T n.sz=true)
  {id ex:Nat} {y1 y2:TypeId} {q1 q2:String} {f1 f2:Array Edge} {y:Code}
  (C:∀(t:κ×ν) (i:Nat) (k:List Nat) (x:Option R),l[i]? = some t->p t x=some r->
   J c n ((T,.bool true)::(S,.tuple #[.bool true,ek t.1,ev t.2])::σ) (M.set s (It b m l.length (k++[i]))) L (y.wpr rd P (Exit.then (Wr c n σ (M.set s (It b m l.length (k++[i]))) L x r) Q)))
  (V:∀k,K=some r->J c n ((T,.bool false)::(S,.tuple #[.bool false])::σ) (M.set s (It b m l.length k)) L (Q (.exit ex))):
  J c n σ M L ((Code.loop (Code.seq (Code.region id [⟨some S,.next (.tmp t0) false,y1,q1,f1,none⟩,⟨some T,.extract (.tmp S) 0,y2,q2,f2,none⟩].toArray false) (Code.seq (Code.cond (.tmp T) .skip (.exit ex)) y))).wpr rd P Q):=by
 have z:=bD U;have ae:O≠s:=λe=>by subst e;simp at af
 have H:M.set s (It b m l.length [])=M:=by
  apply List.ext_getElem?;intro q;by_cases eq:q=s
  ·subst eq;rw[List.getElem?_set_self z,U]
  ·rw[List.getElem?_set_ne (Ne.symm eq)]
 refine Wh (X:=List Nat) (λk=>k.Nodup∧(∀i∈k,i<l.length)∧Lm p K (rem l k)=some r) (λ_=>σ) (λk=>M.set s (It b m l.length k)) (λ_=>L) (λk=>l.length - k.length) [] ⟨List.nodup_nil,by simp,by rw[abO];exact h⟩ (zQ.refl _) (by rw[H];exact aY.refl _) (λ_ h=>h) ?_;rintro k ⟨G,F,v⟩;have ac:(M.set s (It b m l.length k))[O]? = some (Mp ek ev m l):=by rw[List.getElem?_set_ne (Ne.symm ae)];exact hf
 have ad:(M.set s (It b m l.length k))[s]? = some (It b m l.length k):=List.getElem?_set_self z;refine aK (aO (aG (aN.next O s (x:= .tmp t0) hx ac ad) ab λo=> ?_));refine acP List.mem_cons_self λho=> ?_;refine acR (M':=T_ (M.set s (It b m l.length k)) s b m l.length k o) (L':=L) ?_ (zQ.refl _) (aY.refl _) (λf hf=>List.mem_cons_of_mem _ hf);cases o with
 | none =>
  refine aB (pR (vs:=[.bool false]) (by simp[GI,lk,Go.Sx.ev]) Z) E (eT (Bw (aK (IM (by simp[lk,Go.Sx.ev]) (qO (eM (eM ?_)))))));refine V k ?_;have:rem l k=[]:=by
   unfold rem;rw[List.filter_eq_nil_iff.2 (λi U=>by simpa using ho i (by simpa using U))];rfl
  rw[this]at v;exact v
 | some i =>
  obtain⟨W,Y⟩:=ho;obtain⟨t,A⟩:∃t,l[i]? = some t:=⟨_,List.getElem?_eq_getElem W⟩
  have N:GI ek ev l (some i) = .tuple #[.bool true,ek t.1,ev t.2]:=by simp[GI,A]
  obtain⟨l1,l2,e1,e2⟩:=YP A Y;have B:p t (Lm p K (rem l (k++[i])))=some r:=by
   rw[e2,<-Mf hc K t l2 l1,<-e1];exact v
  have aa:T_ (M.set s (It b m l.length k)) s b m l.length k (some i)=M.set s (It b m l.length (k++[i])):=by simp[T_]
  rw[N,aa];refine aB (pR (vs:=[.bool true,ek t.1,ev t.2]) (by simp[lk,Go.Sx.ev]) Z) E (eT (Bw (aK (Ta (by simp[lk,Go.Sx.ev]) (dW (Bw ?_))))));refine Wi (C t i k _ A B) λa w hw=>Hj (λe a' w' q=> ?_) hw;cases e with
  | normal =>
   obtain⟨ai,ag,ah⟩:=q;refine⟨k++[i],⟨?_,?_,ai⟩,?_,ag,ah⟩
   ·rw[List.nodup_append];exact⟨G,by simp,λa ha b D=>by simp at D;subst D;rintro rfl;exact Y ha⟩
   ·intro j u;rcases List.mem_append.1 u with u|u
    ·exact F j u
    ·simp at u;subst u;exact W
   ·have:k.length<l.length:=by
     have I:(k++[i]).length<=(List.range l.length).length:=by
      apply List.Nodup.length_le_of_subset
      ·rw[List.nodup_append];exact⟨G,by simp,λa ha b D=>by simp at D;subst D;rintro rfl;exact Y ha⟩
      ·intro j u;rcases List.mem_append.1 u with u|u
       ·simpa using F j u
       ·simp at u;subst u;simpa using W
     simp at I;omega
    simp;omega
  |exit id=>exact q
  |goto l=>exact q
  |ret=>exact q
  |panic ch=>exact q
  |outgrown=>exact q
end
end Go.Sx
end
namespace Go.Sx
open Go.RowKit
section
variable {P:Program} {rd:Option Nat} {c:uF} {n:Sz} {σ σ':Fr} {M L M' L':List bA} {Q:Exit->Act->World->Prop} {ops:Array Oper} {rest:List Oper} {K:Act->World->Prop} {G:Act->World->Prop}
variable {d:Option Tmp} {D:Nat} {ty:TypeId} {pos:String} {aft:Array Edge} {g:Option (Nat×Bool)}
variable {α β:Type} {e:cZ α} {r:eH α}
def Fz (P:Program) (f:FuncId) (a:Array Value) (Min L:List bA) {A:Type} (b:A->Value) (h:A->List bA->List bA):Prop:=
 ∀c:uF,St c Min L c.w0->Calls P f a c.w0 λe i=>∃x:A,e = .returned (b x)∧St c (h x []) [] i
theorem Fz.of {A:Type} {b:A->Value} {q:A->List bA->List bA} {f:FuncId} {i:Func} {a:Code} {vs:List Value} {m:Nat} {Min:List bA}
  (u:P.funcs[f]? = some i) (s:i.body=some a) (x:i.ntmps=m) (w:Nat.ble vs.length m=true)
  (h:∀c:uF,J c ⟨m,[]⟩ (xA 0 vs) Min L (a.wpr none P (gS P i (MW c b q (λ_ l=>l))))):Fz P f vs.toArray Min L b q:=λc t=>by
 have o:vs.length<=m:=by simpa using w
 refine tH u s (h c _ _ ⟨rfl,by simp[x,o],?_⟩ t);intro t v y;obtain⟨_,j⟩:=DX vs 0 t v y;rw[Nat.sub_zero]at j;have p:t<vs.length:=by
  rcases Nat.lt_or_ge t vs.length with k|k
  ·exact k
  ·rw[List.getElem?_eq_none k]at j;cases j
 rw[Array.getElem?_append_left (by simpa using p)];simpa using j
theorem WB {w S:World} {l H v:List bA} {F:Nat->Nat->Prop} {U:Nat->Prop} (y:BY c.O c.w0 w) (o:Own c w (l++H) F) (Y:∀f∈L,f.p w (Dm c F))
  (t:St ⟨w,U,λk=>∃i,i<l.length∧F i k⟩ v [] S):St c (v++H) L S:=by
 obtain⟨s,T,u,_⟩:=t;have C:=s.size;have x:∀k,k<w.heap.size->(∀i,i<l.length->¬F i k)->S.heap[k]? = w.heap[k]? := λk a hn=>s.block k a (fun⟨i,B,o⟩=>hn i B o);have b:∀i k,T i k->w.heap.size<=k∨∃j,j<l.length∧F j k:=λi k a=>(u.rng i k a).1;refine⟨⟨s.os.trans y.os,s.tape.trans y.tape,s.output.trans y.output,Nat.le_trans y.size C,λk a W=> ?_⟩,
  λi k=>(i<v.length∧T i k)∨(v.length<=i∧F (i - v.length+l.length) k),⟨?_,?_,?_⟩,λf hf=> ?_⟩
 ·refine(x k (Nat.lt_of_lt_of_le a y.size) (λi _ I=> ?_)).trans (y.block k a W);rcases(o.rng i k I).1 with h|h
  ·omega
  ·exact W h
 ·intro i m E;by_cases B:i<v.length
  ·rw[List.getElem?_append_left B]at E;exact bA.same (u.res i m E) (λk a=> .inl ⟨B,a⟩) (λ_ _ _=>rfl)
  ·rw[List.getElem?_append_right (by omega)]at E;have R:(l++H)[i - v.length+l.length]? = some m:=by
    rw[List.getElem?_append_right (by omega),Nat.add_sub_cancel];exact E
   exact bA.same (o.res _ m R) (λk a=> .inr ⟨by omega,a⟩) (λk a N=>x k N (λj X J=>by have:=o.dis _ _ k J a;omega))
 ·rintro i k (⟨_,a⟩|⟨_,a⟩)
  ·refine⟨?_,(u.rng i k a).2⟩
   rcases b i k a with h|⟨j,_,h⟩
   ·exact .inl (Nat.le_trans y.size h)
   ·exact(o.rng j k h).1
  ·exact⟨(o.rng _ k a).1,Nat.lt_of_lt_of_le (o.rng _ k a).2 C⟩
 ·rintro i j k (⟨B,z⟩|⟨B,z⟩) (⟨X,A⟩|⟨X,A⟩)
  ·exact u.dis i j k z A
  ·rcases b i k z with h|⟨q,hq,h⟩
   ·have:=(o.rng _ k A).2;omega
   ·have:=o.dis _ _ k h A;omega
  ·rcases b j k A with h|⟨q,hq,h⟩
   ·have:=(o.rng _ k z).2;omega
   ·have:=o.dis _ _ k h z;omega
  ·have:=o.dis _ _ k z A;omega
 ·refine f.mono (Y f hf) λk a N=>⟨⟨a.1,?_⟩,x k N (λi _=>a.2 i)⟩
  rintro i (⟨_,h⟩|⟨_,h⟩)
  ·rcases b i k h with V|⟨q,_,V⟩
   ·omega
   ·exact a.2 q V
  ·exact a.2 _ h
theorem UP {w:World} {a u t:List bA} {F:Nat->Nat->Prop} (o:Own c w (a++u) F) (y:∀f∈L,f.p w (Dm c F)) (B:aF u L t):
  St ⟨w,λk=>∀i,i<a.length->¬F i k,λk=>∃i,i<a.length∧F i k⟩ a t w:=by
 refine⟨BY.refl _,λi k=>i<a.length∧F i k,⟨λi m s=> ?_,λi k b=>⟨.inr ⟨i,b⟩,(o.rng i k b.2).2⟩,λi j k v x=>o.dis i j k v.2 x.2⟩,λf z=> ?_⟩
 ·have l:i<a.length:=by
   rcases Nat.lt_or_ge i a.length with q|q
   ·exact q
   ·rw[List.getElem?_eq_none q]at s;cases s
  exact bA.same (o.res i m (by rw[List.getElem?_append_left l];exact s)) (λk b=>⟨l,b⟩) (λ_ _ _=>rfl)
 ·refine B f z w (Dm c F) (λj k=>F (j+a.length) k) _ y (λj m A=> ?_) (λk b=> ?_) (λj k b=> ?_)
  ·exact o.res _ m (by rw[List.getElem?_append_right (by omega),Nat.add_sub_cancel];exact A)
  ·exact⟨.inl λi _=>b.2 i,λi l=>b.2 i l.2⟩
  ·exact⟨.inl λi l h=>by have:=o.dis _ _ k h b;omega,λi l=>by have:=o.dis _ _ k l.2 b;omega⟩
theorem Fy {A:Type} {k:A->Value} {m:A->List bA->List bA} {f:FuncId} {p:List Operand} {vs:List Value} {b:Array TypeId} {q Min Mr:List bA} (z:aV P f)
  (C:Fz P f vs.toArray Min q k m) (H:p.map (ev σ)=vs.map some) (y:aY M (Min++Mr)) (v:aF Mr L q) (o:∀x l,m x l=m x []++l):
  aN P c n σ M L ⟨d,.call ⟨.value (.func f),p.toArray,b⟩,ty,pos,aft,g⟩ k (λx=>m x Mr) (λ_=>L):=λa w s t=>by
 have j:(execOp a.eval ⟨d,.call ⟨.value (.func f),p.toArray,b⟩,ty,pos,aft,g⟩).run P w = .ok (.enter f vs.toArray) w:=by
  have e:=evs s H;simp[execOp,resolve,Act.eval,Deferred.ofValue,invoke,z _ w,e]
 simp only[Oper.wp,j,Oper.upon];obtain⟨B,F,u,i⟩:=t.weak (L':=L) y (λ_ h=>h);refine(C _ (UP u i v)).mono ?_;rintro e I ⟨x,rfl,E⟩;refine⟨x,rfl,?_⟩
 rw[o];exact WB B u i E
def Wt {A B:Type} (c:uF) (C:A->Prop) (a:A->B->Value) (f b:A->B->List bA) (e:Ending) (w:World):Prop:=∃x y,C x∧e = .returned (a x y)∧St c (f x y) (b x y) w
theorem Kj {j:Func} {a:List Value} {m:Nat} (l:j.ntmps=m) (k:Nat.ble a.length m=true):FB ⟨m,[]⟩ (xA 0 a) {tmps:=a.toArray++Array.replicate (j.ntmps - a.toArray.size) undef,defers:=[]}:=by
 have h:a.length<=m:=by simpa using k
 refine⟨rfl,by simp[l,h],?_⟩
 intro t v o;obtain⟨_,b⟩:=DX a 0 t v o;rw[Nat.sub_zero]at b;have i:t<a.length:=by
  rcases Nat.lt_or_ge t a.length with f|f
  ·exact f
  ·rw[List.getElem?_eq_none f]at b;cases b
 rw[Array.getElem?_append_left (by simpa using i)];simpa using b
structure sG (P:Program) (c:uF) (n:Sz) (σ:Fr) (M L:List bA) (o:Oper) (f:FuncId) (vs:List Value):Prop where
 run:∀a w,FB n σ a->St c M L w->(execOp a.eval o).run P w = .ok (.enter f vs.toArray) w
theorem sG.fn {f:FuncId} {xs:List Operand} {vs:List Value} {b:Array TypeId} (h:aV P f) (i:xs.map (ev σ)=vs.map some):sG P c n σ M L ⟨d,.call ⟨.value (.func f),xs.toArray,b⟩,ty,pos,aft,g⟩ f vs:=⟨λa w s _=>by
 have e:=evs s i;simp[execOp,resolve,Act.eval,Deferred.ofValue,invoke,h _ w,e]⟩
theorem Ho {f:FuncId} {t:Tmp} {h:List Operand} {us cs vs:List Value} {b:Array TypeId} (j:aV P f) (k:lk σ t=some (.func (.func f) #[] cs.toArray)) (m:h.map (ev σ)=us.map some) (l:us++cs=vs):sG P c n σ M L ⟨d,.call ⟨.value (.tmp t),h.toArray,b⟩,ty,pos,aft,g⟩ f vs:=⟨λa w s _=>by
 have e:=evs s m;have i:a.eval (.tmp t) = .func (.func f) #[] cs.toArray:=s.eval (x:= .tmp t) k;subst l;simp[execOp,resolve,i,Deferred.ofValue,invoke,j _ w,e]⟩
def Gj (P:Program) (c:uF) (n:Sz) (σ:Fr) (M L:List bA) (b:Func) (v:Value):Prop:=∀a w,FB n σ a->St c M L w->(results b a.tmps).run P w = .ok v w
variable {fn:Func}
theorem Gj.r0 (b:fn.results = #[]):Gj P c n σ M L fn (.tuple #[]):=λa w _ _=>by simp[results,b]
theorem Gj.r1 {f:ResultVar} {h:Value} (b:fn.results = #[f]) (i:RV P c n σ M L f h):Gj P c n σ M L fn h:=λa w s t=>by
 have:=i a w s t;simp only[yU,b];simp[this]
theorem Gj.r2 {i j:ResultVar} {k l:Value} (b:fn.results = #[i,j]) (f:RV P c n σ M L i k) (h:RV P c n σ M L j l):Gj P c n σ M L fn (.tuple #[k,l]):=λa w s t=>by
 have f:=f a w s t;have h:=h a w s t;simp only[yU,b];simp[f,h]
theorem sJ {A B:Type} {m:Sz} {v:Value} {f:Exit} {C:A->Prop} {b:A->B->Value} {k j:A->B->List bA} (x:A) (y:B) (l:C x) (i:f = .ret∨f = .normal) (q:Gj P c m σ' M L fn v) (u:v=b x y) (p:aY M (k x y)) (o:aF [] L (j x y)) (h:m.ds=[]:=by rfl):
  J c m σ' M L (gS P fn (Wt c C b k j) f):=λa w s t=>by
 exact body_end i (s.defers.trans h) (q a w s t) ⟨x,y,l,by rw[u],t.weakE p o⟩
end
section
variable {P:Program} {rd:Option Nat} {c:uF} {n:Sz} {σ σ':Fr} {M L M' L':List bA} {Q:Exit->Act->World->Prop} {ops:Array Oper} {rest:List Oper} {K:Act->World->Prop} {G:Act->World->Prop}
variable {d:Option Tmp} {D:Nat} {ty:TypeId} {pos:String} {aft:Array Edge} {g:Option (Nat×Bool)}
variable {α β:Type} {e:cZ α} {r:eH α}
def ann (v:Value) (m:Nat):Prop:=match v with
 | .slice _ _ cap=>m<=cap
 |_=>False
theorem WH [cN P] {T E:TypeId} {R U u V:Nat} {z W:Value} {A:TypeDesc} {x p o q:Operand} {v:Value} {i k m:Int} {y:List α} (O:ev σ x=some v) (j:ev σ p=some (.int .i64 i)) (f:ev σ o=some (.int .i64 k)) (l:ev σ q=some (.int .i64 m)) (J:aE M L (Sl r v y))
  (I:cN.tab P T=some ⟨.slice E,R,U,z⟩) (H:cN.tab P E=some ⟨A,u,V,W⟩) (h:0<=i∧i<=k∧k<=m∧m<=y.length):Y P c n σ M L ⟨d,.slice T x (some p) (some o) (some q),ty,pos,aft,g⟩
   (match v with|.slice a _ _=> .slice (if m.toNat=i.toNat then a else a.map (·.add (i.toNat*u))) (k.toNat - i.toNat) (m.toNat - i.toNat)|v=>v):=λa w s t=>by
 obtain⟨S,X,b,N,hb,_⟩:=J.st t;subst N;have B:0<=m∧m<=(b:Int):=by omega
 have C:0<=k∧k<=((m.toNat:Nat):Int):=by omega
 have F:0<=i∧i<=((k.toNat:Nat):Int):=by omega
 simp[execOp,s.eval O,s.eval j,s.eval f,s.eval l,Instr.sliceAt,Instr.slice,(cN.ok I).run_und w,Instr.sliceBounds,Instr.sliceBound,asIntOf,(cN.ok H).run_size w,B,C,F];rw[if_pos (by omega),if_pos (by omega)]
theorem OQ (i:Nat) {k:Int} {vs:List Value} {xss:List (List α)} (E:M[i]? = some (lD e vs xss)) (h:0<=k∧k<xss.length):
  oF M L (Ar e (at' vs k) (at' xss k)::M.set i (lD e (vs.set k.toNat (.slice none 0 0)) (xss.set k.toNat []))) L:=λc w t=>by
 obtain⟨X,F,s,W⟩:=t;obtain⟨A,G,U,u,O⟩:=s.res i _ E;have R:k.toNat<vs.length:=by omega
 have S:i<M.length:=(List.getElem?_eq_some_iff.1 E).1;have B:=U k.toNat _ _ (jK h.1 (by omega)) (jK h.1 h.2);refine⟨X,λj q=>match j with|0=>G k.toNat q|j+1=>(j=i∧∃p,p≠k.toNat∧G p q)∨(j≠i∧F j q),⟨?_,?_,?_⟩,λf E=> ?_⟩
 ·intro j m y;cases j with
  |zero=>simp at y;subst y;exact B
  | succ j =>
   rw[List.getElem?_cons_succ]at y;by_cases N:j=i
   ·subst N;rw[List.getElem?_set_self S]at y;cases y;refine⟨by simp[A],λp q=>p≠k.toNat∧G p q,λp v V H I=> ?_,λp q a=> .inl ⟨rfl,p,a⟩,λT C q b l=>O _ _ q b.2 l.2⟩
    by_cases x:p=k.toNat
    ·subst x;rw[List.getElem?_set_self R]at H;rw[List.getElem?_set_self (by omega)]at I;cases H;cases I;exact⟨by simp,rfl,.inl ⟨rfl,rfl⟩⟩
    ·rw[List.getElem?_set_ne (Ne.symm x)]at H I;exact bA.same (f:=Ar e v V) (U p v V H I) (λq a=>⟨x,a⟩) (λ_ _ _=>rfl)
   ·rw[List.getElem?_set_ne (Ne.symm N)]at y;exact bA.same (s.res j m y) (λq a=> .inr ⟨N,a⟩) (λ_ _ _=>rfl)
 ·intro j q a;cases j with
  |zero=>exact s.rng i q (u _ q a)
  |succ j=>
   rcases a with⟨_,p,_,a⟩|⟨_,a⟩
   ·exact s.rng i q (u _ q a)
   ·exact s.rng j q a
 ·intro T C q b l;cases T with
  | zero =>
   cases C with
   |zero=>rfl
   |succ C=>
    rcases l with⟨_,p,o,l⟩|⟨o,l⟩
    ·exact absurd (O _ _ q l b) o
    ·exact absurd (s.dis _ _ q l (u _ q b)) o
  | succ T =>
   cases C with
   |zero=>
    rcases b with⟨_,p,o,b⟩|⟨o,b⟩
    ·exact absurd (O _ _ q b l) o
    ·exact absurd (s.dis _ _ q b (u _ q l)) o
   |succ C=>
    congr 1;rcases b with⟨J,p,_,b⟩|⟨J,b⟩<;>rcases l with⟨x,Y,_,l⟩|⟨x,l⟩
    ·rw[J,x]
    ·exact absurd (s.dis _ _ q l (u _ q b)) x
    ·exact absurd (s.dis _ _ q b (u _ q l)) J
    ·exact s.dis _ _ q b l
 ·refine bA.same (W f E) (λq a=>⟨a.1,λj z=> ?_⟩) (λ_ _ _=>rfl);cases j with
  |zero=>exact a.2 i (u _ q z)
  |succ j=>
   rcases z with⟨_,p,_,z⟩|⟨_,z⟩
   ·exact a.2 i (u _ q z)
   ·exact a.2 j z
theorem OM (i j:Nat) {u:Value} {k:Int} {vs:List Value} {xss:List (List α)} {ys:List α} (a:Nat.beq i j=false) (b:M[i]? = some (lD e (vs.set k.toNat (.slice none 0 0)) (xss.set k.toNat []))) (f:M[j]? = some (Ar e u ys)) (h:0<=k∧k<(xss.set k.toNat []).length):
  oF M L ((M.set i (lD e (vs.set k.toNat u) (xss.set k.toNat ys))).eraseIdx j) L:=by
 have:=yK (L:=L) i j a b f h;rwa[List.set_set,List.set_set]at this
theorem LG {α:Type} [Inhabited α] (l:List α) {j k:Int} (y:α) (h:j.toNat≠k.toNat):at' (l.set j.toNat y) k=at' l k:=by
 rw[at',at',List.getD_eq_getElem?_getD,List.getD_eq_getElem?_getD,List.getElem?_set_ne h]
theorem z_ [cN P] (i:Nat) {r:eH α} (f:e.Fits r) {x y:Operand} {u o:Value} {k j:Int} {vs:List Value} {a:List (List α)} {l b:List α} {T E:TypeId} {S U m s:Nat} {z t:Value} {v:TypeDesc} (N:ev σ x=some (at' vs k)) (O:ev σ y=some u) (H:M[i]? = some (lD e (vs.set j.toNat o) (a.set j.toNat b))) (I:aE M L (Sl r u l))
  (F:cN.tab P T=some ⟨.slice E,S,U,z⟩) (C:cN.tab P E=some ⟨v,m,s,t⟩) (A:e.sz=m) (B:Nat.ble s 1024=true) (w:0<=k∧k<a.length) (J:((at' a k).length:Int)+l.length<=1099511627) (R:t.cells.size=m) (h:j.toNat≠k.toNat):
  aN P c n σ M L ⟨d,.call ⟨.builtin .append,#[x,y],#[T,T]⟩,ty,pos,aft,g⟩ (λp:Value=>p) (λp=>M.set i (lD e ((vs.set j.toNat o).set k.toNat p) ((a.set j.toNat b).set k.toNat (at' a k++l)))) (λ_=>L):=by
 have q:at' (a.set j.toNat b) k=at' a k:=LG _ _ h;have:=oE (P:=P) (c:=c) (n:=n) (σ:=σ) (M:=M) (L:=L) (d:=d) (ty:=ty) (pos:=pos) (aft:=aft) (g:=g) (x:=x) (y:=y) (u:=u) (k:=k) (vs:=vs.set j.toNat o) (xss:=a.set j.toNat b) (ys:=l) i f (by rw[LG _ _ h];exact N) O H I F C A B (by simpa using w) (by rw[q];exact J) R;rwa[q]at this
theorem Cq (q:Nat) {vs:List Value} {a:List (List α)} {k j:Int} {u z:Value} (x:M[q]? = some (lD e ((vs.set k.toNat u).set j.toNat z) a)) (i:k.toNat≠j.toNat) (h:0<=k∧k<a.length):∀c w,St c M L w->Go.Sx.one u=true:=λc w t=>by
 obtain⟨S,v,A,p,_⟩:=t.res x;have f:k.toNat<vs.length:=by simp at v;omega
 obtain⟨_,_,s⟩:=p k.toNat u _ (by rw[List.getElem?_set_ne (Ne.symm i),List.getElem?_set_self f]) (List.getElem?_eq_getElem (by omega));rcases s with⟨l,_⟩|⟨b,y,m,T,o,l,_⟩<;>(rw[l];rfl)
theorem Tb {A:Type} {b:A->Value} {M' L':A->List bA} {f:Op} (j:aN P c n σ M L ⟨none,f,ty,pos,aft,none⟩ b M' L') (h:∀x,J c n σ (M' x) (L' x) (wpList P ops Q rest)):
  J c n σ M L (wpList P ops Q (⟨none,f,ty,pos,aft,none⟩::rest)):=λa w s t=>
 mO Z (KC (nM (λm l ⟨x,i,k⟩=>by subst i;exact h x _ l s k) (j a w s t)))
end
section
variable {P:Program} {rd:Option Nat} {c:uF} {n:Sz} {σ σ':Fr} {M L M' L':List bA} {Q:Exit->Act->World->Prop} {ops:Array Oper} {rest:List Oper} {K:Act->World->Prop} {G:Act->World->Prop}
variable {d:Option Tmp} {D:Nat} {ty:TypeId} {pos:String} {aft:Array Edge} {g:Option (Nat×Bool)}
variable {α β:Type} {e:cZ α} {r:eH α}
theorem Oy [cN P] (j:Nat) {T:TypeId} {s2:Nat} {z:Value} {dT:TypeDesc} {x y:Operand} {v u:Value} {i:Int} {m:List α} (yv:α) (hx:ev σ x=some (DW v (i.toNat*1))) (hy:ev σ y=some u) (hu:e.enc yv=[u]) (B:one u=true)
  (X:M[j]? = some (Ar e v m)) (hT:cN.tab P T=some ⟨dT,1,s2,z⟩) (N:e.sz=1) (h0:0<=i) (W:i<m.length):
  aN P c n σ M L ⟨none,.store T x y,ty,pos,aft,none⟩ (λ_:Unit=>undef) (λ_=>M.set j (Ar e v (m.set i.toNat yv))) (λ_=>L):=λa w s t=>by
 obtain⟨F,J⟩:=t.res X;have Y:i.toNat<m.length:=by omega
 have E:m[i.toNat]? = some m[i.toNat]:=List.getElem?_eq_getElem Y;have H:m≠[]:=by intro e;subst e;simp at Y
 obtain⟨p,hp⟩:∃p,e.enc m[i.toNat]=[p]:=List.length_eq_one_iff.1 ((e.len _).trans N);have f:=Dl.cell J E (j:=0) (u:=p) (by rw[hp];rfl);rw[N,Nat.add_zero,Nat.mul_one]at f;rw[Nat.mul_one]at hx;have o:=Ol J H i.toNat;have I:(execOp a.eval ⟨none,.store T x y,ty,pos,aft,none⟩).run P w = .ok .skip (w.setCell (JZ v i.toNat) u):=by
  simp only[execOp,s.eval hx,s.eval hy,DW];simp[CZ (cN.ok hT) Z B f o]
 simp only[Oper.wp,I,Oper.upon];refine⟨(),trivial,t.upd X Z Z Z (by simp[World.setCell]) λF J _=> ?_⟩
 obtain⟨hl,W,S⟩:=J;rcases S with⟨_,S⟩|⟨b,l,A,T',O,hv,C,hb,hk,hc,ht⟩
 ·exact absurd S H
 ·subst hv;have ha:JZ (.slice (some ⟨b,l,none⟩) m.length A) i.toNat=⟨b,l+i.toNat,none⟩:=by simp[JZ,eI]
  rw[ha];refine⟨λk _ U=>Below.heap_setCell _ _ _ _ (λe=>U (by simp only at e;subst e;exact C)),F,⟨by simpa using hl,?_,.inr ⟨b,l,A,T',O.setIfInBounds (l+i.toNat) u,by simp,C,?_,by simpa using hk,by simpa using hc,?_⟩⟩,λ_ h=> .inl h⟩
  ·rw[wW N hu,List.all_eq_true];intro q V;rcases List.mem_or_eq_of_mem_set V with R|R
   ·exact List.all_eq_true.1 W q R
   ·rw[R];exact B
  ·simp[World.setCell,Array.getElem?_modify,hb]
  ·rw[wW N hu,<-ht,Array.toList_setIfInBounds,List.length_set,<-take_set];congr 1;rw[List.drop_set,if_neg (by omega),Nat.add_sub_cancel_left]
theorem Ox [cN P] (i:Nat) {T j:TypeId} {C:Nat} {z:Value} {m:TypeDesc} {x y:Operand} {b o:Nat} {cs:List Value} {v:Value} (A:ev σ x=some (.pointer (some ⟨b,o,none⟩)))
  (B:ev σ y=some v) (u:one v=true) (l:M[i]? = some (bV b cs j)) (p:cN.tab P T=some ⟨m,1,C,z⟩) (q:Nat.blt o cs.length=true):
  aN P c n σ M L ⟨none,.store T x y,ty,pos,aft,none⟩ (λ_:Unit=>undef) (λ_=>M.set i (bV b (cs.set o v) j)) (λ_=>L):=λa w s t=>by
 obtain⟨F,k⟩:=t.res l;have h:o<cs.length:=by simpa [Nat.blt_eq]using q
 have f:(execOp a.eval ⟨none,.store T x y,ty,pos,aft,none⟩).run P w = .ok .skip (w.setCell ⟨b,o,none⟩ v):=by
  simp[execOp,s.eval A,s.eval B,CZ (cN.ok p) Z u (bV.cell k (List.getElem?_eq_getElem h)) (Om k o)]
 simp only[Oper.wp,f,Oper.upon];exact⟨(),trivial,t.store l v⟩
theorem BI [cN P] (j q:Nat) {T:TypeId} {E:Nat} {z:Value} {m:TypeDesc} {x y:Operand} {v u:Value} {i:Int} {vs b:List Value} {f:List (List α)} (h:0<=i∧i<f.length) (B:ev σ x=some (DW v (i.toNat*1))) (C:ev σ y=some u)
  (p:M[j]? = some (Ar cZ.raw v vs)) (A:M[q]? = some (lD e b f)) (F:b.length=vs.length) (k:one u=true) (o:cN.tab P T=some ⟨m,1,E,z⟩):
  aN P c n σ M L ⟨none,.store T x y,ty,pos,aft,none⟩ (λ_:Unit=>undef) (λ_=>M.set j (Ar cZ.raw v (vs.set i.toNat u))) (λ_=>L):=λa w s t=>by
 have l:b.length=f.length:=by obtain⟨_,h⟩:=t.res A;exact h.1
 exact Oy j u B C Z k p o Z h.1 (by omega) a w s t
section
variable {l:List Oper} {m:List Nat} {k0:Nat} {H Bs:List (Nat×List bA×List bA)} {rs:List Nat}
theorem Dz {A:Type} {j:A->Value} {M' L':A->List bA} {i:Nat} {b:Op}
  (o:l[i]? = some ⟨none,b,ty,pos,aft,none⟩) (v:Nat.blt i k0=true) (y:eK b=true) (z:aN P c n σ M L ⟨none,b,ty,pos,aft,none⟩ j M' L')
  (q:∀x,zZ (before m i) (M' x) (L' x) Bs) (h:∀x,JR c n σ (M' x) (L' x) ((i,M,L)::H) Bs (RW P l.toArray Q (before m) (cS l) k0 rs)):
  JR c n σ M L H Bs (RW P l.toArray Q (before m) (cS l) k0 (i::rs)):=λa w X Y s t u k=>by
 have f:l.toArray[i]? = some ⟨none,b,ty,pos,aft,none⟩:=by simpa using o
 simp only[RW,f];rw[if_pos (by simp[Region.wanted])];refine .inr (.inr ⟨by simpa [Nat.blt_eq]using v,by simp[cS,o,y],nM ?_ (z a w s t)⟩);rintro C B ⟨x,rfl,p⟩;exact⟨(q x).use p k,h x _ B _ Y s p ⟨rfl,t,u⟩ k⟩
end
theorem Ht {A B:Type} {f:FuncId} {j:Func} {b:Code} {k:List Value} {m:Nat} {q:Op} (C:A->Prop) (i:A->B->Value) (o l:A->B->List bA) (E:sG P c n σ M L ⟨d,q,ty,pos,aft,g⟩ f k) (F:P.funcs[f]? = some j) (z:j.body=some b) (I:j.ntmps=m) (H:Nat.ble k.length m=true)
  (u:J c ⟨m,[]⟩ (xA 0 k) M L (b.wpr none P (gS P j (Wt c C i o l)))):
  aN P c n σ M L ⟨d,q,ty,pos,aft,g⟩ (λx:{p:A×B // C p.1}=>i x.1.1 x.1.2) (λx=>o x.1.1 x.1.2) (λx=>l x.1.1 x.1.2):=λa w s t=>by
 have h:=E.run a w s t;simp only[Oper.wp,h,Oper.upon];refine(tH F z (u _ w (Kj I H) t)).mono ?_;rintro e O ⟨x,y,v,rfl,N⟩;exact⟨⟨(x,y),v⟩,rfl,N⟩
theorem AP {A B:Type} {f:FuncId} {j:Func} {h:Code} {vs:List Value} {m:Nat} {o:Op} (C:A->Prop) (i:A->B->Value) (l k:A->B->List bA) (v:sG P c n σ M L ⟨some D,o,ty,pos,aft,none⟩ f vs) (w:P.funcs[f]? = some j) (u:j.body=some h) (y:j.ntmps=m) (x:Nat.ble vs.length m=true) (t:Nat.blt D n.sz=true)
  (p:J c ⟨m,[]⟩ (xA 0 vs) M L (h.wpr none P (gS P j (Wt c C i l k)))) (q:∀a b,C a->J c n ((D,i a b)::σ) (l a b) (k a b) (wpList P ops Q rest)):J c n σ M L (wpList P ops Q (⟨some D,o,ty,pos,aft,none⟩::rest)):=
 aG (Ht C i l k v w u y x p) t fun⟨⟨a,b⟩,s⟩=>q a b s
section
variable {l:List Oper} {mm:List Nat} {k0:Nat} {H Bs:List (Nat×List bA×List bA)} {rs:List Nat}
theorem MU {A B:Type} {i:Nat} {f:FuncId} {p:Func} {h:Code} {vs:List Value} {m:Nat} {q:Op} (C:A->Prop) (j:A->B->Value) (o k:A->B->List bA) (E:l[i]? = some ⟨some D,q,ty,pos,aft,none⟩) (F:Nat.blt i k0=true) (I:eK q=true) (y:sG P c n σ M L ⟨some D,q,ty,pos,aft,none⟩ f vs) (z:P.funcs[f]? = some p) (x:p.body=some h) (O:p.ntmps=m) (N:Nat.ble vs.length m=true) (w:Nat.blt D n.sz=true)
  (u:∀a b,zZ (before mm i) (o a b) (k a b) Bs) (s:J c ⟨m,[]⟩ (xA 0 vs) M L (h.wpr none P (gS P p (Wt c C j o k)))) (t:∀a b,C a->JR c n ((D,j a b)::σ) (o a b) (k a b) ((i,M,L)::H) Bs (RW P l.toArray Q (before mm) (cS l) k0 rs)):
  JR c n σ M L H Bs (RW P l.toArray Q (before mm) (cS l) k0 (i::rs)):=
 JR.loud E F I (Ht C j o k y z x O N s) w (λ_=>u _ _) fun⟨⟨a,b⟩,v⟩=>t a b v
theorem Wm {A B:Type} {i j:Nat} {s:Bool} {f:FuncId} {q:Func} {h:Code} {vs:List Value} {m:Nat} {t:Op} (C:A->Prop) (k:A->B->Value) (p o:A->B->List bA) (N:l[i]? = some ⟨some D,t,ty,pos,aft,some (j,s)⟩) (O:Nat.blt i k0=true) (R:eK t=true) (I:gv l.toArray σ j=some s) (E:sG P c n σ M L ⟨some D,t,ty,pos,aft,some (j,s)⟩ f vs) (F:P.funcs[f]? = some q) (z:q.body=some h) (T:q.ntmps=m) (S:Nat.ble vs.length m=true) (y:Nat.blt D n.sz=true)
  (w:∀a b,zZ (before mm i) (p a b) (o a b) Bs) (u:J c ⟨m,[]⟩ (xA 0 vs) M L (h.wpr none P (gS P q (Wt c C k p o)))) (v:∀a b,C a->JR c n ((D,k a b)::σ) (p a b) (o a b) ((i,M,L)::H) Bs (RW P l.toArray Q (before mm) (cS l) k0 rs)):
  JR c n σ M L H Bs (RW P l.toArray Q (before mm) (cS l) k0 (i::rs)):=
 Ou N O R I (Ht C k p o E F z T S u) y (λ_=>w _ _) fun⟨⟨a,b⟩,x⟩=>v a b x
end
theorem ED [cN P] {T E:TypeId} {k q u b A:Nat} {z B:Value} {f:TypeDesc} {x y:Operand} {v:Value} {o:Nat} {i:Int} (m:ev σ x=some (DW v o)) (p:ev σ y=some (.int .i64 i))
  (l:cN.tab P T=some ⟨.array k E,q,u,z⟩) (j:cN.tab P E=some ⟨f,b,A,B⟩) (_h3:(b==0)=false) (h:0<=i∧i<(k:Int)):
  Y P c n σ M L ⟨d,.indexAddr T x y,ty,pos,aft,g⟩ (DW v (o+i.toNat*b)):=λa w s t=>by
 simp[execOp,s.eval m,s.eval p,Instr.indexAt,asIntOf,(cN.ok l).run_und w,h,Instr.sureAddr,DW,(cN.ok j).run_size w,IX]
theorem bW {x:Operand} {b o:Nat} (f:ev σ x=some (.pointer (some ⟨b,o,none⟩))):Y P c n σ M L ⟨d,.nilCheck x,ty,pos,aft,g⟩ (.pointer (some ⟨b,o,none⟩)):=λa w s t=>by
 simp[execOp,s.eval f]
theorem Oz [cN P] [Inhabited α] (j:Nat) {T:TypeId} {s2 k o q:Nat} {z:Value} {dT:TypeDesc} {x y:Operand} {v u:Value} {C:List Value} {i:Int} {p:List α} (N:α) (h:0<=i∧i<p.length) (hx:ev σ x=some (DW v (i.toNat*q+o))) (hy:ev σ y=some u)
  (hf:M[j]? = some (Ar e v p)) (hq:e.sz=q) (V:u.cells=C.toArray) (hk:C.length=k) (ho:Nat.ble (o+k) q=true) (J:e.enc N=(e.enc (at' p i)).take o++C++(e.enc (at' p i)).drop (o+k)) (X:C.all one=true) (hT:cN.tab P T=some ⟨dT,k,s2,z⟩):
  aN P c n σ M L ⟨none,.store T x y,ty,pos,aft,none⟩ (λ_:Unit=>undef) (λ_=>M.set j (Ar e v (p.set i.toNat N))) (λ_=>L):=λa w s t=>by
 subst hq hk;have ar:o+C.length<=e.sz:=by simpa using ho
 have hi:i.toNat<p.length:=by omega
 have t0:=t;obtain⟨ak,FF,hO,ag⟩:=t0;obtain⟨h0,A,hh⟩:=hO.res j _ hf;rcases hh with⟨_,rfl⟩|⟨b,m,W,T',f,rfl,Y,aa,ab,hc,ht⟩
 ·simp at hi
 -- the parts of the row
 obtain⟨l,B,E,I,hl⟩:∃l B E,p=l++B::E∧l.length=i.toNat:=⟨p.take i.toNat,p[i.toNat],p.drop (i.toNat+1),by rw[List.getElem_cons_drop,List.take_append_drop],by simp;omega⟩
 have ai:at' p i=B:=by
  rw[at',List.getD_eq_getElem?_getD,<-hl,I,List.getElem?_append_right (Nat.le_refl _)];simp
 rw[ai]at J;have eE:=e.len B;have eA:(cellsOf e l).length=i.toNat*e.sz:=by rw[eJ,hl]
 have F:cellsOf e p=cellsOf e l++(e.enc B++cellsOf e E):=by rw[I];simp[cellsOf]
 have U:cellsOf e (p.set i.toNat N)=cellsOf e l++(e.enc N++cellsOf e E):=by
  have:p.set i.toNat N=l++N::E:=by rw[I,<-hl,List.set_append_right _ _ (Nat.le_refl _)];simp
  rw[this];simp[cellsOf]
 have ap:p.length*e.sz<=W*e.sz:=Nat.mul_le_mul_right _ ab;obtain⟨O,R,S,hH⟩:∃O R,f.toList=O++(cellsOf e l++(e.enc B++(cellsOf e E++R)))∧O.length=m:=by
  refine⟨f.toList.take m,(f.toList.drop m).drop (p.length*e.sz),?_,by simp;omega⟩
  have e1:cellsOf e l++(e.enc B++(cellsOf e E++(f.toList.drop m).drop (p.length*e.sz)))=f.toList.drop m:=by
   have:cellsOf e l++(e.enc B++(cellsOf e E++(f.toList.drop m).drop (p.length*e.sz)))=cellsOf e p++(f.toList.drop m).drop (p.length*e.sz):=by rw[F];simp
   rw[this,<-ht,List.take_append_drop]
  rw[e1,List.take_append_drop]
 have an:f.size=f.toList.length:=by simp
 have al:f.toList.take (m+(i.toNat*e.sz+o))=O++(cellsOf e l++(e.enc B).take o):=by
  have:f.toList=(O++(cellsOf e l++(e.enc B).take o))++((e.enc B).drop o++(cellsOf e E++R)):=by
   rw[S,List.append_assoc,List.append_assoc,<-List.append_assoc ((e.enc B).take o),List.take_append_drop]
  rw[this];exact List.take_left' (by simp[hH,eA,eE];omega)
 have am:f.toList.drop (m+(i.toNat*e.sz+o)+C.length)=(e.enc B).drop (o+C.length)++(cellsOf e E++R):=by
  have:f.toList=(O++(cellsOf e l++(e.enc B).take (o+C.length)))++((e.enc B).drop (o+C.length)++(cellsOf e E++R)):=by
   rw[S,List.append_assoc,List.append_assoc,<-List.append_assoc ((e.enc B).take (o+C.length)),List.take_append_drop]
  rw[this];exact List.drop_left' (by simp[hH,eA,eE];omega)
 have af:(i.toNat+1)*e.sz<=p.length*e.sz:=Nat.mul_le_mul_right _ (by omega);have aq:(i.toNat+1)*e.sz=i.toNat*e.sz+e.sz:=by rw[Nat.add_mul,Nat.one_mul]
 have ac:m+(i.toNat*e.sz+o)+0+C.length<=f.size:=by omega
 have ae:=run_storeCells_at P b (m+(i.toNat*e.sz+o)) T' C 0 f w aa ac (λu V=>qM (List.all_eq_true.1 X u V));simp only[Nat.add_zero]at ae;have au:(cN.ok hT).run_size w=(cN.ok hT).run_size w:=rfl;have ad:(execOp a.eval ⟨none,.store T x y,ty,pos,aft,none⟩).run P w = .ok .skip (w.setRow b (f.toList.take (m+(i.toNat*e.sz+o))++C++f.toList.drop (m+(i.toNat*e.sz+o)+C.length)).toArray):=by
  simp[execOp,s.eval hx,s.eval hy,DW,JZ,Instr.storeAt,Instr.sureAddr,storeVar,V,(cN.ok hT).run_size w,eI,ae]
 simp only[Oper.wp,ad,Oper.upon];refine⟨(),trivial,?_⟩
 refine IR ak hO ag hf Z Z Z (by simp) (λk _ aj=>setRow_other w b k _ (λe=>aj (by subst e;exact Y))) (F':=FF j) ?_ (λk hk=> .inl hk);have H:(e.enc N).length=e.sz:=e.len N;refine⟨by simpa using h0,?_,.inr ⟨b,m,W,T',_,by simp,Y,setRow_heap w b _ _ T' _ aa,by simpa using ab,?_,?_⟩⟩
 ·rw[U];rw[F]at A;simp only[List.all_append,Bool.and_eq_true]at A ⊢;refine⟨A.1,?_,A.2.2⟩
  rw[J];simp only[List.all_append,Bool.and_eq_true];refine⟨⟨List.all_eq_true.2 λu V=>List.all_eq_true.1 A.2.1 u (List.mem_of_mem_take V),X⟩,List.all_eq_true.2 λu V=>List.all_eq_true.1 A.2.1 u (List.mem_of_mem_drop V)⟩
 ·simp only[List.size_toArray,List.length_append,List.length_take,List.length_drop];omega
 ·show((f.toList.take _++C++f.toList.drop _).drop m).take ((p.set i.toNat N).length*e.sz)=_;rw[al,am,U,J,List.length_set];have e3:(O++(cellsOf e l++(e.enc B).take o)++C++((e.enc B).drop (o+C.length)++(cellsOf e E++R)))=O++((cellsOf e l++(((e.enc B).take o++C++(e.enc B).drop (o+C.length))++cellsOf e E))++R):=by simp
  rw[e3,<-hH,List.drop_left];refine List.take_left' ?_;have ah:(cellsOf e E).length=E.length*e.sz:=eJ e E;have ao:p.length=i.toNat+1+E.length:=by rw[I,<-hl];simp;omega
  rw[J]at H;rw[List.length_append,List.length_append,H,eA,ah,ao,Nat.add_mul,Nat.add_mul,Nat.one_mul];omega
end
def Dfr (D:Nat):bA where
 p w F:=F D∧w.heap[D]? = some (.deferred (some []))
 mono:=fun⟨b,a⟩ h=>by
  obtain⟨c,d⟩:=h D b (Array.getElem?_eq_some_iff.1 a).1;exact⟨c,by rw[d];exact a⟩
structure Wx where
 n:Nat
 σ:Fr
 ps:Array Tmp
 assign:Code
 body:Code
 D:Nat
def Lp (l:Nat) (R:Wx) (i:LoopState) (a:Option Code):bA where
 p w F:=F l∧∃(fn:FuncId) (tmps:Array Value),tmps.size=R.n∧(∀t v,lk R.σ t=some v->tmps[t]? = some v)∧
  w.heap[l]? = some (.loop {state:=i,pending:=a,fn:=fn,tmps:=tmps,params:=R.ps,assign:=R.assign,body:=R.body,defers:=R.D})
 mono:=fun⟨c,fn,tmps,d,e,b⟩ h=>by
  obtain⟨f,g⟩:=h l c (Array.getElem?_eq_some_iff.1 b).1;exact⟨f,fn,tmps,d,e,by rw[g];exact b⟩
def Ys (D:Nat):Deferred:={target:= .collected D,args:= #[]}
def yA (l:Nat):Value:= .func (.yield l) #[] #[]
section
variable {P:Program} {rd:Option Nat} {c:uF} {n m:Sz} {σ σ':Fr} {M L:List bA} {Q:Exit->Act->World->Prop} {K G:Act->World->Prop}
theorem St.putLp {w:World} {l i:Nat} {R:Wx} {y d:LoopState} {b a:Option Code} (t:St c M L w) (v:M[i]? = some (Lp l R y b)) {r:Loop} (o:w.heap[l]? = some (.loop r)):
  St c (M.set i (Lp l R d a)) L (w.putObj l (.loop {r with state:=d,pending:=a})):=by
 refine t.upd v Z Z Z (by simp) λF j _=>⟨λk _ x=> ?_,F,?_,λ_ h=> .inl h⟩
 ·exact World.putObj_heap_other (λe=>x (by subst e;exact j.1))
 ·obtain⟨q,p,f,s,u,g⟩:=j;rw[g]at o;cases o;exact⟨q,p,f,s,u,World.putObj_heap_same (Array.getElem?_eq_some_iff.1 g).1⟩
def Wy (P:Program) (n:Sz) (σ:Fr) (l D:Nat) (Q:Exit->Act->World->Prop) (e:Ending) (w:World):Prop:=
 ∀a,FB ⟨n.sz,Ys D::n.ds⟩ σ a->rangePost (FR none) 0 P l Q a e w
theorem Oq {g:Operand} {ps:Array Tmp} {assign body:Code} {f:FuncId} {fn:Func} {code:Code} {cs:List Value} {k:Nat} (hb:aV P f) (hx:ev σ g=some (.func (.func f) #[] cs.toArray)) (hf:P.funcs[f]? = some fn) (hbd:fn.body=some code) (hn:fn.ntmps=k) (hm:Nat.ble (cs.length+1) k=true)
  (h:∀l D,J c ⟨k,[]⟩ (xA 0 (yA l::cs)) (Lp l ⟨n.sz,σ,ps,assign,body,D⟩ .ready none::Dfr D::M) L (code.wpr none P (gS P fn (Wy P n σ l D Q)))):
  J c n σ M L ((Code.rangeFunc g ps assign body).wpr none P Q):=λa w s t=>by
 refine wpIn_rangeFunc λfn' _=> ?_;have hev:a.eval g = .func (.func f) #[] cs.toArray:=s.eval hx;let W:World:=(w.alloc (.deferred (some []))).alloc (.loop {state:= .ready,pending:=none,fn:=fn',tmps:=a.tmps,params:=ps,assign:=assign,body:=body,defers:=w.heap.size});refine⟨_,_,_,{target:= .fn (.func f) cs.toArray,args:= #[yA (w.heap.size+1)]},W,f,(yA (w.heap.size+1)::cs).toArray,W,run_enterLoop_outer fn' a.tmps ps assign body,?_,λ_ _=>trivial,?_,(λhc=>by cases hc),?_⟩
 ·have hc:∀v,a.eval (.const v)=v:=λ_=>rfl;simp[resolve,hev,hc,Deferred.ofValue,yA,W]
 ·simp[invoke,hb _ _,yA]
 ·have t1:St c (Dfr w.heap.size::M) L (w.alloc (.deferred (some []))):=t.push _ ⟨rfl,heap_alloc_new w _⟩;have t2:St c (Lp (w.heap.size+1) ⟨n.sz,σ,ps,assign,body,w.heap.size⟩ .ready none::Dfr w.heap.size::M) L ((w.alloc (.deferred (some []))).alloc (.loop {state:= .ready,pending:=none,fn:=fn',tmps:=a.tmps,params:=ps,assign:=assign,body:=body,defers:=w.heap.size})):=by
   have:=t1.push (.loop {state:= .ready,pending:=none,fn:=fn',tmps:=a.tmps,params:=ps,assign:=assign,body:=body,defers:=w.heap.size}) (m:=Lp (w.heap.size+1) ⟨n.sz,σ,ps,assign,body,w.heap.size⟩ .ready none)
    ⟨by simp,fn',a.tmps,s.size,s.slot,by rw[<-World.size_alloc w (.deferred (some []))];exact heap_alloc_new _ _⟩
   exact this
  refine Tv ((tH hf hbd (h (w.heap.size+1) w.heap.size _ _ (Kj hn (by simpa using hm)) t2)).mono ?_);intro e w' he;exact he _ ⟨by simp[Ys,s.defers],s.size,s.slot⟩
theorem Wk {f:Func} {b:Exit} {v:Value} {l D i:Nat} {R:Wx} (e:b = .ret∨b = .normal) (j:M[i]? = some (Lp l R .ready none)) (q:Gj P c m σ' M L f v) (h:J c ⟨n.sz,Ys D::n.ds⟩ σ (M.set i (Lp l R .exhausted none)) L (Q .normal)) (d:m.ds=[]:=by rfl):
  J c m σ' M L (gS P f (Wy P n σ l D Q) b):=λa w s t=>by
 refine body_end e (s.defers.trans d) (q a w s t) λo r=> ?_;obtain⟨F,u,p,k,x,y,g⟩:=t.res j;exact⟨none,_,run_endLoop g (by simp),h o _ r (t.putLp j g)⟩
theorem ZO {f:Func} {b:Exit} {v:Value} {l D i:Nat} {R:Wx} (e:b = .ret∨b = .normal) (j:M[i]? = some (Lp l R .done (some .ret))) (q:Gj P c m σ' M L f v) (h:J c ⟨n.sz,Ys D::n.ds⟩ σ (M.set i (Lp l R .exhausted (some .ret))) L (Q .ret)) (d:m.ds=[]:=by rfl):
  J c m σ' M L (gS P f (Wy P n σ l D Q) b):=λa w s t=>by
 refine body_end e (s.defers.trans d) (q a w s t) λo r=> ?_;obtain⟨F,u,p,k,x,y,g⟩:=t.res j;exact⟨some .ret,_,run_endLoop g (by simp),wpIn_ret (h o _ r (t.putLp j g))⟩
def VY (P:Program) (l:Nat) (G:Act->World->Prop) (a:Act) (w:World):Prop:=∃b,(Instr.beginRound l).run P w = .ok () b∧G a b
theorem S_ {l i:Nat} {R:Wx} {b:Option Code} (e:M[i]? = some (Lp l R .ready b)) (h:J c n σ (M.set i (Lp l R .busy b)) L G):J c n σ M L (VY P l G):=λa w s t=>by
 obtain⟨F,j,g,f,k,o,d⟩:=t.res e;exact⟨_,run_beginRound d Z,h a _ s (t.putLp e d)⟩
def Wz (n:Sz) (σ:Fr) (d:Nat) (K:Act->World->Prop) (e:Ending) (w:World):Prop:=∃v,e = .returned v∧∀a,FB n ((d,v)::σ) a->K a w
theorem Jr {l i d:Nat} {R:Wx} {b:Option Code} (f:M[i]? = some (Lp l R .busy b)) (h:J c m ((d,.bool true)::σ') (M.set i (Lp l R .ready none)) L K):J c n σ M L (roundPost P l (Wz m σ' d K) .normal):=λa w s t=>by
 obtain⟨F,p,k,g,q,r,e⟩:=t.res f;exact⟨_,_,run_endRound none e,_,rfl,λj o=>h j _ o (t.putLp f e)⟩
theorem Wl {l i d:Nat} {R:Wx} {b:Option Code} (f:M[i]? = some (Lp l R .busy b)) (h:J c m ((d,.bool false)::σ') (M.set i (Lp l R .done (some .ret))) L K):J c n σ M L (roundPost P l (Wz m σ' d K) .ret):=λa w s t=>by
 obtain⟨F,p,k,g,q,r,e⟩:=t.res f;exact⟨_,_,run_endRound (some .ret) e,_,rfl,λj o=>h j _ o (t.putLp f e)⟩
def FM:List Tmp->List Value->Fr->Fr
 |t::ts,v::vs,σ=>FM ts vs ((t,v)::σ)
 |_,_,σ=>σ
theorem Ki:∀(d:List Tmp) (f:List Value) (a:Array Value) (σ:Fr) (k:Nat),a.size=k->d.all (λt=>Nat.blt t k)=true->(∀t v,lk σ t=some v->a[t]? = some v)->
  ((d.zip f).foldl (λa (x:Tmp×Value)=>a.setIfInBounds x.1 x.2) a).size=k∧∀t v,lk (FM d f σ) t=some v->((d.zip f).foldl (λa (x:Tmp×Value)=>a.setIfInBounds x.1 x.2) a)[t]? = some v
 | [],_,a,σ,k,h1,_,h3=>by simpa [FM]using ⟨h1,h3⟩
 |_::_,[],a,σ,k,h1,_,h3=>by simpa [FM]using ⟨h1,h3⟩
 | p :: d, x :: f, a, σ, k, h1, h2, h3 => by
  simp only[List.all_cons,Bool.and_eq_true]at h2;have g:p<k:=by simpa [Nat.blt_eq]using h2.1
  simp only[List.zip_cons_cons,List.foldl_cons,FM];refine Ki d f _ _ k (by simp[h1]) h2.2 λt v b=> ?_;simp only[lk]at b;by_cases e:t=p
  ·subst e;simp at b;subst b;simp[h1,g]
  ·rw[mW e]at b;simp only[cond_false]at b;rw[Array.getElem?_setIfInBounds_ne (Ne.symm e)];exact h3 t v b
theorem ZR {f:Array Oper} {b:List Oper} {t:Tmp} {z:List Operand} {g:List Value} {o:Array TypeId} {d:Nat} {B:TypeId} {y:String} {k:Array Edge} {l i:Nat} {R:Wx} {j:List Tmp} (U:lk σ t=some (yA l)) (W:z.map (ev σ)=g.map some) (T:M[i]? = some (Lp l R .ready none)) (r:R.ps=j.toArray) (q:g.length=j.length) (p:j.all (λt=>Nat.blt t R.n)=true) (S:Nat.blt d n.sz=true)
  (h:J c ⟨R.n,[]⟩ (FM j g R.σ) M L (R.assign.wpr (some l) P (Exit.then (VY P l (R.body.wpr (some l) P (roundPost P l (Wz n σ d (wpList P f Q b))))) (λ_ _ _=>False)))):
  J c n σ M L (wpList P f Q (⟨some d,.call ⟨.value (.tmp t),z.toArray,o⟩,B,y,k,none⟩::b)):=λa w s A=>by
 obtain⟨F,h1,H,tmps,I,N,O⟩:=A.res T;have e:=evs s W;have C:a.eval (.tmp t)=yA l:=s.eval (x:= .tmp t) U;have X:=run_yield (P:=P) (args:=g.toArray) O (by simp[r,q]);have u:(execOp a.eval ⟨some d,.call ⟨.value (.tmp t),z.toArray,o⟩,B,y,k,none⟩).run P w=(Instr.yield l g.toArray).run P w:=by
  simp[execOp,resolve,C,yA,Deferred.ofValue,invoke,e]
 unfold wpList;rw[if_pos (show Region.wanted _ _=true from rfl)];refine .inr ⟨_,_,_,_,_,_,u.trans X,?_⟩;refine RoundIn.mono (R:=Wz n σ d (wpList P f Q b)) (roundIn_of_wpIn (F:=FR none) trivial ?_) ?_
 ·obtain⟨D,E⟩:=Ki j g tmps R.σ R.n I p N;have:=h {tmps:=(j.zip g).foldl (λtmps (x:Tmp×Value)=>tmps.setIfInBounds x.1 x.2) tmps,defers:=[]} w ⟨rfl,D,E⟩ A;simp only[r,List.zip_toArray,List.foldl_toArray];exact this
 ·rintro e Y ⟨v,rfl,V⟩;exact⟨v,rfl,V _ (s.put d v S)⟩
theorem MS {g:Operand} {ps:Array Tmp} {assign body:Code} {f:FuncId} {fn:Func} {code:Code} {cs:List Value} {k:Nat} (hb:aV P f) (hx:ev σ g=some (.func (.func f) #[] cs.toArray)) (hf:P.funcs[f]? = some fn) (hbd:fn.body=some code) (hn:fn.ntmps=k) (hm:Nat.ble (cs.length+1) k=true)
  (h:∀(l D:Nat) (R:Wx),R.n=n.sz∧R.σ=σ∧R.ps=ps∧R.assign=assign∧R.body=body->J c ⟨k,[]⟩ (xA 0 (yA l::cs)) (Lp l R .ready none::Dfr D::M) L (code.wpr none P (gS P fn (Wy P n σ l D Q)))):
  J c n σ M L ((Code.rangeFunc g ps assign body).wpr none P Q):=Oq hb hx hf hbd hn hm λl D=>h l D _ ⟨rfl,rfl,rfl,rfl,rfl⟩
theorem Ot {j:Array Oper} {e:List Oper} {t:Tmp} {u:List Operand} {us:List Value} {r:Array TypeId} {d:Nat} {B:TypeId} {s:String} {q:Array Edge} {l i k:Nat} {R:Wx} {p:List Tmp} {o:Fr} {a b:Code} (w:R.n=k∧R.σ=o∧R.ps=p.toArray∧R.assign=a∧R.body=b) (z:lk σ t=some (yA l)) (A:u.map (ev σ)=us.map some) (y:M[i]? = some (Lp l R .ready none)) (g:us.length=p.length) (f:p.all (λt=>Nat.blt t k)=true) (x:Nat.blt d n.sz=true)
  (h:J c ⟨k,[]⟩ (FM p us o) M L (a.wpr (some l) P (Exit.then (VY P l (b.wpr (some l) P (roundPost P l (Wz n σ d (wpList P j Q e))))) (λ_ _ _=>False)))):
  J c n σ M L (wpList P j Q (⟨some d,.call ⟨.value (.tmp t),u.toArray,r⟩,B,s,q,none⟩::e)):=by
 obtain⟨rfl,rfl,v,rfl,rfl⟩:=w;exact ZR z A y v g f x h
end
def Kt (Ds:List Nat):List Deferred:=Ds.map Ys
def MN (Ds:List Nat):bA where
 p w F:=Ds.Nodup∧∀D∈Ds,F D∧w.heap[D]? = some (.deferred (some []))
 mono:=fun⟨c,a⟩ h=>⟨c,λD b=>by
  obtain⟨d,e⟩:=h D (a D b).1 (Array.getElem?_eq_some_iff.1 (a D b).2).1;exact⟨d,by rw[e];exact(a D b).2⟩⟩
section
variable {P:Program} {rd:Option Nat} {c:uF} {n m:Sz} {σ σ':Fr} {M L:List bA} {Q:Exit->Act->World->Prop} {K G:Act->World->Prop}
theorem OO:oF M L (MN []::M) L:=oF.add λ_=>⟨List.nodup_nil,by simp⟩
theorem OP (i j:Nat) {D:Nat} {e:List Nat} (d:i≠j) (l:M[i]? = some (MN e)) (o:M[j]? = some (Dfr D)):oF M L ((M.set i (MN (D::e))).eraseIdx j) L:=λc w t=>
 t.merge i j d l o (by
  rintro w q r ⟨g,b⟩ ⟨f,h⟩ k;refine⟨List.nodup_cons.2 ⟨λp=>k D (b D p).1 f,g⟩,λE a=> ?_⟩
  rcases List.mem_cons.1 a with rfl|a
  ·exact⟨.inr f,h⟩
  ·exact⟨.inl (b E a).1,(b E a).2⟩)
theorem Gf {g:Operand} {ps:Array Tmp} {assign body:Code} {f:FuncId} {fn:Func} {code:Code} {cs:List Value} {k i s:Nat} (Ds:List Nat) (hi:M[i]? = some (MN Ds)) (hb:aV P f) (hx:ev σ g=some (.func (.func f) #[] cs.toArray)) (hf:P.funcs[f]? = some fn) (hbd:fn.body=some code) (hn:fn.ntmps=k) (hm:Nat.ble (cs.length+1) k=true)
  (h:∀(l D:Nat) (R:Wx),R.n=s∧R.σ=σ∧R.ps=ps∧R.assign=assign∧R.body=body->J c ⟨k,[]⟩ (xA 0 (yA l::cs)) (Lp l R .ready none::M.set i (MN (D::Ds))) L (code.wpr none P (gS P fn (Wy P ⟨s,Kt Ds⟩ σ l D Q)))):
  J c ⟨s,Kt Ds⟩ σ M L ((Code.rangeFunc g ps assign body).wpr none P Q):=MS hb hx hf hbd hn hm λl D R hR=>
 i_ (OP (i+2) 1 (by omega) hi Z) (h l D R hR)
theorem sK {o:Func} {R:Ending->World->Prop} {f:Exit} {i k:Nat} (b:f = .ret∨f = .normal):∀{Ds:List Nat} {M:List bA},M[i]? = some (MN Ds)->J c ⟨k,[]⟩ σ (M.set i (MN [])) L (gS P o R f)->J c ⟨k,Kt Ds⟩ σ M L (gS P o R f)
 | [], M, hi, h => by
  have:M.set i (MN [])=M:=by
   apply List.ext_getElem?;intro j;by_cases e:i=j
   ·subst e;rw[hi];simp[(List.getElem?_eq_some_iff.1 hi).1]
   ·simp[List.getElem?_set_ne e]
  rw[this]at h;exact h
 | D :: Ds, M, hi, h => λa w s t => by
  obtain⟨F,v,q⟩:=t.res hi;have u:St c (M.set i (MN Ds)) L (w.putObj D (.deferred none)):=by
   refine t.upd hi Z Z Z (by simp) λF d _=>⟨λk _ r=> ?_,F,?_,λ_ h=> .inl h⟩
   ·exact World.putObj_heap_other (λe=>r (e▸(d.2 D (by simp)).1))
   ·obtain⟨p,d⟩:=d;refine⟨(List.nodup_cons.1 p).2,λE g=>⟨(d E (by simp[g])).1,?_⟩⟩
    rw[World.putObj_heap_other (λe=>(List.nodup_cons.1 p).1 (by subst e;exact g))];exact(d E (by simp[g])).2
  refine UX b s.defers (q D (by simp)).2 ?_;have l:(M.set i (MN Ds))[i]? = some (MN Ds):=by simp[(List.getElem?_eq_some_iff.1 hi).1]
  have:=sK b l (by rw[List.set_set];exact h) {tmps:=a.tmps,defers:=Kt Ds} _ ⟨rfl,s.size,s.slot⟩ u;rcases b with rfl|rfl<;>exact this
def agj {A B:Type} (c:uF) (f:A->B->Sz) (C:A->Prop) (b:A->B->Fr) (e d:A->B->List bA) (a:Act) (w:World):Prop:=∃x y,C x∧FB (f x y) (b x y) a∧St c (e x y) (d x y) w
theorem Rc {A B:Type} {x:Code} (h:A->B->Sz) (C:A->Prop) (d:A->B->Fr) (g f:A->B->List bA) (j:J c n σ M L (x.wpr rd P (Exit.then (agj c h C d g f) Q))) (k:∀a b,C a->J c (h a b) (d a b) (g a b) (f a b) K):
  J c n σ M L (x.wpr rd P (Exit.then K Q)):=λa w s t=>Hj (λe i u q=>by
 cases e with
 |normal=>obtain⟨z,y,o,p,r⟩:=q;exact k z y o i u p r
 |exit id=>exact q
 |goto l=>exact q
 |ret=>exact q
 |panic v=>exact q
 |outgrown=>exact q) (j a w s t)
theorem IN {A B:Type} {e:A->B->Sz} {C:A->Prop} {a:A->B->Fr} {d b:A->B->List bA} (x:A) (y:B) (i:n=e x y) (f:C x) (j:zQ σ (a x y)) (h:aY M (d x y)) (g:aF [] L (b x y)):J c n σ M L (agj c e C a d b):=
 λ_ _ s t=>⟨x,y,f,i▸s.weak j,t.weakE h g⟩
end
def Gb (b:Nat) (cs:List Value):bA where
 p w S:=S b∧∃T,w.heap[b]? = some (.cells cs.toArray T (0,0))
 mono:=fun⟨c,T,a⟩ h=>by
  obtain⟨d,e⟩:=h b c (Array.getElem?_eq_some_iff.1 a).1;exact⟨d,T,by rw[e];exact a⟩
section
variable {P:Program} {c:uF} {n:Sz} {σ:Fr} {M L:List bA} {d:Option Tmp} {ty:TypeId} {pos:String} {aft:Array Edge} {g:Option (Nat×Bool)} {α:Type} {e:cZ α}
theorem OV [cN P] {T E:TypeId} {u:IntKind} {k v A f B:Nat} {z C:Value} {l:TypeDesc} {x y:Operand} {b:Nat} {i:Int} (q:ev σ x=some (.pointer (some ⟨b,0,none⟩))) (r:ev σ y=some (.int u i))
  (p:cN.tab P T=some ⟨.array k E,v,A,z⟩) (o:cN.tab P E=some ⟨l,f,B,C⟩) (m:(f==0)=false) (h:0<=i∧i<(k:Int)):
  Y P c n σ M L ⟨d,.indexAddr T x y,ty,pos,aft,g⟩ (.pointer (some ⟨b,i.toNat*f,none⟩)):=λa w s t=>by
 have j:f≠0:=by simpa using m
 simp[execOp,s.eval q,s.eval r,Instr.indexAt,asIntOf,(cN.ok p).run_und w,h,Instr.sureAddr,(cN.ok o).run_size w,j,eI]
theorem UR [cN P] [Inhabited α] {T:TypeId} {E:Nat} {z:Value} {o:TypeDesc} {x:Operand} {b k:Nat} {i:Int} {f:List α} {u:Value} (q:ev σ x=some (.pointer (some ⟨b,i.toNat*1,none⟩)))
  (y:aE M L (Gb b (cellsOf e f))) (A:cN.tab P T=some ⟨o,1,E,z⟩) (B:wT o=false) (C:e.sz=1) (D:(e.enc (at' f i))=[u]) (h:(0<=i∧i<(k:Int))∧f.length=k):
  Y P c n σ M L ⟨d,.load T x,ty,pos,aft,g⟩ u:=λa w s t=>by
 obtain⟨F,j,r,l⟩:=y.st t;have v:(bV b (cellsOf e f) r).p w F:=⟨j,l⟩
 have m:=wC e f i.toNat (at' f i) (jK h.1.1 (by omega)) 0 u (by rw[D];rfl);rw[C,Nat.add_zero]at m;rw[Nat.mul_one]at q m;simp[execOp,s.eval q,yV (cN.ok A) B (bV.cell v m)]
end
def sl3 (v:Value) (l h m b:Nat):Value:=match v with
 | .slice a _ _=> .slice (if m=l then a else a.map (·.add (l*b))) (h - l) (m - l)
 |v=>v
section
variable {P:Program} {rd:Option Nat} {c:uF} {n:Sz} {σ:Fr} {M L:List bA} {Q:Exit->Act->World->Prop} {ops:Array Oper} {rest:List Oper} {d:Option Tmp} {ty:TypeId} {pos:String} {aft:Array Edge} {g:Option (Nat×Bool)} {α:Type} {e:cZ α} {r:eH α} {G:Act->World->Prop}
theorem US [cN P] {T E:TypeId} {J K u N:Nat} {z O:Value} {B:TypeDesc} {x p o q:Operand} {v:Value} {i k m:Int} {y:List α} (I:ev σ x=some v) (f:ev σ p=some (.int .i64 i)) (b:ev σ o=some (.int .i64 k)) (j:ev σ q=some (.int .i64 m)) (l:aE M L (Sl r v y))
  (F:cN.tab P T=some ⟨.slice E,J,K,z⟩) (D:cN.tab P E=some ⟨B,u,N,O⟩) (h:0<=i∧i<=k∧k<=m∧m<=y.length):Y P c n σ M L ⟨d,.slice T x (some p) (some o) (some q),ty,pos,aft,g⟩ (sl3 v i.toNat k.toNat m.toNat u):=λa w s t=>by
 have C:=WH (P:=P) (c:=c) (n:=n) (d:=d) (ty:=ty) (pos:=pos) (aft:=aft) (g:=g) I f b j l F D h a w s t;obtain⟨S,R,A,H,_⟩:=l.st t;subst H;exact C
theorem UO {w:World} {S:Nat->Prop} {v:Value} {i:List α} (p:Hk r w S v i) {l h m:Nat} (x:l<=h) (u:h<=m) (z:m<=i.length):Hk r w S (sl3 v l h m r.sz) ((i.take h).drop l):=by
 have A:=Hk.part p x (Nat.le_trans u z);obtain⟨a,s,rfl,C,_⟩:=p;obtain⟨B,k,j,t,b⟩:=A;have f:((i.take h).drop l).length=h - l:=by simp;omega
 refine⟨if m=l then a else a.map (·.add (l*r.sz)),m - l,by simp[sl3,f],by omega,?_⟩
 rcases b with b|b
 ·exact .inl b
 ·by_cases o:(i.take h).drop l=[]
  ·exact .inl o
  ·right;have y:l<h:=by
    rcases Nat.lt_or_ge l h with q|q
    ·exact q
    ·exact absurd (List.eq_nil_of_length_eq_zero (by omega)) o
   simp only[slq,Value.slice.injEq]at j;rw[if_neg (by omega)]at j;rw[if_neg (by omega),j.1];exact b
theorem Jw {v:Value} {a:List α} (b:aE M L (Sl r v a)) {l h m:Int} {q:Nat} (f:r.sz=q) (j:0<=l∧l<=h∧h<=m∧m<=a.length):aE M L (Sl r (sl3 v l.toNat h.toNat m.toNat q) ((a.take h.toNat).drop l.toNat)):=by
 subst f;exact b.mono λi=>UO i (by omega) (by omega) (by omega)
def Rlf (r:eH α) (vs:List Value) (b:List (List α)):bA where
 p w S:=vs.length=b.length∧∀(i:Nat) v a,vs[i]? = some v->b[i]? = some a->Hk r w S v a
 mono:=fun⟨f,j⟩ h=>⟨f,λi v a k l=>(Sl r v a).mono (j i v a k l) h⟩
theorem ZL (r:eH α) (m:Nat) (h:J c n σ M (Rlf r (List.replicate m (.slice none 0 0)) (List.replicate m ([]:List α))::L) G):J c n σ M L G:=λa w s t=>h a w s (by
 obtain⟨k,F,b,j⟩:=t;refine⟨k,F,b,λf hf=> ?_⟩
 rcases List.mem_cons.1 hf with rfl|hf
 ·refine⟨by simp,λi v p l o=> ?_⟩
  obtain⟨_,rfl⟩:=List.mem_replicate.1 (List.mem_of_getElem? l);obtain⟨_,rfl⟩:=List.mem_replicate.1 (List.mem_of_getElem? o);exact⟨none,0,rfl,by simp,.inl Z⟩
 ·exact j f hf)
theorem ZP (j:Nat) {vs:List Value} {o:List (List α)} {t:Value} {u:List α} {k:Nat} (C:L[j]? = some (Rlf r vs o)) (D:aE [] L (Sl r t u)) (h:J c n σ M (L.set j (Rlf r (vs.set k t) (o.set k u))) G):J c n σ M L G:=λa w s I=>h a w s (by
 obtain⟨H,F,B,p⟩:=I;refine⟨H,F,B,λf q=> ?_⟩
 rcases List.mem_or_eq_of_mem_set q with q|rfl
 ·exact p f q
 ·obtain⟨x,y⟩:=p _ (List.mem_of_getElem? C);refine⟨by simp[x],λi v K b l=> ?_⟩
  by_cases e:k=i
  ·subst e;have z:=bD b;have A:=bD l;rw[List.getElem?_set_self (by simpa using z)]at b;rw[List.getElem?_set_self (by simpa using A)]at l;cases b;cases l;exact D w (Dm c F) (λ_ _=>False) (Dm c F) p (λi m E=>by simp at E) (λ_ h=>h) (λ_ _ h=>h.elim)
  ·rw[List.getElem?_set_ne e]at b l;exact y i v K b l)
theorem UH [cN P] (j q:Nat) {T:TypeId} {E:Nat} {z:Value} {l:TypeDesc} {x y:Operand} {v u:Value} {i:Int} {vs:List Value} {b:List (List α)} (h:0<=i∧i<b.length) (C:ev σ x=some (DW v (i.toNat*1))) (D:ev σ y=some u)
  (p:M[j]? = some (Ar cZ.raw v vs)) (B:L[q]? = some (Rlf r vs b)) (f:one u=true) (o:cN.tab P T=some ⟨l,1,E,z⟩)
  (A:J c n σ (M.set j (Ar cZ.raw v (vs.set i.toNat u))) L (wpList P ops Q rest)):
  J c n σ M L (wpList P ops Q (⟨none,.store T x y,ty,pos,aft,none⟩::rest)):=λa w s t=>by
 have k:vs.length=b.length:=by obtain⟨_,F,_,m⟩:=t;exact(m _ (List.mem_of_getElem? B)).1
 exact Js j u C D Z f p o Z h.1 (by omega) A a w s t
theorem Jx {i j:Nat} {v:Value} {vs:List Value} {a:List (List α)} (K:M[i]? = some (Ar cZ.raw v vs)) (N:L[j]? = some (Rlf r vs a)):aE M L (S2 r v (vs.zip a) a):=λw S T U D E H I=>by
 have C:=E i _ K;obtain⟨h,F⟩:=D _ (List.mem_of_getElem? N);refine⟨?_,by rw[List.map_snd_zip];omega⟩
 have A:(vs.zip a).length=vs.length:=by simp[h]
 have f:Dl cZ.raw w (T i) v vs:=C;have o:=f;obtain⟨Y,_,J⟩:=f;rcases J with⟨rfl,rfl⟩|⟨b,t,m,V,B,rfl,p,W,y,X,ht⟩
 ·exact⟨none,0,rfl,by simp,.inl Z⟩
 ·refine⟨_,m,by rw[A],by rw[A];omega,.inr ⟨b,t,rfl,I i _ p,λq x l=> ?_⟩⟩
  have z:vs[q]? = some x.1:=by rw[List.getElem?_zip_eq_some]at l;exact l.1
  have s:a[q]? = some x.2:=by rw[List.getElem?_zip_eq_some]at l;exact l.2
  refine⟨[x.1],λR u O=> ?_,rfl,?_⟩
  ·have:=Dl.cell o z (j:=R) (u:=u) O;simp only[JZ,eI]at this;exact this
  ·exact(Sl r x.1 x.2).mono (F q _ _ z s) (λk y _=>⟨H k y,rfl⟩)
end
end Go.Sx
namespace Go.Sx
section
variable {P:Program} {M L:List bA} {α β γ:Type} {r:eH α} {s:eH γ} {q:eH β}
def eH.Deep (r:eH α) (q:eH β) (f:α->Value×List β):Prop:=∀{w S es x},r.R w S es x->Hk q w S (f x).1 (f x).2
theorem DF (q:eH β):(eH.sl q).Deep q (λx=>x):=λh=>h.2
theorem UM {f:α->Value×List β} (h:r.Deep q f):(r.pair s).Deep q (λx=>f x.1):=by
 rintro w S d x ⟨b,c,rfl,a,_⟩;exact h a
theorem EC {f:α->Value×List β} (h:r.Deep q f):(s.pair r).Deep q (λx=>f x.2):=by
 rintro w S d x ⟨b,c,rfl,_,a⟩;exact h a
theorem vZ [Inhabited α] {v:Value} {a:List α} {i:Int} {f:α->Value×List β} (h:aE M L (Sl r v a)) (d:r.Deep q f) (b:0<=i) (c:i<a.length):aE M L (Sl q (f (at' a i)).1 (f (at' a i)).2):=h.mono λ{w U} hs=>by
 obtain⟨g,e,_⟩:=sl_cell hs (jK b c);exact d e
def JL (s:ByteArray):List Int:=s.data.toList.map λb=>(b.toNat:Int)
theorem Cu [cN P] {c:uF} {n:Sz} {l:Fr} {d:Option Tmp} {H:TypeId} {e:String} {b:Array Edge} {g:Option (Nat×Bool)} {T:TypeId} {F G:Nat} {z:Value} {x y:Operand} {s:ByteArray} {f:List Int} {k:IntKind} {i:Int} (D:ev l x=some (.string s)) (E:ev l y=some (.int k i)) (u:cN.tab P T=some ⟨.string,F,G,z⟩) (A:JL s=f) (h:0<=i∧i<f.length):
  Y P c n l M L ⟨d,.index T x y,H,e,b,g⟩ (.int .u8 (at' f i)):=λa w p t=>by
 subst A;obtain⟨I,m⟩:=h;obtain⟨j,rfl⟩:∃j:Nat,i=(j:Int):=⟨i.toNat,by omega⟩
 have o:j<s.data.toList.length:=by unfold JL at m;simp at m ⊢;omega
 have C:j<s.size:=by have:=Lib.size_eq s;simp at o;omega
 have B:s[j]? = some (s.data.toList[j]):=by
  rw[getElem?_pos s j C];rfl
 have v:at' (JL s) (j:Int)=((s.data.toList[j]).toNat:Int):=by
  unfold at' JL;simp[List.getD_eq_getElem?_getD,List.getElem?_eq_getElem o]
 rw[v];simp[execOp,p.eval D,p.eval E,Instr.index,asIntOf,(cN.ok u).run_und w,B]
theorem Rq [cN P] {c:uF} {n:Sz} {j:Fr} {d:Option Tmp} {F:TypeId} {i:String} {e:Array Edge} {g:Option (Nat×Bool)} {T E:TypeId} {A B C D m b:Nat} {z G:Value} {o:TypeDesc} {x l:Operand} {k:Int} (y:ev j x=some (.pointer (some ⟨b,0,none⟩))) (f:ev j l=some (.int .i64 k))
  (v:cN.tab P T=some ⟨.array m E,A,B,z⟩) (u:cN.tab P E=some ⟨o,C,D,G⟩) {q:Int} (h:0<=k∧k<=((m:Nat):Int)∧k<=q):Y P c n j M L ⟨d,.slice T x none (some l) none,F,i,e,g⟩ (.slice (some ⟨b,0,none⟩) k.toNat m):=λa w s t=>by
 have p:0<=k∧k<=(m:Int):=⟨h.1,h.2.1⟩
 simp[execOp,s.eval y,s.eval f,Instr.sliceAt,Instr.slice,(cN.ok v).run_und w,Instr.sliceBounds,Instr.sliceBound,asIntOf,(cN.ok u).run_size w,p,asAddr,Addr.add,Instr.sureAddr]
theorem Wo {e:cZ α} {i b T m:Nat} {k:Int} {a:List α} (t:M[i]? = some (bV b (cellsOf e a) T)) (c:e.Fits r) (h:0<=k∧k<=((m:Nat):Int)∧k<=(a.length:Int)) (p:m<=9223372036854775807):aE M L (Sl r (.slice (some ⟨b,0,none⟩) k.toNat m) (a.take k.toNat)):=λw S T U B f C v=>by
 have n:=f i _ t;have o:(a.take k.toNat).length=k.toNat:=by simp;omega
 refine⟨some ⟨b,0,none⟩,m,by rw[o],by rw[o];omega,.inr ⟨b,0,rfl,v _ _ n.1,λj x d=> ?_⟩⟩
 have l:a[j]? = some x:=by
  rw[List.getElem?_take]at d;split at d
  ·exact d
  ·cases d
 obtain⟨g,D,z,_⟩:=c;refine⟨e.enc x,λq u A=> ?_,z⟩
 have y:=wC e a _ _ l _ _ A;rw[g,Nat.zero_add];exact bV.cell n y
def eH.All (r:eH α) (n:Nat) (g:α->List Value):Prop:=r.sz=n∧∀{w S es x},r.R w S es x->es=g x
theorem Rk {e:cZ α} (h:e.Fits r):r.All e.sz e.enc:=⟨h.1,h.2.1⟩
theorem Rm (q:eH β):(eH.sl q).All 1 (λx=>[x.1]):=⟨rfl,λh=>h.1⟩
theorem MX {n m:Nat} {f:α->List Value} {g:γ->List Value} (h:r.All n f) (k:s.All m g):(r.pair s).All (n+m) (λx=>f x.1++g x.2):=⟨by show r.sz+s.sz=_;rw[h.1,k.1],by
 rintro w S e x ⟨c,d,rfl,a,b⟩;rw[h.2 a,k.2 b]⟩
theorem Rp [cN P] [Inhabited α] {c:uF} {n:Sz} {B:Fr} {d:Option Tmp} {O:TypeId} {o:String} {k:Array Edge} {g:Option (Nat×Bool)} {T:TypeId} {N q m:Nat} {z:Value} {p:TypeDesc} {x:Operand} {v:Value} {i:Int} {e:List α} {cs:List Value} {f:α->List Value} (K:ev B x=some (DW v (i.toNat*q))) (G:aE M L (Sl r v e)) (y:r.All m f) (l:f (at' e i)=cs)
  (E:cN.tab P T=some ⟨p,cs.length,N,z⟩) (F:wT p=true) (H:m=q) (h:0<=i∧i<e.length):Y P c n B M L ⟨d,.load T x,O,o,k,g⟩ (.agg cs.toArray):=λa w s t=>by
 obtain⟨C,D⟩:=h;obtain⟨S,h⟩:=G.st t;obtain⟨Q,I,b⟩:=sl_cell h (jK C D);have:=y.2 I;subst this l;rw[y.1,H]at b;have:=BE (w:=w) (A:=JZ v (i.toNat*q)) (cs:=f (at' e i)) (cN.ok E) F Z (λj u J=>by rw[IX];exact b j u J);simp[execOp,s.eval K,DW,this]
end
end Go.Sx
namespace Go.Sx
open Go.RowKit
section
variable {P:Program} {c:uF} {n:Sz} {σ:Fr} {M L:List bA} {d:Option Tmp} {ty:TypeId} {pos:String} {aft:Array Edge} {g:Option (Nat×Bool)}
def ago (v:Value) (m:Nat):Prop:=∃a e,v = .slice a m e∧(m=0∨∃b f,a=some ⟨b,f,none⟩)
theorem Know.len {f:Type} {r:eH f} {v:Value} {xs:List f} (j:aE M L (Sl r v xs)):∀c w,St c M L w->ago v xs.length:=λc w t=>by
 obtain⟨S,i,cap,k,_,h⟩:=j.st t;exact⟨i,cap,k,h.imp (λh=>by simp[h]) fun⟨b,a,e,_⟩=>⟨b,a,e⟩⟩
theorem OW [cN P] {T E:TypeId} {B C k D m:Nat} {z F:Value} {o:TypeDesc} {x y:Operand} {v:Value} {i:Int} (u:ev σ x=some v) (A:ev σ y=some (.int .i64 i)) (f:ago v m)
  (s:cN.tab P T=some ⟨.slice E,B,C,z⟩) (r:cN.tab P E=some ⟨o,k,D,F⟩) (h:0<=i∧i<(m:Int)):Y P c n σ M L ⟨d,.indexAddr T x y,ty,pos,aft,g⟩ (DW v (i.toNat*k)):=λa w l t=>by
 obtain⟨G,e,rfl,f⟩:=f;obtain⟨p,q⟩:=h;rcases f with rfl|⟨b,j,rfl⟩
 ·omega
 ·simp[execOp,l.eval u,l.eval A,HW w (cN.ok s) Z (cN.ok r) b j _ e i p q]
theorem Jy [cN P] (i:Nat) {T j:TypeId} {H m o b:Nat} {z:Value} {q:TypeDesc} {x y:Operand} {cs e us:List Value} {u:Value} (E:ev σ x=some (.pointer (some ⟨b,o,none⟩))) (G:ev σ y=some u) (l:u.cells=us.toArray) (B:us.length=m)
  (r:us.all one=true) (p:M[i]? = some (bV b cs j)) (A:cN.tab P T=some ⟨q,m,H,z⟩) (C:Nat.ble (o+m) cs.length=true) (k:cs.take o++us++cs.drop (o+m)=e):
  aN P c n σ M L ⟨none,.store T x y,ty,pos,aft,none⟩ (λ_:Unit=>undef) (λ_=>M.set i (bV b e j)) (λ_=>L):=λa w s t=>by
 subst B k;obtain⟨F,v⟩:=t.res p;have D:o+us.length<=cs.length:=by simpa using C
 have h:=run_storeCells_at P b o j us 0 cs.toArray w v.2 (by simp;omega) (λu l=>qM (List.all_eq_true.1 r u l));simp only[Nat.add_zero]at h;have f:(execOp a.eval ⟨none,.store T x y,ty,pos,aft,none⟩).run P w = .ok .skip (w.setRow b (cs.take o++us++cs.drop (o+us.length)).toArray):=by
  simp[execOp,s.eval E,s.eval G,Instr.storeAt,Instr.sureAddr,storeVar,l,(cN.ok A).run_size w,h]
 simp only[Oper.wp,f,Oper.upon];exact⟨(),trivial,t.fill p⟩
theorem FQ {a:Type} [Inhabited a] (l:List a) (k:Int) (h:k.toNat<l.length) (b:0<=k):l.set k.toNat (at' l k)=l:=by
 have:=jK (xs:=l) b (by omega);refine List.ext_getElem? λi=> ?_;by_cases e:k.toNat=i
 ·subst e;rw[List.getElem?_set_self h,this]
 ·rw[List.getElem?_set_ne e]
theorem DD [cN P] {l:Type} [Inhabited l] {e:cZ l} (j:Nat) {T:TypeId} {Q m o q:Nat} {z:Value} {C:TypeDesc} {x y:Operand} {u:Value} {us:List Value} {i k:Int} {vs:List Value} {b:List (List l)} (f:l) (A:0<=k∧k<b.length) (h:0<=i∧i<(at' b k).length) (N:ev σ x=some (DW (at' vs k) (i.toNat*q+o))) (O:ev σ y=some u)
  (v:M[j]? = some (lD e vs b)) (I:e.sz=q) (K:u.cells=us.toArray) (G:us.length=m) (H:Nat.ble (o+m) q=true) (B:e.enc f=(e.enc (at' (at' b k) i)).take o++us++(e.enc (at' (at' b k) i)).drop (o+m)) (p:us.all one=true) (D:cN.tab P T=some ⟨C,m,Q,z⟩):
  aN P c n σ M L ⟨none,.store T x y,ty,pos,aft,none⟩ (λ_:Unit=>undef) (λ_=>M.set j (lD e vs (b.set k.toNat ((at' b k).set i.toNat f)))) (λ_=>L):=λa w s t=>by
 have U:=dJ j v c w t;have F:j<M.length:=(List.getElem?_eq_some_iff.1 v).1;refine nM (λS R ⟨x,E,J⟩=>⟨x,E,?_⟩) (Oz 0 f h N O Z I K G H B p D a w s (OQ j v A c w t));have r:=OM (j+1) 0 (u:=at' vs k) (k:=k) (vs:=vs) (xss:=b) (ys:=(at' b k).set i.toNat f) (e:=e) Z (by simp[F]) Z (by simpa using A) c R J;simp only[List.set_cons_zero,List.set_cons_succ,List.eraseIdx_cons_zero,List.set_set]at r;rw[FQ vs k (by omega) A.1]at r;exact r
end
theorem aY.ix {M a:List bA} (l:List Nat) (c:decide l.Nodup=true) (h:l.map (λi=>M[i]?)=a.map some):aY M a:=by
 have c:l.Nodup:=of_decide_eq_true c;have k:l.length=a.length:=by simpa using congrArg List.length h
 refine⟨λi=>l.getD i 0,λi j b n e=> ?_,λi m d=> ?_⟩
 ·have f:i<l.length:=by omega
  have g:j<l.length:=by omega
  simp only[List.getD_eq_getElem?_getD,List.getElem?_eq_getElem f,List.getElem?_eq_getElem g,Option.getD_some]at e;exact(List.getElem_inj c).1 e
 ·have b:i<l.length:=by rw[k];exact(List.getElem?_eq_some_iff.1 d).1
  have:=congrArg (λq=>q[i]?) h;simp only[List.getElem?_map,List.getElem?_eq_getElem b,d,Option.map_some,Option.some.injEq]at this;simpa [List.getD_eq_getElem?_getD,List.getElem?_eq_getElem b]using this
def cZ.fn:cZ Nat:=⟨1,Nat.one_pos,λf=>[.func (.func f) #[] #[]],λ_=>rfl⟩
def eH.fn:eH Nat:=⟨1,Nat.one_pos,λ_ _ cs x=>cs=[.func (.func x) #[] #[]],λh=>by simp[h],λh _=>h⟩
theorem On:cZ.fn.Fits eH.fn:=⟨rfl,λh=>h,rfl,λ_=>rfl⟩
section
variable {P:Program} {rd:Option Nat} {c:uF} {n:Sz} {σ:Fr} {M L:List bA} {Q:Exit->Act->World->Prop} {ops:Array Oper} {rest:List Oper} {d:Nat} {ty:TypeId} {pos:String} {aft:Array Edge} {x y:Operand} {v:Value} {K:Act->World->Prop}
abbrev vS (x:ByteArray):Value:= .string x
abbrev vB (x:Bool):Value:= .bool x
theorem dD {a:Type} {p G:Prop} {_:Decidable p} {u:Option a} {r:a} (h:ck p u=some r) (k:p->u=some r->G):G:=k (Tx h).1 (Tx h).2
theorem eX {a b:Type} {G:Prop} {u:Option a} {f:a->Option b} {r:b} (h:u.bind f=some r) (k:∀y,u=some y->f y=some r->G):G:=by
  obtain⟨y,e,g⟩:=bnd h;exact k y e g
theorem n_ (l:List Nat) {a:List bA} (h:l.map (L[·]?)=a.map some):aF M L a:=λf b=>by
  have g:some f∈l.map (L[·]?):=h▸List.mem_map_of_mem b;obtain⟨j,_,e⟩:=List.mem_map.1 g;exact aE.fact j e
theorem Az.ix (l:List Nat) {a:List bA} (h:l.map (L[·]?)=a.map some):Az L a:=λf b=>by
  have g:some f∈l.map (L[·]?):=h▸List.mem_map_of_mem b;obtain⟨j,_,e⟩:=List.mem_map.1 g;exact List.mem_of_getElem? e
theorem lC {f:bA} (i:Nat) (h:L[i]? = some f):Az L [f]:=Az.cons (List.mem_of_getElem? h) Az.nil
/-- which of the early loads must still hold,with the numbers of what they have read -/
def bsW (A:Nat->Bool):List (List Nat×List Nat)->List (Nat×List bA×List bA)->List (List Nat×List Nat×List bA×List bA)
  |_,[]=>[]
  |q,(j,Mx,Lx)::B=>bif A j||(Mx.isEmpty&&Lx.isEmpty)then bsW A q B else((q.headD ([],[])).1,(q.headD ([],[])).2,Mx,Lx)::bsW A q.tail B
theorem t_ {A:Nat->Bool} (q:List (List Nat×List Nat)) {B:List (Nat×List bA×List bA)} (h:(bsW A q B).map (λz=>(decide z.1.Nodup,z.1.map (M[·]?),z.2.1.map (L[·]?)))=(bsW A q B).map (λz=>(true,z.2.2.1.map some,z.2.2.2.map some))):zZ A M L B:=by
  induction B generalizing q with
  |nil=>exact zZ.z
  | cons b B ih =>
    obtain⟨j,k,i⟩:=b;cases a:A j with
    |true=>exact zZ.b a (ih q (by simpa [bsW,a]using h))
    | false =>
      cases g:(k.isEmpty&&i.isEmpty)with
      | true =>
        obtain⟨e,f⟩:=Bool.and_eq_true_iff.1 g;rw[List.isEmpty_iff]at e f;subst e;subst f;exact zZ.h aY.nil Az.nil (ih q (by simpa [bsW,a]using h))
      | false =>
        simp only[bsW,a,g,Bool.or_self,cond_false,List.map_cons,List.cons.injEq,Prod.mk.injEq]at h;exact zZ.h (aY.ix _ h.1.1 h.1.2.1) (Az.ix _ h.1.2.2) (ih q.tail h.2)
def hkB (A:Nat->Bool):List (Nat×List bA×List bA)->Bool
  | []=>true
  |(j,_,_)::H=>bif A j then hkB A H else false
theorem hkI {A:Nat->Bool} {f e:List bA} {H:List (Nat×List bA×List bA)} (h:hkB A H=true):aL A f e H:=by
  induction H with
  |nil=>exact aL.z
  | cons b B ih =>
    obtain⟨j,_,_⟩:=b;cases a:A j with
    |false=>simp[hkB,a]at h
    |true=>exact aL.b a (ih (by simpa [hkB,a]using h))
theorem hkN {A:Nat->Bool} {H:List (Nat×List bA×List bA)}:aL A [] [] H:=by
  induction H with
  |nil=>exact aL.z
  |cons b B a=>exact aL.h aY.nil Az.nil a
theorem dO {T:Operand} (h:(ev σ T,ev σ x,Nat.blt d n.sz)=(some (.bool true),some v,true)) (k:J c n ((d,v)::σ) M L (wpList P ops Q rest)):J c n σ M L (wpList P ops Q (⟨some d,.pick T x y,ty,pos,aft,none⟩::rest)):=by
  simp only[Prod.mk.injEq]at h;exact aB (IT h.1 h.2.1) h.2.2 k
theorem fI {T:Operand} (h:(ev σ T,ev σ y,Nat.blt d n.sz)=(some (.bool false),some v,true)) (k:J c n ((d,v)::σ) M L (wpList P ops Q rest)):J c n σ M L (wpList P ops Q (⟨some d,.pick T x y,ty,pos,aft,none⟩::rest)):=by
  simp only[Prod.mk.injEq]at h;exact aB (Gr h.1 h.2.1) h.2.2 k
theorem jA {vs:List Value} {i:Nat} (h:(ev σ x,vs[i]?,Nat.blt d n.sz)=(some (.tuple vs.toArray),some v,true)) (k:J c n ((d,v)::σ) M L (wpList P ops Q rest)):J c n σ M L (wpList P ops Q (⟨some d,.extract x i,ty,pos,aft,none⟩::rest)):=by
  simp only[Prod.mk.injEq]at h;exact aB (pR h.1 h.2.1) h.2.2 k
theorem rF {t a:TypeId} {i:IntKind} {p q:Int} (h:(ev σ x,ev σ y,Nat.blt d n.sz)=(some (.int i p),some (.int i q),true)) (k:J c n ((d,.bool (decide (p≠q)))::σ) M L (wpList P ops Q rest)):J c n σ M L (wpList P ops Q (⟨some d,.binOp .neq t x y a,ty,pos,aft,none⟩::rest)):=by
  simp only[Prod.mk.injEq]at h;exact aB (DJ h.1 h.2.1) h.2.2 k
theorem Au {t a:TypeId} {i:IntKind} {p q:Int} (h:(ev σ x,ev σ y,Nat.blt d n.sz)=(some (.int i p),some (.int i q),true)) (k:J c n ((d,.int i (eB i p q))::σ) M L (wpList P ops Q rest)):J c n σ M L (wpList P ops Q (⟨some d,.binOp .and t x y a,ty,pos,aft,none⟩::rest)):=by
  simp only[Prod.mk.injEq]at h;exact aB (Td h.1 h.2.1) h.2.2 k
theorem jB [cN P] {b:Type} {r:eH b} {T E:TypeId} {f g:Nat} {z:Value} {a:List b} (e:aE M L (Sl r v a)) (h:(ev σ x,cN.tab P T,Nat.blt d n.sz)=(some v,some ⟨.slice E,f,g,z⟩,true)) (k:J c n ((d,.int .i64 a.length)::σ) M L (wpList P ops Q rest)):J c n σ M L (wpList P ops Q (⟨some d,.call ⟨.builtin .len,#[x],#[T]⟩,ty,pos,aft,none⟩::rest)):=by
  simp only[Prod.mk.injEq]at h;exact aB (gW h.1 e h.2.1) h.2.2 k
variable {l:List Oper} {m:List Nat} {k0:Nat} {H Bs:List (Nat×List bA×List bA)} {rs:List Nat}
theorem iW {i a:Nat} {b:Op} (f:l[i]? = some ⟨some a,b,ty,pos,aft,none⟩) (k:Y P c n σ [] [] ⟨some a,b,ty,pos,aft,none⟩ v)
    (h:JR c n ((a,v)::σ) M L H ((i,[],[])::Bs) (RW P l.toArray Q (before m) (cS l) k0 rs))
    (g:Nat.blt i k0=true:=by exact rfl) (j:eK b=false:=by exact rfl) (e:Nat.blt a n.sz=true:=by exact rfl):JR c n σ M L H Bs (RW P l.toArray Q (before m) (cS l) k0 (i::rs)):=bK f aY.nil Az.nil k hkN h g j e
end
end Go.Sx
namespace Go.Sx
abbrev aS:=List Int
abbrev fS:=List (Int×Int)
abbrev bG:=List aS
abbrev fP:=List fS
abbrev HZ:=(ByteArray×(List (ByteArray×Int×Int×Int×Int×Int))×(List (ByteArray×(Value×fS)×(Value×List (Int×(Value×fS))))))×((ByteArray×(List (ByteArray×Int×Int×Int×Int×Int))×(List (ByteArray×(Value×fS)×(Value×List (Int×(Value×fS))))))×(aS×fP)×Int×bG)×fP
abbrev xZ:=ByteArray×(List (ByteArray×Int×Int×Int×Int×Int))×(List (ByteArray×(Value×fS)×(Value×List (Int×(Value×fS)))))
abbrev Of:=((ByteArray×(List (ByteArray×Int×Int×Int×Int×Int))×(List (ByteArray×(Value×fS)×(Value×List (Int×(Value×fS))))))×(aS×fP)×Int×bG)×bG×Int×fS
abbrev Bu:=(List bG×(List (Int×Int×Int×Int×Int))×Int)
abbrev cF:=aS×fP
abbrev kH:=List (Value×fS)
abbrev VQ:=(ByteArray×(List (ByteArray×Int×Int×Int×Int×Int))×(List (ByteArray×(Value×fS)×(Value×List (Int×(Value×fS))))))×(aS×fP)×Int×bG
abbrev sD:=List (Value×aS)
abbrev ab_:=(((ByteArray×(List (ByteArray×Int×Int×Int×Int×Int))×(List (ByteArray×(Value×fS)×(Value×List (Int×(Value×fS))))))×(aS×fP)×Int×bG)×bG×Int×fS)
abbrev Dw:=Int×aS×aS×aS×Bool×Bool
abbrev fR:=List Value
abbrev Ev:=ByteArray×Int×Int×Int×Int×Int
abbrev Dk:=List (Int×Int×Int×Int×Int)
abbrev jC:=(Int×Int)
abbrev Ix:=List (ByteArray×Int×Int×Int×Int×Int)
abbrev fU:=Int×Int
abbrev tX:=((aS×fP))
abbrev Ze:=(Int×aS×Int×Int×Int×Int×Int×Int×bG×aS×(List (Int×Int×Int×Int×Int))×List bG)
abbrev Zf:=Int×aS×Int×Int×Int×Int×Int×Int×bG×aS×(List (Int×Int×Int×Int×Int))×List bG
abbrev Iy:=Int×(List ((Int×Int)×Int))
abbrev Hi:=Int×Bool×Bool×Int×Int
abbrev oB:=Int×aS
abbrev Zg:=(ByteArray×List (ByteArray×Int×Int×Int×Int×Int)×List (fS×List (Int×fS)))
abbrev Lb:=List (fS×List (Int×fS))
abbrev x_:=(Int×aS)
abbrev My:=(Int×(List ((Int×Int)×Int)))
abbrev Iz:=Int×Int×Int×Int×Int
abbrev Us:=List bG×(List (Int×Int×Int×Int×Int))×Bool
abbrev Qy:=(ByteArray×Int×Int×Int×Int×Int)
abbrev qL:=List Nat
abbrev Mz:=Int×aS×fP×Int×bG
abbrev zY:=List bG
abbrev acC:=Int×Int×Int×Int×Int×Int×aS×aS×bG×(List (Int×Int×Int×Int×Int))×List bG
abbrev acD:=(List (Int×Int×Int×Int×Int))×List bG×aS×aS×bG×Int×Int×Int×Int×Int×Int
abbrev Lc:=Value×List Value
abbrev Zh:=((List (ByteArray×Int×Int×Int×Int×Int)))
abbrev Zi:=(List (ByteArray×Int×Int×Int×Int×Int))
abbrev lF:Value:=Value.slice none 0 0
abbrev QC:List Value:=[lF,lF,lF,vI (0:Int),vI (0:Int),vI (0:Int),vI (0:Int),vU (0:Int)]
abbrev vD1:List Value:=[Value.pointer none,lF,vI (0:Int),vU (0:Int),Value.nilFunc]
abbrev vD2:List Value:=[vI (0:Int),vI (0:Int),vI (0:Int),vI (0:Int),vU (0:Int)]
abbrev vD3:List Value:=[vS (ByteArray.mk #[]),vI (0:Int),vI (0:Int),vI (0:Int),vI (0:Int),vI (0:Int)]
abbrev Uv:List Value:=[vI (0:Int),vI (0:Int)]
abbrev vD5:List Value:=[vI (0:Int),vB (false),vB (false),vI (0:Int),vI (0:Int)]
end Go.Sx
namespace Go.Sx
open Go.RowKit
section
variable {P:Program} {c:uF} {n:Sz} {σ:Fr} {M L:List bA} {d:Option Tmp} {ty:TypeId} {pos:String} {aft:Array Edge} {g:Option (Nat×Bool)} {α:Type} {e:cZ α} {r:eH α}
def Cfg {α:Type} (e:cZ α) (v:Value) (l:List Value) (i:List (List α)):bA where
 p w F:=∃A B:Nat->Prop,Dl cZ.raw w A v l∧(lD e l i).p w B∧(∀k,A k->F k)∧(∀k,B k->F k)∧∀k,A k->¬B k
 mono:=by
  rintro w x S u ⟨A,B,s,t,m,o,q⟩ j;exact⟨λk=>A k∧k<w.heap.size,λk=>B k∧k<w.heap.size,(Ar cZ.raw v l).mono s λk f h=>⟨⟨f,h⟩,(j k (m k f) h).2⟩,(lD e l i).mono t λk f h=>⟨⟨f,h⟩,(j k (o k f) h).2⟩,λk f=>(j k (m k f.1) f.2).1,λk f=>(j k (o k f.1) f.2).1,λk a b=>q k a.1 b.1⟩
def Lh {α:Type} (e:cZ α) (vs:List Value) (m:List (List Value)) (b:List (List (List α))):bA where
 p w F:=(vs.length=b.length∧m.length=b.length)∧∃G:Nat->Nat->Prop,(∀i v l a,vs[i]? = some v->m[i]? = some l->b[i]? = some a->(Cfg e v l a).p w (G i))∧(∀i k,G i k->F k)∧∀i j k,G i k->G j k->i=j
 mono:=by
  rintro w D S C ⟨y,G,s,o,t⟩ q;exact⟨y,λi k=>G i k∧k<w.heap.size,λi v l a z A B=>(Cfg e v l a).mono (s i v l a z A B) λk f h=>⟨⟨f,h⟩,(q k (o i k f) h).2⟩,λi k f=>(q k (o i k f.1) f.2).1,λi j k u x=>t i j k u.1 x.1⟩
theorem AS (e:cZ α):oF M L (Lh e [] [] []::M) L:=oF.add λw=>⟨⟨rfl,rfl⟩,λ_ _=>False,λi v f b a=>by simp at a,λ_ _ h=>h,λ_ _ _ h=>h.elim⟩
theorem Tc (i j:Nat) {v:Value} {f:List Value} {a:List (List α)} (b:Nat.beq i j=false) (m:M[i]? = some (Ar cZ.raw v f)) (o:M[j]? = some (lD e f a)):oF M L ((M.set i (Cfg e v f a)).eraseIdx j) L:=λc w t=>
 t.merge i j (λe=>by subst e;simp at b) m o λh k l=>⟨_,_,h,k,λ_=> .inl,λ_=> .inr,l⟩
theorem JD (i j:Nat) {u:Value} {us:List Value} {p:List (List α)} {vs:List Value} {l:List (List Value)} {b:List (List (List α))} (x:Nat.beq i j=false) (O:M[i]? = some (Lh e vs l b)) (Q:M[j]? = some (Cfg e u us p)):oF M L ((M.set i (Lh e (vs++[u]) (l++[us]) (b++[p]))).eraseIdx j) L:=λc w t=>
 t.merge i j (λe=>by subst e;simp at x) O Q (by
  rintro w S F ⟨⟨y,z⟩,G,H,s,I⟩ N C;refine⟨⟨by simp[y],by simp[z]⟩,λq k=>(q<vs.length∧G q k)∨(q=vs.length∧F k),?_,?_,?_⟩
  ·intro q v R B h m o;by_cases D:q<vs.length
   ·rw[List.getElem?_append_left D]at h;rw[List.getElem?_append_left (by omega)]at m o;exact bA.same (H q v R B h m o) (λk a=> .inl ⟨D,a⟩) (λ_ _ _=>rfl)
   ·rw[List.getElem?_append_right (by omega)]at h m o;have A:q - vs.length=0:=by have:=bD h;simp at this;omega
    rw[A]at h;rw[show q - l.length=0 by omega]at m;rw[show q - b.length=0 by omega]at o;simp at h m o;subst h;subst m;subst o;exact bA.same N (λk a=> .inr ⟨by omega,a⟩) (λ_ _ _=>rfl)
  ·rintro q k (⟨_,a⟩|⟨_,a⟩)
   ·exact .inl (s q k a)
   ·exact .inr a
  ·rintro q E k (⟨J,a⟩|⟨J,a⟩) (⟨K,f⟩|⟨K,f⟩)
   ·exact I q E k a f
   ·exact absurd f (C k (s q k a))
   ·exact absurd a (C k (s E k f))
   ·omega)
theorem JE (i j:Nat) {us vs:List Value} {s m:List (List Value)} {h f:List (List (List α))} (B:Nat.beq i j=false) (T:M[i]? = some (Lh e vs m f)) (U:M[j]? = some (Lh e us s h)):oF M L ((M.set i (Lh e (vs++us) (m++s) (f++h))).eraseIdx j) L:=λc w t=>
 t.merge i j (λe=>by subst e;simp at B) T U (by
  rintro w V W ⟨⟨C,D⟩,G,O,z,Q⟩ ⟨⟨E,F⟩,N,y,l,A⟩ H;refine⟨⟨by simp[C,E],by simp[D,F]⟩,λq k=>(q<vs.length∧G q k)∨(vs.length<=q∧N (q - vs.length) k),?_,?_,?_⟩
  ·intro q v K u x o p;by_cases I:q<vs.length
   ·rw[List.getElem?_append_left I]at x;rw[List.getElem?_append_left (by omega)]at o p;exact bA.same (O q v K u x o p) (λk a=> .inl ⟨I,a⟩) (λ_ _ _=>rfl)
   ·rw[List.getElem?_append_right (by omega)]at x o p;rw[show q - m.length=q - vs.length by omega]at o;rw[show q - f.length=q - vs.length by omega]at p;exact bA.same (y _ v K u x o p) (λk a=> .inr ⟨by omega,a⟩) (λ_ _ _=>rfl)
  ·rintro q k (⟨_,a⟩|⟨_,a⟩)
   ·exact .inl (z q k a)
   ·exact .inr (l _ k a)
  ·rintro q J k (⟨R,a⟩|⟨R,a⟩) (⟨S,b⟩|⟨S,b⟩)
   ·exact Q q J k a b
   ·exact absurd (l _ k b) (H k (z q k a))
   ·exact absurd (l _ k a) (H k (z J k b))
   ·have:=A _ _ k a b;omega)
theorem wR (q:Nat) {vs:List Value} {b:List (List Value)} {a:List (List (List α))} (f:M[q]? = some (Lh e vs b a)):∀c w,St c M L w->vs.length=a.length:=λc w t=>by
 obtain⟨_,h⟩:=t.res f;exact h.1.1
theorem Ov {j:Nat} {vs:List Value} {f:List (List Value)} {a:List (List (List α))} {k:Int} (x:M[j]? = some (Lh e vs f a)) (b:e.Fits r) (h:0<=k) (s:k<a.length):aE M L (S2 r (at' vs k) ((at' f k).zip (at' a k)) (at' a k)):=λw S T U D u E v=>by
 obtain⟨⟨y,z⟩,G,o,p,_⟩:=u j _ x;obtain⟨A,B,t,i,l,m,_⟩:=o k.toNat _ _ _ (jK h (by omega)) (jK h (by omega)) (jK h s);refine⟨(Uk b t i).mono λq C _=>⟨v j q (p _ q (C.elim (l q) (m q))),rfl⟩,?_⟩
 rw[List.map_snd_zip];obtain⟨F,_⟩:=i;omega
theorem Gp [cN P] (i j:Nat) {T E:TypeId} {o p:Nat} {z:Value} {x:Operand} {v:Value} {vs:List Value} {f:List (List Value)} {b:List (List (List α))} (m:ev σ x=some v) (k:M[i]? = some (Ar cZ.raw v vs)) (l:M[j]? = some (Lh e vs f b))
  (h:cN.tab P T=some ⟨.slice E,o,p,z⟩):Y P c n σ M L ⟨d,.call ⟨.builtin .len,#[x],#[T]⟩,ty,pos,aft,g⟩ (.int .i64 b.length):=λa w s t=>by
 rw[<-wR j l c w t];exact acZ i m k h a w s t
theorem Jv (i:Nat) {v:Value} {l:List α} (j:M[i]? = some (Ar e v l)):∀c w,St c M L w->Sx.one v=true:=λc w t=>by
 obtain⟨_,_,_,h⟩:=t.res j;rcases h with⟨q,_⟩|⟨b,k,a,T,f,q,_⟩<;>rw[q]<;>rfl
end
section
variable {P:Program} {c:uF} {n:Sz} {σ:Fr} {M L:List bA} {d:Option Tmp} {ty:TypeId} {pos:String} {aft:Array Edge} {g:Option (Nat×Bool)} {α:Type} {e:cZ α}
theorem WE [cN P] {T:TypeId} {G H l m:Nat} {z o:Value} {j:Array Field} {E I F:String} {r:Bool} {k b p:Nat} {h:TypeDesc} {x:Operand} {vs:List Value} {v:Value} {f:Nat} (D:ev σ x=some (.agg vs.toArray))
  (y:cN.tab P T=some ⟨.struct j,G,H,z⟩) (B:j[f]? = some ⟨E,k,b,r,I,F,p⟩) (u:cN.tab P k=some ⟨h,l,m,o⟩) (A:wT h=false) (C:vs[b]? = some v):
  Y P c n σ M L ⟨d,.field T x f,ty,pos,aft,g⟩ v:=λa w s t=>by
 have i:=(cN.ok u).run_agg w;have q:wT (Ty.mk h l m o).desc=false:=A;rw[q]at i;simp[execOp,s.eval D,Instr.field,(cN.ok y).run_und w,B,asAgg,part,i,C]
end
end Go.Sx
namespace Go.Proofs.YtmdlcmbplnhdnaaGreatDoor
open Go.Sx
def IW:aS:=[0,1,1,2,1,2,2,3,1,2,2,3,2,3,3,4,1,2,2,3,2,3,3,4,2,3,3,4,3,4,4,5,1,2,2,3,2,3,3,4,2,3,3,4,3,4,4,5,2,3,3,4,3,4,4,5,3,4,4,5,4,5,5,6,1,2,2,3,2,3,3,4,2,3,3,4,3,4,4,5,2,3,3,4,3,4,4,5,3,4,4,5,4,5,5,6,2,3,3,4,3,4,4,5,3,4,4,5,4,5,5,6,3,4,4,5,4,5,5,6,4,5,5,6,5,6,6,7,1,2,2,3,2,3,3,4,2,3,3,4,3,4,4,5,2,3,3,4,3,4,4,5,3,4,4,5,4,5,5,6,2,3,3,4,3,4,4,5,3,4,4,5,4,5,5,6,3,4,4,5,4,5,5,6,4,5,5,6,5,6,6,7,2,3,3,4,3,4,4,5,3,4,4,5,4,5,5,6,3,4,4,5,4,5,5,6,4,5,5,6,5,6,6,7,3,4,4,5,4,5,5,6,4,5,5,6,5,6,6,7,4,5,5,6,5,6,6,7,5,6,6,7,6,7,7,8]
theorem Nm:JL (ByteArray.mk #[0,1,1,2,1,2,2,3,1,2,2,3,2,3,3,4,1,2,2,3,2,3,3,4,2,3,3,4,3,4,4,5,1,2,2,3,2,3,3,4,2,3,3,4,3,4,4,5,2,3,3,4,3,4,4,5,3,4,4,5,4,5,5,6,1,2,2,3,2,3,3,4,2,3,3,4,3,4,4,5,2,3,3,4,3,4,4,5,3,4,4,5,4,5,5,6,2,3,3,4,3,4,4,5,3,4,4,5,4,5,5,6,3,4,4,5,4,5,5,6,4,5,5,6,5,6,6,7,1,2,2,3,2,3,3,4,2,3,3,4,3,4,4,5,2,3,3,4,3,4,4,5,3,4,4,5,4,5,5,6,2,3,3,4,3,4,4,5,3,4,4,5,4,5,5,6,3,4,4,5,4,5,5,6,4,5,5,6,5,6,6,7,2,3,3,4,3,4,4,5,3,4,4,5,4,5,5,6,3,4,4,5,4,5,5,6,4,5,5,6,5,6,6,7,3,4,4,5,4,5,5,6,4,5,5,6,5,6,6,7,4,5,5,6,5,6,6,7,5,6,6,7,6,7,7,8])=IW:=by kernel_rfl
def wP:aS:=[0,1,28,2,29,14,24,3,30,22,20,15,25,17,4,8,31,27,13,23,21,19,16,7,26,12,18,6,11,5,10,9]
theorem _root_.Go.Sx.Y.bld5 {P:Program} {c:uF} {n:Sz} {a:Fr} {M L:List bA} {d:Option Tmp} {E:TypeId} {k:String} {j:Array Edge} {g:Option (Nat×Bool)} {T:TypeId} {b e f h i:Nat} {s t u v x:Operand} {l m o p q:Value} {r:Value} (y:ev a s=some l) (z:ev a t=some m) (A:ev a u=some o) (B:ev a v=some p) (C:ev a x=some q) (D:∀w,(Instr.build T ([(b,l),(e,m),(f,o),(h,p),(i,q)]:List (Nat×Value)).toArray).run P w = .ok r w):Y P c n a M L ⟨d,.build T #[(b,s),(e,t),(f,u),(h,v),(i,x)],E,k,j,g⟩ r:=
 AM (ps:=[(b,s),(e,t),(f,u),(h,v),(i,x)]) (vs:=[(b,l),(e,m),(f,o),(h,p),(i,q)]) (by simp[y,z,A,B,C]) D
abbrev ESt:cZ ByteArray:=⟨1,Nat.one_pos,λx=>[.string x],λ_=>rfl⟩
abbrev RSt:eH ByteArray:=⟨1,Nat.one_pos,λ_ _ a x=>a=[.string x],λh=>by simp[h],λh _=>h⟩
theorem FSt:ESt.Fits RSt:=⟨rfl,λh=>h,rfl,λ_=>rfl⟩
abbrev b_:cZ Int:=cZ.int .i64
abbrev bP:eH Int:=eH.int .i64
theorem dY:b_.Fits bP:=Gc .i64
theorem dG:bP.Cell 0 (λx=> .int .i64 x):=Gi .i64
abbrev iK:cZ Qy:=cZ.pair ESt (cZ.pair b_ (cZ.pair b_ (cZ.pair b_ (cZ.pair b_ (b_)))))
abbrev aQ:eH Qy:=eH.pair RSt (eH.pair bP (eH.pair bP (eH.pair bP (eH.pair bP (bP)))))
theorem iL:iK.Fits aQ:=iX FSt (iX dY (iX dY (iX dY (iX dY (dY)))))
theorem yF:aQ.Cell 1 (λx=> .int .i64 x.2.1):=cE (lL (dG))
theorem Dn:aQ.Cell 2 (λx=> .int .i64 x.2.2.1):=cE (cE (lL (dG)))
theorem Do:aQ.Cell 3 (λx=> .int .i64 x.2.2.2.1):=cE (cE (cE (lL (dG))))
theorem Dp:aQ.Cell 4 (λx=> .int .i64 x.2.2.2.2.1):=cE (cE (cE (cE (lL (dG)))))
theorem Dq:aQ.Cell 5 (λx=> .int .i64 x.2.2.2.2.2):=cE (cE (cE (cE (cE (dG)))))
abbrev cB:cZ jC:=cZ.pair b_ (b_)
abbrev a_:eH jC:=eH.pair bP (bP)
theorem bR:cB.Fits a_:=iX dY (dY)
theorem oZ:a_.Cell 0 (λx=> .int .i64 x.1):=lL (dG)
theorem FA:a_.Cell 1 (λx=> .int .i64 x.2):=cE (dG)
abbrev rO:eH (Int×(Value×fS)):=eH.pair bP ((eH.sl a_))
theorem Li:rO.All 2 (λx=>[Value.int .i64 (x.1),x.2.1]):=(MX (Rk dY) (Rm a_))
theorem De:rO.Deep a_ (λx=>x.2):=EC (DF a_)
abbrev aJ:eH (ByteArray×(Value×fS)×(Value×List (Int×(Value×fS)))):=eH.pair RSt (eH.pair (eH.sl a_) ((eH.sl rO)))
theorem Aw:aJ.Cell 1 (λx=>x.2.1.1):=cE (lL (eH.sl_cell a_))
theorem Ay:aJ.Deep a_ (λx=>x.2.1):=EC (UM (DF a_))
theorem Ax:aJ.Cell 2 (λx=>x.2.2.1):=cE (cE (eH.sl_cell rO))
theorem gO:aJ.Deep rO (λx=>x.2.2):=EC (EC (DF rO))
abbrev EFn:cZ Nat:=cZ.fn
abbrev RFn:eH Nat:=eH.fn
theorem FFn:EFn.Fits RFn:=On
abbrev IL:cZ (Int×Nat):=cZ.pair b_ (EFn)
abbrev ZT:eH (Int×Nat):=eH.pair bP (RFn)
theorem Bv:IL.Fits ZT:=iX dY (FFn)
abbrev ZA:cZ Bool:=cZ.bool
abbrev RBo:eH Bool:=eH.bool
theorem FBo:ZA.Fits RBo:=Lj
theorem ack:RBo.Cell 0 (λx=> .bool x):=λh=>by simp[show _=[_]from h]
abbrev pP:cZ Int:=cZ.int .u32
abbrev zP:eH Int:=eH.int .u32
theorem vT:pP.Fits zP:=Gc .u32
theorem Hu:zP.Cell 0 (λx=> .int .u32 x):=Gi .u32
abbrev Hn:cZ Int:=cZ.int .u8
abbrev bZ:cZ (Int×Int×Int×Int×Int):=cZ.pair b_ (cZ.pair b_ (cZ.pair b_ (cZ.pair b_ (pP))))
abbrev rX:eH (Int×Int×Int×Int×Int):=eH.pair bP (eH.pair bP (eH.pair bP (eH.pair bP (zP))))
theorem iP:bZ.Fits rX:=iX dY (iX dY (iX dY (iX dY (vT))))
theorem EV:rX.Cell 1 (λx=> .int .i64 x.2.1):=cE (lL (dG))
theorem EW:rX.Cell 3 (λx=> .int .i64 x.2.2.2.1):=cE (cE (cE (lL (dG))))
def QD (x:Int):Value:=Value.int .i64 (x)
def nR (x:fU):Value:=Value.agg #[Value.int .i64 (x.1),Value.int .i64 (x.2)]
theorem abu (x y:Hi) (m:Nat) (w:World):(Op.equalIn (m+2) 54 (.agg #[.int .i64 x.1,.bool x.2.1,.bool x.2.2.1,.int .i64 x.2.2.2.1,.int .i64 x.2.2.2.2]) (.agg #[.int .i64 y.1,.bool y.2.1,.bool y.2.2.1,.int .i64 y.2.2.2.1,.int .i64 y.2.2.2.2])).run Tryz.prog w = .ok (decide (x=y)) w:=by
 have c:∀a b:Int,(Op.equalIn (m+1) 3 (.int .i64 a) (.int .i64 b)).run Tryz.prog w = .ok (a==b) w:=by
  intro a b;simp[Op.equalIn]
 have d:∀a b:Bool,(Op.equalIn (m+1) 4 (.bool a) (.bool b)).run Tryz.prog w = .ok (a==b) w:=by
  intro a b;simp[Op.equalIn]
 have u:Tryz.prog.stoodInHeld 54=false:=by kernel_rfl
 unfold Op.equalIn;simp[u,part,isAgg,c,d];obtain⟨e,f,g,h,i⟩:=x;obtain⟨j,k,l,n,o⟩:=y;by_cases p:e=j<;>by_cases q:f=k<;>by_cases r:g=l<;>by_cases s:h=n<;>by_cases t:i=o<;>simp[p,q,r,s,t,c,d]
theorem Vr (x y:Operand) (u v:Array Value) (a:BinOp) (w:World):(eqGuard a 54 x y (.agg u) (.agg v)).run Tryz.prog w = .ok () w:=by
 have b:Tryz.prog.eqGuardType Tryz.prog.depth 54=false:=by kernel_rfl
 unfold eqGuard;cases a<;>simp[b]
theorem aaV (x y:Hi) (p q:Operand) (w:World):(eqGuard .neq 54 p q (.agg #[.int .i64 x.1,.bool x.2.1,.bool x.2.2.1,.int .i64 x.2.2.2.1,.int .i64 x.2.2.2.2]) (.agg #[.int .i64 y.1,.bool y.2.1,.bool y.2.2.1,.int .i64 y.2.2.2.1,.int .i64 y.2.2.2.2])).run Tryz.prog w = .ok () w∧(binOp .neq 54 (.agg #[.int .i64 x.1,.bool x.2.1,.bool x.2.2.1,.int .i64 x.2.2.2.1,.int .i64 x.2.2.2.2]) (.agg #[.int .i64 y.1,.bool y.2.1,.bool y.2.2.1,.int .i64 y.2.2.2.1,.int .i64 y.2.2.2.2])).run Tryz.prog w = .ok (.bool (decide (x≠y))) w:=by
 refine⟨Vr _ _ _ _ _ _,?_⟩
 have h:(Op.equal 54 (.agg #[.int .i64 x.1,.bool x.2.1,.bool x.2.2.1,.int .i64 x.2.2.2.1,.int .i64 x.2.2.2.2]) (.agg #[.int .i64 y.1,.bool y.2.1,.bool y.2.2.1,.int .i64 y.2.2.2.1,.int .i64 y.2.2.2.2])).run Tryz.prog w = .ok (decide (x=y)) w:=abu x y 9998 w;simp[binOp,h]
theorem Yh (x y:fU) (m:Nat) (w:World):(Op.equalIn (m+2) 141 (.agg #[.int .i64 x.1,.int .i64 x.2]) (.agg #[.int .i64 y.1,.int .i64 y.2])).run Tryz.prog w = .ok (decide (x=y)) w:=by
 have c:∀a b:Int,(Op.equalIn (m+1) 3 (.int .i64 a) (.int .i64 b)).run Tryz.prog w = .ok (a==b) w:=by
  intro a b;simp[Op.equalIn]
 unfold Op.equalIn;simp[show List.range' 0 2=[0,1]from rfl,part,isAgg,c];obtain⟨d,e⟩:=x;obtain⟨f,g⟩:=y;by_cases h:d=f<;>by_cases i:e=g<;>simp[h,i,c]
theorem Xh (b:Bool) (k:fU) (w:World):(Instr.checkKey b 10000 141 (nR k)).run Tryz.prog w = .ok () w:=by
 have a:∀m:Nat,(Instr.checkKey b (m+2) 141 (nR k)).run Tryz.prog w = .ok () w:=by
  intro m;simp[Instr.checkKey,nR,part,isAgg,show List.range' 0 2=[0,1]from rfl]
 exact a 9998
theorem ND:Ju Tryz.prog 141 nR:=Re Tryz.underlying141 Xh (λ_ _=>rfl) (λa b w=>Yh a b 9998 w) (λk=>by
 have c:∀m:Nat,Instr.sameBits (m+2) (nR k) (nR k)=true:=λm=>by simp[Instr.sameBits,nR]
 exact c 9998)
theorem lR (b:Value) (c:one b=true) (a:Array Value) (h:a.size=1*1):Instr.fill (λi=>some (i*1,1)) a [(0,b)]=some [b].toArray:=by
 obtain⟨l⟩:=a
 match l,h with
 | [z0],_=>simp[Instr.fill,fL c]
theorem zS (b c:Value) (a:Array Value) (h:a.size=1*2):Instr.fill (λi=>some (i*2,2)) a [(0,.agg #[b,c])]=some [b,c].toArray:=by
 obtain⟨l⟩:=a
 match l,h with
 | [z0,z1],_=>simp[Instr.fill,Value.cells]
theorem Ps (b c d e f:Value) (a:Array Value) (h:a.size=1*5):Instr.fill (λi=>some (i*5,5)) a [(0,.agg #[b,c,d,e,f])]=some [b,c,d,e,f].toArray:=by
 obtain⟨l⟩:=a
 match l,h with
 | [z0,z1,z2,z3,z4],_=>simp[Instr.fill,Value.cells]
theorem Kg (b c:Value) (d:one b=true) (e:one c=true) (a:Array Value) (h:a.size=2*1):Instr.fill (λi=>some (i*1,1)) a [(0,b),(1,c)]=some [b,c].toArray:=by
 obtain⟨l⟩:=a
 match l,h with
 | [z0,z1],_=>simp[Instr.fill,fL d,fL e]
theorem Kh (d e f g j k m n o p b c:Value) (a:Array Value) (h:a.size=2*6):Instr.fill (λi=>some (i*6,6)) a [(0,.agg #[d,e,f,g,j,k]),(1,.agg #[m,n,o,p,b,c])]=some [d,e,f,g,j,k,m,n,o,p,b,c].toArray:=by
 obtain⟨l⟩:=a
 match l,h with
 | [z0,z1,z2,z3,z4,z5,z6,z7,z8,z9,z10,z11],_=>simp[Instr.fill,Value.cells]
theorem XI (b c d e f g:Value) (a:Array Value) (h:a.size=3*2):Instr.fill (λi=>some (i*2,2)) a [(0,.agg #[b,c]),(1,.agg #[d,e]),(2,.agg #[f,g])]=some [b,c,d,e,f,g].toArray:=by
 obtain⟨l⟩:=a
 match l,h with
 | [z0,z1,z2,z3,z4,z5],_=>simp[Instr.fill,Value.cells]
theorem XJ (b c d e f g:Value) (j:one b=true) (k:one c=true) (m:one d=true) (n:one e=true) (o:one f=true) (p:one g=true) (a:Array Value) (h:a.size=6*1):Instr.fill (λi=>some (i*1,1)) a [(0,b),(1,c),(2,d),(3,e),(4,f),(5,g)]=some [b,c,d,e,f,g].toArray:=by
 obtain⟨l⟩:=a
 match l,h with
 | [z0,z1,z2,z3,z4,z5],_=>simp[Instr.fill,fL j,fL k,fL m,fL n,fL o,fL p]
def zI (a:Int) (b:Bool):Option (Int):=
 if b=true then(some (-1:Int))else(if a<=(17:Int)then(some (0:Int))else(if a<=(29:Int)then(some (1:Int))else(if a<=(42:Int)then(some (2:Int))else(some (3:Int)))))
def xO (U:Nat) (a:Int):Option (Int):=
 if a<(1:Int)then(zI a (true))else(zI a (decide ((43:Int)<a)))
theorem aaB:aV Tryz.prog 176:=Tryz.call176
theorem Oc (U:Nat) {b:Int} (r:Int) (h:xO U b=some r):
  aX Tryz.prog 176 #[vI (b)] [] (λx:Unit=>vI (r)) (λx l=>l) (λ_ l=>l):=by
 refine aX.of Tryz.func176 Z Tryz.ntmps176 Z λc=>?_;refine aW<|aC Z<|aM<|aK<|aT<|aK<|eD (λa=>zI b a=some r) (λa d=>[(0,vI (b)),(3,vB (a))]) (λa d=>[]) ?_ ?_
 ·refine aO<|aA Z<|cO Z<|aA Z ?_;refine Dy h Z (λ_ h=>?_) λ_ h=>?_
  ·refine aH Z<|aH Z<|dO Z<|aC Z<|aM ?_;exact gM (true) () h SF Z
  refine cR Z<|aP Z (wS Z Z) Z<|fI Z<|aC Z<|aM ?_;exact gM (decide ((43:Int)<b)) () h SF Z
 intro a d h;refine Ab h Z (λ_ h=>?_) λ_ h=>?_
 ·refine aW<|aC Z<|aM<|aU<|bL<|aI ?_;cases h;exact kV Z
 refine aW<|aA Z<|aB (Ca Z Z) Z<|aC Z<|aM ?_;refine fE h Z (λh=>?_) λh=>?_
 ·refine aW<|aC Z<|aM<|aU<|bL<|aI ?_;cases h;exact kV Z
 refine aW<|aA Z<|aB (Ca Z Z) Z<|aC Z<|aM ?_;refine fE h Z (λh=>?_) λh=>?_
 ·refine aW<|aC Z<|aM<|aU<|bL<|aI ?_;cases h;exact kV Z
 refine aW<|aA Z<|aB (Ca Z Z) Z<|aC Z<|aM ?_;refine fE h Z (λh=>?_) λh=>?_
 ·refine aW<|aC Z<|aM<|aU<|bL<|aI ?_;cases h;exact kV Z
 refine dW<|mQ<|aW<|aC Z<|aM<|aU ?_;cases h;exact kV Z
def Eu  (a:Unit):Option (Int):=
 some (-1:Int)
def lW (U:Nat) (d:fS) (a:fU) (c:jC->Option (Int)):Option (Int):=
 if a.1<(List.length d:Int)then(ck (0<=a.1∧a.1<(List.length d:Int)) (Option.bind (xO U ((at' d a.1).1)) λb=>(if b<(0:Int)then(some (-1:Int))else(if(wI .i64 (a.2+(wI .i64 (b - (1:Int)))))=(0:Int)then(some (wI .i64 (a.1+(1:Int))))else(c ((wI .i64 (a.1+(1:Int))),(wI .i64 (a.2+(wI .i64 (b - (1:Int)))))))))))else(Eu  (()))
def BG (U:Nat) (b:fS) (c:Int) (a:Bool):Option (Int):=
 if a=true then(some (-1:Int))else(bI (lW U b) U (c,(1:Int)))
def CO (U:Nat) (b:fS) (a:Int):Option (Int):=
 if a<(0:Int)then(BG U b a (true))else(BG U b a (decide ((List.length b:Int)<=a)))
theorem aaw:aV Tryz.prog 159:=Tryz.call159
theorem SL (U:Nat) {g:fS} {b:Int} (k:Value) (r:Int) (h:CO U g b=some r):
  aX Tryz.prog 159 #[k,vI (b)] [Sl a_ k g] (λx:Unit=>vI (r)) (λx l=>l) (λ_ l=>l):=by
 refine aX.of Tryz.func159 Z Tryz.ntmps159 Z λc=>?_;refine aW<|aC Z<|aM<|aK<|aK<|eD (λd=>BG U g b d=some r) (λd n=>[(0,k),(1,vI (b)),(14,vB (d))]) (λd n=>[]) ?_ ?_
 ·refine aO<|aA Z<|cO Z<|aA Z ?_;refine Dy h Z (λ_ h=>?_) λ_ h=>?_
  ·refine aH Z<|aH Z<|aH Z<|aH Z<|dO Z<|aM ?_;exact gM (true) () h SF Z
  refine cR Z<|cR Z<|aP Z (gW Z (aE.fact 0 Z) Z) Z<|aP Z (B_ Z Z) Z<|fI Z<|aM ?_;exact gM (decide ((List.length g:Int)<=b)) () h SF Z
 intro d n h;refine Ab h Z (λ_ h=>?_) λ_ h=>?_
 ·refine aW<|aC Z<|aM<|aU<|aI ?_;cases h;exact kV Z
 refine cK<|aK<|eD (λj=>Eu  j=some r) (λj o=>[]) (λj o=>[]) ?_ ?_
 ·refine aW<|aC Z<|aM<|aT<|dZ (lW U g) (λa e=>[(0,k),(1,vI (a.1)),(5,vI (a.2))]) (λa e=>[]) (b,(1:Int)) () h SF (aY.refl _) ?_;intro p a e h;refine aK<|aW<|aA Z<|aA Z<|jB (aE.fact 0 Z) Z<|cO Z<|aM ?_;refine fE h Z (λh=>?_) λh=>?_
  ·refine cK<|aK<|aT<|aW<|aA Z<|aA Z<|dD h λf h=>aB (aZ Z Z (aE.fact 0 Z) Z Z f) Z<|aB (gA Z Z Z Z Z) Z<|aB (jQ Z (aE.fact 0 Z) Z Z Z oZ f) Z<|eX h λi m h=>aG (aN.callQ aaB (Oc U  i m) Z .nil) Z λq=>aC Z<|aM<|aK<|aW<|aA Z<|cO Z<|aM ?_;refine fE h Z (λh=>?_) λh=>?_
   ·refine aW<|aC Z<|aM<|aU<|aI<|bL<|aI<|aI<|bL<|aI ?_;cases h;exact kV Z
   refine cK<|aW<|aA Z<|aA Z<|aB (oC Z Z) Z<|cI Z<|aC Z<|aM<|aW<|aA Z<|cP Z<|aM ?_;refine fE h Z (λh=>?_) λh=>?_
   ·refine aW<|aA Z<|cI Z<|aC Z<|aM<|aU<|bL<|aI<|aI<|bL<|aI ?_;cases h;exact kV Z
   refine dW<|mQ<|aO<|aA Z<|cI Z<|aC Z<|aM ?_;exact yX ((wI .i64 (a.1+(1:Int))),(wI .i64 (a.2+(wI .i64 (i - (1:Int)))))) () h SF Z
  refine fH ?_;exact gM () (()) h SF Z
 intro j o h;unfold Eu at h;refine aW<|aC Z<|aM<|aU ?_;cases h;exact kV Z
def iZ (U:Nat) (a:Bool):Option (Int):=
 if a=true then(some (1:Int))else(some (0:Int))
theorem yY:aV Tryz.prog 185:=Tryz.call185
theorem lJ (U:Nat) {a:Bool} (r:Int) (h:iZ U a=some r):
  aX Tryz.prog 185 #[vB (a)] [] (λx:Unit=>vI (r)) (λx l=>l) (λ_ l=>l):=by
 refine aX.of Tryz.func185 Z Tryz.ntmps185 Z λc=>?_;refine aW<|aC Z<|aM<|aK<|aW<|aA Z<|aM ?_;refine Ab h Z (λ_ h=>?_) λ_ h=>?_
 ·refine aW<|aC Z<|aM<|aU<|aI ?_;cases h;exact kV Z
 refine cK<|aW<|aC Z<|aM<|aU ?_;cases h;exact kV Z
def sS (U:Nat) (a:VQ) (d:Int) (b:Int) (c:Int):Option (Int):=
 if d=(6:Int)then(some (List.length a.2.1.1:Int))else(if d=(7:Int)then(some (a.2.2.1))else(if d=(8:Int)then(ck (0<=b∧b<(List.length a.2.1.1:Int)) (some (at' a.2.1.1 b)))else(if d=(9:Int)then(ck (0<=b∧b<(List.length a.2.1.2:Int)) (some (List.length (at' a.2.1.2 b):Int)))else(if d=(10:Int)then(Option.bind (iZ U (decide (b=(0:Int)))) λf=>(some (f)))else(if d=(11:Int)then(some (c))else(ck (0<=b∧b<(List.length a.2.1.2:Int)) (ck (0<=c∧c<(List.length (at' a.2.1.2 b):Int)) (if d=(13:Int)then(ck (0<=((at' (at' a.2.1.2 b) c).1)∧((at' (at' a.2.1.2 b) c).1)<(List.length a.2.1.1:Int)) (some (at' a.2.1.1 ((at' (at' a.2.1.2 b) c).1))))else(if d=(14:Int)then(ck (0<=((at' (at' a.2.1.2 b) c).1)∧((at' (at' a.2.1.2 b) c).1)<(List.length a.2.1.2:Int)) (some (List.length (at' a.2.1.2 ((at' (at' a.2.1.2 b) c).1)):Int)))else(if d=(15:Int)then(Option.bind (iZ U (decide (((at' (at' a.2.1.2 b) c).1)=(0:Int)))) λe=>(some (e)))else(if d=(16:Int)then(some ((at' (at' a.2.1.2 b) c).2))else(ck (0<=b∧b<(List.length a.2.2.2:Int)) (ck (0<=c∧c<(List.length (at' a.2.2.2 b):Int)) (some (at' (at' a.2.2.2 b) c)))))))))))))))
theorem aaC:aV Tryz.prog 184:=Tryz.call184
theorem Ei (U:Nat) {d:VQ} {s:Int} {f:Int} {g:Int} (i:Nat)  (t:Value)  (u:Value)  (v:Value)  (w:Value)  (F:kH)  (y:Value)  (G:sD) (r:Int) (h:sS U d s f g=some r):
  aX Tryz.prog 184 #[vP i,vI (s),vI (f),vI (g)] [bV i [vS (d.1.1),t,u,v,w,vI (d.2.2.1),y] 137,Sl aQ t d.1.2.1,Sl aJ u d.1.2.2,Sl bP v d.2.1.1,S2 a_ w F d.2.1.2,S2 bP y G d.2.2.2] (λx:Unit=>vI (r)) (λx l=>l) (λ_ l=>l):=by
 refine aX.of Tryz.func184 Z Tryz.ntmps184 Z λc=>?_;refine aW<|aC Z<|aM<|aK<|aW<|aA Z<|aM<|aT<|aW<|cP Z<|aC Z<|aM ?_;refine fE h Z (λh=>?_) λh=>?_
 ·refine aW<|aA Z<|aB (bW Z) Z<|bU Z<|bU Z<|aB (dQ Z (aE.fact 0 Z) Z Z Z) Z<|jB (aE.fact 3 Z) Z<|aC Z<|aM<|aU<|bL<|aI ?_;cases h;exact kV Z
 refine aW<|cP Z<|aC Z<|aM ?_;refine fE h Z (λh=>?_) λh=>?_
 ·refine aW<|aA Z<|aB (bW Z) Z<|bU Z<|aB (dQ Z (aE.fact 0 Z) Z Z Z) Z<|aC Z<|aM<|aU<|bL<|aI ?_;cases h;exact kV Z
 refine aW<|cP Z<|aC Z<|aM ?_;refine fE h Z (λh=>?_) λh=>?_
 ·refine aW<|aA Z<|aB (bW Z) Z<|bU Z<|bU Z<|aB (dQ Z (aE.fact 0 Z) Z Z Z) Z<|aA Z<|dD h λq h=>aB (aZ Z Z (aE.fact 3 Z) Z Z q) Z<|aB (bX Z (aE.fact 3 Z) Z Z Z dG q) Z<|aC Z<|aM<|aU<|bL<|aI ?_;cases h;exact kV Z
 refine aW<|cP Z<|aC Z<|aM ?_;refine fE h Z (λh=>?_) λh=>?_
 ·refine aW<|aA Z<|aB (bW Z) Z<|bU Z<|bU Z<|aB (dQ Z (aE.fact 0 Z) Z Z Z) Z<|aA Z<|dD h λn h=>aB (cH Z Z (aE.fact 4 Z) Z Z n) Z<|aB (cG Z (aE.fact 4 Z) Z Z n) Z<|aB (gW Z (aE.el (aE.fact 4 Z) n.1 n.2) Z) Z<|aC Z<|aM<|aU<|bL<|aI ?_;cases h;exact kV Z
 refine aW<|cP Z<|aC Z<|aM ?_;refine fE h Z (λh=>?_) λh=>?_
 ·refine aW<|aA Z<|cP Z<|eX h λB C h=>aG (aN.callQ yY (lJ U  B C) Z .nil) Z λD=>aC Z<|aM<|aU<|bL<|aI ?_;cases h;exact kV Z
 refine aW<|cP Z<|aC Z<|aM ?_;refine fE h Z (λh=>?_) λh=>?_
 ·refine aW<|aA Z<|aC Z<|aM<|aU<|bL<|aI ?_;cases h;exact kV Z
 refine dW<|mQ<|aW<|aA Z<|aB (bW Z) Z<|bU Z<|bU Z<|aB (dQ Z (aE.fact 0 Z) Z Z Z) Z<|aA Z<|dD h λa h=>aB (cH Z Z (aE.fact 4 Z) Z Z a) Z<|aB (cG Z (aE.fact 4 Z) Z Z a) Z<|aA Z<|dD h λj h=>aB (aZ Z Z (aE.el (aE.fact 4 Z) a.1 a.2) Z Z j) Z<|aB (iM (cs:=[vI ((at' (at' d.2.1.2 f) g).1),vI ((at' (at' d.2.1.2 f) g).2)]) Z (aE.el (aE.fact 4 Z) a.1 a.2) bR Z Z Z Z j) Z<|aG (aN.alloc (cs:=Uv) Z Z) Z λA=>bQ 0 (vs:=[vI ((at' (at' d.2.1.2 f) g).1),vI ((at' (at' d.2.1.2 f) g).2)]) Z Z Z Z Z Z<|aM<|aK<|aW<|aA Z<|aM<|aT<|aW<|cP Z<|aC Z<|aM ?_;refine fE h Z (λh=>?_) λh=>?_
 ·refine aK ?_;refine JR.start [0,1,3,7,15,0,32,127,255,511] 7 mixedOrders (by decide +kernel) ?_;refine JR.open (by exact rfl) ?_;refine bF Z<|iW Z (bW Z)<|cY Z<|cY Z<|bK Z .nil (lC 0 Z) (dQ Z (aE.fact 0 Z) Z Z Z) aL.z<|cY Z<|iS 0 Z<|bM 7 Z Z<|dD h λk h=>aB (aZ Z Z (aE.fact 3 Z) Z Z k) Z<|aB (bX Z (aE.fact 3 Z) Z Z Z dG k) Z<|aC Z<|aM<|aU<|bL<|aI ?_;cases h;exact sE Z
 refine aW<|cP Z<|aC Z<|aM ?_;refine fE h Z (λh=>?_) λh=>?_
 ·refine aK ?_;refine JR.start [0,1,3,7,15,0,32,127,255,511,1023] 7 mixedOrders (by decide +kernel) ?_;refine JR.open (by exact rfl) ?_;refine bF Z<|iW Z (bW Z)<|cY Z<|cY Z<|bK Z .nil (lC 0 Z) (dQ Z (aE.fact 0 Z) Z Z Z) aL.z<|cY Z<|iS 0 Z<|bM 7 Z Z<|dD h λe h=>aB (cH Z Z (aE.fact 4 Z) Z Z e) Z<|aB (cG Z (aE.fact 4 Z) Z Z e) Z<|aB (gW Z (aE.el (aE.fact 4 Z) e.1 e.2) Z) Z<|aC Z<|aM<|aU<|bL<|aI ?_;cases h;exact sE Z
 refine aW<|cP Z<|aC Z<|aM ?_;refine fE h Z (λh=>?_) λh=>?_
 ·refine aW<|bU Z<|dK 0 Z<|cP Z<|eX h λo p h=>aG (aN.callQ yY (lJ U  o p) Z .nil) Z λE=>aC Z<|aM<|aU<|bL<|aI ?_;cases h;exact sE Z
 refine aW<|cP Z<|aC Z<|aM ?_;refine fE h Z (λh=>?_) λh=>?_
 ·refine aW<|bU Z<|dK 0 Z<|aC Z<|aM<|aU<|bL<|aI ?_;cases h;exact sE Z
 refine dW<|mQ<|aW<|aA Z<|aB (bW Z) Z<|bU Z<|aB (dQ Z (aE.fact 0 Z) Z Z Z) Z<|aA Z<|dD h λb h=>aB (cH Z Z (aE.fact 5 Z) Z Z b) Z<|aB (cG Z (aE.fact 5 Z) Z Z b) Z<|aA Z<|dD h λm h=>aB (aZ Z Z (aE.el (aE.fact 5 Z) b.1 b.2) Z Z m) Z<|aB (bX Z (aE.el (aE.fact 5 Z) b.1 b.2) Z Z Z dG m) Z<|aC Z<|aM<|aU ?_;cases h;exact sE Z
def mH (U:Nat) (a:Of) (b:fU) (c:Int):Option (Int):=
 if b.1=(1:Int)then(some (b.2))else(if b.1=(2:Int)then(some (1:Int))else(if b.1=(3:Int)then(some (0:Int))else(if b.1=(4:Int)then(some (-1:Int))else(if b.1=(5:Int)then(ck (0<=a.2.2.1∧a.2.2.1<(List.length a.2.1:Int)) (ck (0<=b.2∧b.2<(List.length (at' a.2.1 a.2.2.1):Int)) (some (at' (at' a.2.1 a.2.2.1) b.2))))else(if b.1=(12:Int)then(ck (0<=a.2.2.1∧a.2.2.1<(List.length a.1.2.1.2:Int)) (ck (0<=c∧c<(List.length (at' a.1.2.1.2 a.2.2.1):Int)) (ck (0<=((at' (at' a.1.2.1.2 a.2.2.1) c).1)∧((at' (at' a.1.2.1.2 a.2.2.1) c).1)<(List.length a.2.1:Int)) (ck (0<=b.2∧b.2<(List.length (at' a.2.1 ((at' (at' a.1.2.1.2 a.2.2.1) c).1)):Int)) (some (at' (at' a.2.1 ((at' (at' a.1.2.1.2 a.2.2.1) c).1)) b.2))))))else(Option.bind (sS U ((((a.1.1.1,a.1.1.2.1,a.1.1.2.2)),((a.1.2.1.1,a.1.2.1.2)),a.1.2.2.1,a.1.2.2.2)) b.1 a.2.2.1 c) λd=>(some (d))))))))
theorem aay:aV Tryz.prog 165:=Tryz.call165
theorem Fb (U:Nat) {d:Of} {k:fU} {y:Int} (g:Nat)  (e:Nat)  (o:Value)  (p:Value)  (q:Value)  (s:Value)  (B:kH)  (t:Value)  (C:sD)  (A:Value)  (v:sD)  (m:Value) (r:Int) (h:mH U d k y=some r):
  aX Tryz.prog 165 #[vP g,Value.agg #[vI (k.1),vI (k.2)],vI (y)] [bV g [vP e,A,vI (d.2.2.1),m] 207,bV e [vS (d.1.1.1),o,p,q,s,vI (d.1.2.2.1),t] 137,Sl aQ o d.1.1.2.1,Sl aJ p d.1.1.2.2,Sl bP q d.1.2.1.1,S2 a_ s B d.1.2.1.2,S2 bP t C d.1.2.2.2,S2 bP A v d.2.1,Sl a_ m d.2.2.2] (λx:Unit=>vI (r)) (λx l=>l) (λ_ l=>l):=by
 refine aX.of Tryz.func165 Z Tryz.ntmps165 Z λc=>?_;refine aW<|aG (aN.box (cs:=[vI (k.1),vI (k.2)]) Z Z) Z λE=>aC Z<|aM<|aK<|aW<|bU Z<|dK 0 Z<|aM<|aT<|aW<|cP Z<|aC Z<|aM ?_;refine fE h Z (λh=>?_) λh=>?_
 ·refine aW<|bU Z<|dK 0 Z<|aC Z<|aM<|aU<|bL<|aI ?_;cases h;exact sE Z
 refine aW<|cP Z<|aC Z<|aM ?_;refine fE h Z (λh=>?_) λh=>?_
 ·refine aW<|aC Z<|aM<|aU<|bL<|aI ?_;cases h;exact sE Z
 refine aW<|cP Z<|aC Z<|aM ?_;refine fE h Z (λh=>?_) λh=>?_
 ·refine aW<|aC Z<|aM<|aU<|bL<|aI ?_;cases h;exact sE Z
 refine aW<|cP Z<|aC Z<|aM ?_;refine fE h Z (λh=>?_) λh=>?_
 ·refine aW<|aC Z<|aM<|aU<|bL<|aI ?_;cases h;exact sE Z
 refine aW<|cP Z<|aC Z<|aM ?_;refine fE h Z (λh=>?_) λh=>?_
 ·refine aK ?_;refine JR.start [0,1,3,7,0,16,48,112,255,511,0,1024,4095,8191,16383] 12 mixedOrders (by decide +kernel) ?_;refine JR.open (by exact rfl) ?_;refine bF Z<|iW Z (bW Z)<|cY Z<|bK Z .nil (lC 0 Z) (dQ Z (aE.fact 0 Z) Z Z Z) aL.z<|bF Z<|iW Z (bW Z)<|cY Z<|bK Z .nil (lC 0 Z) (dQ Z (aE.fact 0 Z) Z Z Z) aL.z<|dD h λf h=>bK Z .nil (lC 7 Z) (cH Z Z (aE.fact 0 Z) Z Z f) aL.z<|bK Z .nil (lC 7 Z) (cG Z (aE.fact 0 Z) Z Z f) aL.z<|cY Z<|iS 0 Z<|bM 12 Z Z<|dD h λw h=>aB (aZ Z Z (aE.el (aE.fact 7 Z) f.1 f.2) Z Z w) Z<|aB (bX Z (aE.el (aE.fact 7 Z) f.1 f.2) Z Z Z dG w) Z<|aC Z<|aM<|aU<|bL<|aI ?_;cases h;exact sE Z
 refine aW<|cP Z<|aC Z<|aM ?_;refine fE h Z (λh=>?_) λh=>?_
 ·refine aK ?_;refine JR.start [0,1,3,7,0,16,48,112,240,496,1008,2032,0,4096,12288,28672,65520,131056,0,524272,1048560,2097136,4194303,8388607,0,16777216,67108863,134217727,268435455] 26 mixedOrders (by decide +kernel) ?_;refine JR.open (by exact rfl) ?_;refine bF Z<|iW Z (bW Z)<|cY Z<|bK Z .nil (lC 0 Z) (dQ Z (aE.fact 0 Z) Z Z Z) aL.z<|bF Z<|iW Z (bW Z)<|cY Z<|bK Z .nil (lC 0 Z) (dQ Z (aE.fact 0 Z) Z Z Z) aL.z<|iW Z (bW Z)<|cY Z<|cY Z<|bK Z .nil (lC 1 Z) (dQ Z (aE.fact 0 Z) Z Z Z) aL.z<|bF Z<|iW Z (bW Z)<|cY Z<|bK Z .nil (lC 0 Z) (dQ Z (aE.fact 0 Z) Z Z Z) aL.z<|dD h λa h=>bK Z .nil (lC 5 Z) (cH Z Z (aE.fact 0 Z) Z Z a) aL.z<|bK Z .nil (lC 5 Z) (cG Z (aE.fact 0 Z) Z Z a) aL.z<|bF Z<|dD h λi h=>bK Z .nil (lC 5 Z) (aZ Z Z (aE.el (aE.fact 0 Z) a.1 a.2) Z Z i) aL.z<|iW Z (gA Z Z Z Z Z)<|bK Z .nil (lC 5 Z) (jQ Z (aE.el (aE.fact 0 Z) a.1 a.2) Z Z Z oZ i) aL.z<|dD h λb h=>bK Z .nil (lC 7 Z) (cH Z Z (aE.fact 0 Z) Z Z b) aL.z<|bK Z .nil (lC 7 Z) (cG Z (aE.fact 0 Z) Z Z b) aL.z<|cY Z<|iS 0 Z<|bM 26 Z Z<|dD h λj h=>aB (aZ Z Z (aE.el (aE.fact 7 Z) b.1 b.2) Z Z j) Z<|aB (bX Z (aE.el (aE.fact 7 Z) b.1 b.2) Z Z Z dG j) Z<|aC Z<|aM<|aU<|bL<|aI ?_;cases h;exact sE Z
 refine dW<|mQ<|aK ?_;refine JR.start [0,1,3,7,0,16,0,64,192,448,0,2047,4095] 11 mixedOrders (by decide +kernel) ?_;refine JR.open (by exact rfl) ?_;refine bF Z<|iW Z (bW Z)<|cY Z<|bK Z .nil (lC 0 Z) (dQ Z (aE.fact 0 Z) Z Z Z) aL.z<|cY Z<|iS 0 Z<|bF Z<|iW Z (bW Z)<|cY Z<|bK Z .nil (lC 0 Z) (dQ Z (aE.fact 0 Z) Z Z Z) aL.z<|bF Z<|bM 11 Z Z<|eX h λn u h=>aG (aN.callQ aaC (Ei U e o p q s B t C n u) Z (n_ [1,2,3,4,5,6] Z)) Z λD=>aC Z<|aM<|aU ?_;cases h;exact sE Z
def AD (U:Nat) (b:Int) (a:Int):Option (Int):=
 if b=(18:Int)then(some (wI .i64 (0 - a)))else(Option.bind (iZ U (decide (a=(0:Int)))) λc=>(some (c)))
theorem aaz:aV Tryz.prog 166:=Tryz.call166
theorem NW (U:Nat) {a:Int} {b:Int} (r:Int) (h:AD U a b=some r):
  aX Tryz.prog 166 #[vI (a),vI (b)] [] (λx:Unit=>vI (r)) (λx l=>l) (λ_ l=>l):=by
 refine aX.of Tryz.func166 Z Tryz.ntmps166 Z λc=>?_;refine aW<|aC Z<|aM<|aK<|aW<|aA Z<|cP Z<|aM ?_;refine fE h Z (λh=>?_) λh=>?_
 ·refine aW<|aA Z<|aB (Te Z) Z<|aC Z<|aM<|aU<|aI ?_;cases h;exact kV Z
 refine cK<|aW<|aA Z<|cP Z<|eX h λd e h=>aG (aN.callQ yY (lJ U  d e) Z .nil) Z λf=>aC Z<|aM<|aU ?_;cases h;exact kV Z
def jN (U:Nat) (a:Int):Option (Int):=
 some (max (-1073741824:Int) (min a (1073741824:Int)))
theorem EF:aV Tryz.prog 187:=Tryz.call187
theorem mU (U:Nat) {a:Int} (r:Int) (h:jN U a=some r):
  aX Tryz.prog 187 #[vI (a)] [] (λx:Unit=>vI (r)) (λx l=>l) (λ_ l=>l):=by
 refine aX.of Tryz.func187 Z Tryz.ntmps187 Z λc=>?_;unfold jN at h;refine aW<|aC Z<|aM<|aW<|aA Z<|aB (acn Z Z) Z<|aB (Ie Z Z) Z<|aC Z<|aM<|aU ?_;cases h;exact kV Z
def qB  (a:Int):Option (Int):=
 some (a)
def tP (a:Int) (b:Int) (c:Bool):Option (Int):=
 if c=true then(qB  (wI .i64 ((wI .i64 (Int.tdiv a b)) - (1:Int))))else(qB  (wI .i64 (Int.tdiv a b)))
def rE (U:Nat) (b:Int) (a:Int):Option (Int):=
 if a=(0:Int)then(some (0:Int))else(ck (a≠0) (ck (a≠0) (if(Int.tmod b a)≠(0:Int)then(tP b a (((decide (b<(0:Int))) != (decide (a<(0:Int))))))else(tP b a (false)))))
theorem Ts:aV Tryz.prog 188:=Tryz.call188
theorem Di (U:Nat) {a:Int} {b:Int} (r:Int) (h:rE U a b=some r):
  aX Tryz.prog 188 #[vI (a),vI (b)] [] (λx:Unit=>vI (r)) (λx l=>l) (λ_ l=>l):=by
 refine aX.of Tryz.func188 Z Tryz.ntmps188 Z λc=>?_;refine aW<|aC Z<|aM<|aK<|aW<|aA Z<|cP Z<|aM ?_;refine fE h Z (λh=>?_) λh=>?_
 ·refine aW<|aC Z<|aM<|aU<|aI ?_;cases h;exact kV Z
 refine cK<|aW<|aA Z<|aA Z<|dD h λj h=>aB (WG Z Z j) Z<|aC Z<|aM<|aK<|eD (λd=>qB  d=some r) (λd g=>[(5,vI (d))]) (λd g=>[]) ?_ ?_
 ·refine aK<|eD (λe=>tP a b e=some r) (λe i=>[(5,vI (wI .i64 (Int.tdiv a b))),(21,vB (e))]) (λe i=>[]) ?_ ?_
  ·refine aO<|aA Z<|aA Z<|dD h λf h=>aB (OY Z Z f) Z<|rF Z<|aA Z ?_;refine Dy h Z (λ_ h=>?_) λ_ h=>?_
   ·refine cR Z<|aP Z (Gq Z Z) Z<|cR Z<|aP Z (Gq Z Z) Z<|aP Z (ac_ Z Z Z) Z<|dO Z<|aM ?_;exact gM (((decide (a<(0:Int))) != (decide (b<(0:Int))))) () h SF Z
   refine aH Z<|aH Z<|aH Z<|aH Z<|aH Z<|fI Z<|aM ?_;exact gM (false) () h SF Z
  intro e i h;refine Ab h Z (λ_ h=>?_) λ_ h=>?_
  ·refine aO<|aA Z<|aB (oC Z Z) Z<|aC Z<|aM ?_;exact gM (wI .i64 ((wI .i64 (Int.tdiv a b)) - (1:Int))) () h SF Z
  refine cK ?_;exact gM (wI .i64 (Int.tdiv a b)) () h SF Z
 intro d g h;unfold qB at h;refine aW<|aA Z<|aC Z<|aM<|aU ?_;cases h;exact kV Z
def vD (U:Nat) (c:Int) (a:Int) (b:Int):Option (Bool):=
 if c=(35:Int)then(some (decide (a=b)))else(if c=(36:Int)then(some (decide (a≠b)))else(if c=(37:Int)then(some (decide (a<b)))else(if c=(38:Int)then(some (decide (a<=b)))else(if c=(39:Int)then(some (decide (b<a)))else(some (decide (b<=a)))))))
theorem aaE:aV Tryz.prog 189:=Tryz.call189
theorem IG (U:Nat) {a:Int} {b:Int} {d:Int} (r:Bool) (h:vD U a b d=some r):
  aX Tryz.prog 189 #[vI (a),vI (b),vI (d)] [] (λx:Unit=>vB (r)) (λx l=>l) (λ_ l=>l):=by
 refine aX.of Tryz.func189 Z Tryz.ntmps189 Z λc=>?_;refine aW<|aC Z<|aM<|aK<|aW<|aA Z<|aM<|aT<|aW<|cP Z<|aC Z<|aM ?_;refine fE h Z (λh=>?_) λh=>?_
 ·refine aW<|aA Z<|aA Z<|cP Z<|aC Z<|aM<|aU<|bL<|aI ?_;cases h;exact kV Z
 refine aW<|cP Z<|aC Z<|aM ?_;refine fE h Z (λh=>?_) λh=>?_
 ·refine aW<|aA Z<|aA Z<|rF Z<|aC Z<|aM<|aU<|bL<|aI ?_;cases h;exact kV Z
 refine aW<|cP Z<|aC Z<|aM ?_;refine fE h Z (λh=>?_) λh=>?_
 ·refine aW<|aA Z<|aA Z<|cO Z<|aC Z<|aM<|aU<|bL<|aI ?_;cases h;exact kV Z
 refine aW<|cP Z<|aC Z<|aM ?_;refine fE h Z (λh=>?_) λh=>?_
 ·refine aW<|aA Z<|aA Z<|aB (Ca Z Z) Z<|aC Z<|aM<|aU<|bL<|aI ?_;cases h;exact kV Z
 refine aW<|cP Z<|aC Z<|aM ?_;refine fE h Z (λh=>?_) λh=>?_
 ·refine aW<|aA Z<|aA Z<|aB (wS Z Z) Z<|aC Z<|aM<|aU<|bL<|aI ?_;cases h;exact kV Z
 refine dW<|mQ<|aW<|aA Z<|aA Z<|aB (B_ Z Z) Z<|aC Z<|aM<|aU ?_;cases h;exact kV Z
def p_  (a:Int):Option (Int):=
 some (a)
def qA  (a:Int):Option (Int):=
 some (a)
def zB (U:Nat) (c:Int) (b:Int) (a:Int):Option (Int):=
 if c=(30:Int)then(Option.bind (jN U (wI .i64 (b*a))) λn=>(some (n)))else(if c=(31:Int)then(Option.bind (rE U b a) λo=>(Option.bind (jN U o) λp=>(some (p))))else(if c=(32:Int)then(if a=(0:Int)then(some (0:Int))else(Option.bind (rE U b a) λd=>(Option.bind (jN U (wI .i64 (b - (wI .i64 (a*d))))) λe=>(some (e)))))else(if c=(33:Int)then(Option.bind (jN U (wI .i64 (b+a))) λf=>(some (f)))else(if c=(34:Int)then(Option.bind (jN U (wI .i64 (b - a))) λg=>(some (g)))else(if c=(41:Int)then(if b≠(0:Int)then(Option.bind (iZ U (decide (a≠(0:Int)))) λh=>(p_  (h)))else(Option.bind (iZ U false) λi=>(p_  (i))))else(if c=(42:Int)then(if b≠(0:Int)then(Option.bind (iZ U true) λj=>(qA  (j)))else(Option.bind (iZ U (decide (a≠(0:Int)))) λk=>(qA  (k))))else(Option.bind (vD U c b a) λl=>(Option.bind (iZ U l) λm=>(some (m))))))))))
theorem aaA:aV Tryz.prog 168:=Tryz.call168
theorem Lr (U:Nat) {E:Int} {F:Int} {G:Int} (r:Int) (h:zB U E F G=some r):
  aX Tryz.prog 168 #[vI (E),vI (F),vI (G)] [] (λx:Unit=>vI (r)) (λx l=>l) (λ_ l=>l):=by
 refine aX.of Tryz.func168 Z Tryz.ntmps168 Z λc=>?_;refine aW<|aC Z<|aM<|aK<|aW<|aA Z<|aM<|aT<|aW<|cP Z<|aC Z<|aM ?_;refine fE h Z (λh=>?_) λh=>?_
 ·refine aW<|aA Z<|aA Z<|aB (AT Z Z) Z<|eX h λH K h=>aG (aN.callQ EF (mU U  H K) Z .nil) Z λY=>aC Z<|aM<|aU<|bL<|aI ?_;cases h;exact kV Z
 refine aW<|cP Z<|aC Z<|aM ?_;refine fE h Z (λh=>?_) λh=>?_
 ·refine aW<|aA Z<|aA Z<|eX h λI L h=>aG (aN.callQ Ts (Di U  I L) Z .nil) Z λx8=>eX h λJ s h=>aG (aN.callQ EF (mU U  J s) Z .nil) Z λM=>aC Z<|aM<|aU<|bL<|aI ?_;cases h;exact kV Z
 refine aW<|cP Z<|aC Z<|aM ?_;refine fE h Z (λh=>?_) λh=>?_
 ·refine aK<|aW<|aA Z<|cP Z<|aM ?_;refine fE h Z (λh=>?_) λh=>?_
  ·refine aW<|aC Z<|aM<|aU<|aI<|bL<|aI ?_;cases h;exact kV Z
  refine cK<|aW<|aA Z<|aA Z<|aA Z<|aA Z<|eX h λk t h=>aG (aN.callQ Ts (Di U  k t) Z .nil) Z λN=>aB (AT Z Z) Z<|aB (oC Z Z) Z<|eX h λm u h=>aG (aN.callQ EF (mU U  m u) Z .nil) Z λO=>aC Z<|aM<|aU<|bL<|aI ?_;cases h;exact kV Z
 refine aW<|cP Z<|aC Z<|aM ?_;refine fE h Z (λh=>?_) λh=>?_
 ·refine aW<|aA Z<|aA Z<|cI Z<|eX h λn v h=>aG (aN.callQ EF (mU U  n v) Z .nil) Z λP=>aC Z<|aM<|aU<|bL<|aI ?_;cases h;exact kV Z
 refine aW<|cP Z<|aC Z<|aM ?_;refine fE h Z (λh=>?_) λh=>?_
 ·refine aW<|aA Z<|aA Z<|aB (oC Z Z) Z<|eX h λo w h=>aG (aN.callQ EF (mU U  o w) Z .nil) Z λQ=>aC Z<|aM<|aU<|bL<|aI ?_;cases h;exact kV Z
 refine aW<|cP Z<|aC Z<|aM ?_;refine fE h Z (λh=>?_) λh=>?_
 ·refine aK<|eD (λa=>p_  a=some r) (λa d=>[(6,vI (a))]) (λa d=>[]) ?_ ?_
  ·refine aO<|aA Z<|rF Z<|aA Z ?_;refine Dy h Z (λ_ h=>?_) λ_ h=>?_
   ·refine cR Z<|aP Z (DJ Z Z) Z<|dO Z<|eX h λf y h=>aG (aN.callQ yY (lJ U  f y) Z .nil) Z λR=>aC Z<|aM ?_;exact gM (f) () h SF Z
   refine aH Z<|aH Z<|fI Z<|eX h λg z h=>aG (aN.callQ yY (lJ U  g z) Z .nil) Z λS=>aC Z<|aM ?_;exact gM (g) () h SF Z
  intro a d h;unfold p_ at h;refine aU<|bL<|aI ?_;cases h;exact kV Z
 refine aW<|cP Z<|aC Z<|aM ?_;refine fE h Z (λh=>?_) λh=>?_
 ·refine aK<|eD (λb=>qA  b=some r) (λb e=>[(6,vI (b))]) (λb e=>[]) ?_ ?_
  ·refine aO<|aA Z<|rF Z<|aA Z ?_;refine Dy h Z (λ_ h=>?_) λ_ h=>?_
   ·refine aH Z<|aH Z<|dO Z<|eX h λi A h=>aG (aN.callQ yY (lJ U  i A) Z .nil) Z λT=>aC Z<|aM ?_;exact gM (i) () h SF Z
   refine cR Z<|aP Z (DJ Z Z) Z<|fI Z<|eX h λj B h=>aG (aN.callQ yY (lJ U  j B) Z .nil) Z λV=>aC Z<|aM ?_;exact gM (j) () h SF Z
  intro b e h;unfold qA at h;refine aU<|bL<|aI ?_;cases h;exact kV Z
 refine dW<|mQ<|aW<|aA Z<|aA Z<|aA Z<|eX h λp C h=>aG (aN.callQ aaE (IG U  p C) Z .nil) Z λW=>eX h λq D h=>aG (aN.callQ yY (lJ U  q D) Z .nil) Z λX=>aC Z<|aM<|aU ?_;cases h;exact kV Z
def yZ  (a:Int):Option (Int):=
 some (a)
def uI (c:fU) (b:jC->Option (Int)) (a:Int):Option (Int):=
 b (a,(wI .i64 (c.2+(1:Int))))
def rP (c:aS) (a:fU) (b:jC->Option (Int)):Option (Int):=
 if a.2<(List.length c:Int)then(ck (0<=a.2∧a.2<(List.length c:Int)) (if(at' c a.2)≠(0:Int)then(uI a b (wI .i64 (a.1+(1:Int))))else(uI a b (a.1))))else(yZ  (a.1))
def qS (U:Nat) (a:aS):Option (Int):=
 bI (rP a) U ((0:Int),(0:Int))
theorem Ni:aV Tryz.prog 195:=Tryz.call195
theorem Db (U:Nat) {d:aS} (i:Value) (r:Int) (h:qS U d=some r):
  aX Tryz.prog 195 #[i] [Sl bP i d] (λx:Unit=>vI (r)) (λx l=>l) (λ_ l=>l):=by
 refine aX.of Tryz.func195 Z Tryz.ntmps195 Z λc=>?_;unfold qS at h;refine aW<|aC Z<|aM<|aW<|aC Z<|aM<|aK<|eD (λe=>yZ  e=some r) (λe j=>[(3,vI (e))]) (λe j=>[]) ?_ ?_
 ·refine aW<|aA Z<|jB (aE.fact 0 Z) Z<|aA Z<|aM<|aT<|dZ (rP d) (λb k=>[(3,vI (b.1)),(6,i),(7,vI (List.length d:Int)),(8,vI (b.2))]) (λb k=>[]) ((0:Int),(0:Int)) () h SF (aY.refl _) ?_;intro m b k h;refine aW<|cO Z<|aM<|aK ?_;refine fE h Z (λh=>?_) λh=>?_
  ·refine cK<|aK<|eD (λa=>uI b (bI (rP d) m) a=some r) (λa f=>[(3,vI (a)),(6,i),(7,vI (List.length d:Int)),(8,vI (b.2))]) (λa f=>[]) ?_ ?_
   ·refine aT<|aW<|dD h λg h=>aB (aZ Z Z (aE.fact 0 Z) Z Z g) Z<|aB (bX Z (aE.fact 0 Z) Z Z Z dG g) Z<|aC Z<|aM<|aW<|aA Z<|rF Z<|aM ?_;refine fE h Z (λh=>?_) λh=>?_
    ·refine aO<|aA Z<|cI Z<|aC Z<|eT<|mQ ?_;exact gM (wI .i64 (b.1+(1:Int))) () h SF Z
    refine dW<|mQ ?_;exact gM (b.1) () h SF Z
   intro a f h;unfold uI at h;refine aO<|cI Z<|aA Z<|aM ?_;exact yX (a,(wI .i64 (b.2+(1:Int)))) () h SF Z
  refine fH ?_;exact gM (b.1) () h SF Z
 intro e j h;unfold yZ at h;refine aW<|aA Z<|aC Z<|aM<|aU ?_;cases h;exact kV Z
def pO  (a:Unit):Option (Int):=
 some (-1:Int)
def gG (c:aS) (e:Int->Option Bool) (a:Int) (b:(Int)->Option (Int)):Option (Int):=
 if a<(List.length c:Int)then(ck (0<=a∧a<(List.length c:Int)) (Option.bind (e (at' c a)) λd=>(if d=true then(some (a))else(b (wI .i64 (a+(1:Int)))))))else(pO  (()))
def nJ (U:Nat) (b:aS) (a:Int->Option Bool):Option (Int):=
 bI (gG b a) U (0:Int)
theorem aaF:aV Tryz.prog 196:=Tryz.call196
theorem FX (U:Nat) {b:aS} {o:Int->Option Bool} (k:FuncId) (a:fR) (j:List bA) (e:aV Tryz.prog k) (f:∀(t:Int) (r:Bool),o t=some r->aX Tryz.prog k ([vI (t)]++a).toArray j (λ_:Unit=>vB (r)) (λ_ l=>l) (λ_ l=>l)) (i:Value) (r:Int) (h:nJ U b o=some r):
  aX Tryz.prog 196 #[i,Value.func (.func k) #[] (a).toArray] ([Sl bP i b]++j) (λx:Unit=>vI (r)) (λx l=>l) (λ_ l=>l):=by
 refine aX.of Tryz.func196 Z Tryz.ntmps196 Z λc=>?_;unfold nJ at h;refine aW<|aC Z<|aM<|aK<|BH (B:=Unit) (λg=>pO  g=some r) (λg m=>[]) (λg m=>[]) (λg m=>([Sl bP i b]++j)) ?_ ?_
 ·refine aW<|aA Z<|jB (aE.fact 0 Z) Z<|aA Z<|aM<|aT<|Ge (B:=Unit) (gG b o) (λd n=>[(0,i),(1,Value.func (.func k) #[] (a).toArray),(7,vI (List.length b:Int)),(8,vI (d))]) (λd n=>[]) (λd n=>([Sl bP i b]++j)) (0:Int) () h SF (aY.refl _) (aF.refl _ _) ?_;intro v d n h;refine aW<|cO Z<|aM<|aK ?_;refine fE h Z (λh=>?_) λh=>?_
  ·refine cK<|aK<|aT<|aW<|aA Z<|aC Z<|aM<|aW<|aA Z<|aA Z<|aA Z<|dD h λs h=>aB (aZ Z Z (aE.fact 0 Z) Z Z s) Z<|aB (bX Z (aE.fact 0 Z) Z Z Z dG s) Z<|eX h λp q h=>aG (v_ (vs:=[vI (at' b d)]) (cs:=a) e Z (f (at' b d) p q) Z (aF.tail _) (λ_ _=>rfl)) Z λu=>aM ?_;refine Ab h Z (λ_ h=>?_) λ_ h=>?_
   ·refine aW<|aA Z<|aC Z<|aM<|aU<|bL<|aI<|aI<|bL<|aI ?_;cases h;exact kV Z
   refine dW<|mQ<|aO<|cI Z<|aA Z<|aM ?_;exact yX (wI .i64 (d+(1:Int))) () h SF Z
  refine fH ?_;exact gM () (()) h SF Z
 intro g m h;unfold pO at h;refine aW<|aC Z<|aM<|aU ?_;cases h;exact kV Z
def pA (U:Nat) (a:Int):Option (Bool):=
 some (decide (a≠(0:Int)))
theorem aaG:aV Tryz.prog 197:=Tryz.call197
theorem Ls (U:Nat) {a:Int} (r:Bool) (h:pA U a=some r):
  aX Tryz.prog 197 #[vI (a)] [] (λx:Unit=>vB (r)) (λx l=>l) (λ_ l=>l):=by
 refine aX.of Tryz.func197 Z Tryz.ntmps197 Z λc=>?_;unfold pA at h;refine aW<|aC Z<|aM<|aW<|aA Z<|rF Z<|aC Z<|aM<|aU ?_;cases h;exact kV Z
def uA  (a:fU):Option jC:=
 some (a.1,a.2)
def pJ (c:Int×Int×Int) (b:(Int×Int×Int)->Option jC) (a:fU):Option jC:=
 b (a.1,a.2,(wI .i64 (c.2.2+(1:Int))))
def uB (c:aS) (a:Int×Int×Int) (b:(Int×Int×Int)->Option jC):Option jC:=
 if a.2.2<(List.length c:Int)then(ck (0<=a.2.2∧a.2.2<(List.length c:Int)) (if a.1<(at' c a.2.2)then(pJ a b ((at' c a.2.2),a.1))else(pJ a b (a.1,(max a.2.1 (at' c a.2.2))))))else(uA  (a.1,a.2.1))
def qT (U:Nat) (a:aS):Option jC:=
 bI (uB a) U ((-1073741824:Int),(-1073741824:Int),(0:Int))
theorem Tt:aV Tryz.prog 198:=Tryz.call198
theorem Bl (U:Nat) {d:aS} (j:Value) (r:fU) (h:qT U d=some r):
  aX Tryz.prog 198 #[j] [Sl bP j d] (λx:Unit=>Value.tuple #[vI (r.1),vI (r.2)]) (λx l=>l) (λ_ l=>l):=by
 refine aX.of Tryz.func198 Z Tryz.ntmps198 Z λc=>?_;unfold qT at h;refine aW<|aC Z<|aC Z<|aM<|aW<|aC Z<|aC Z<|aM<|aK<|eD (λe=>uA  e=some r) (λe m=>[(2,vI (e.1)),(3,vI (e.2))]) (λe m=>[]) ?_ ?_
 ·refine aW<|aA Z<|jB (aE.fact 0 Z) Z<|aA Z<|aM<|aT<|dZ (uB d) (λb f=>[(2,vI (b.1)),(3,vI (b.2.1)),(6,j),(7,vI (List.length d:Int)),(8,vI (b.2.2))]) (λb f=>[]) ((-1073741824:Int),(-1073741824:Int),(0:Int)) () h SF (aY.refl _) ?_;intro k b f h;refine aW<|cO Z<|aM<|aK ?_;refine fE h Z (λh=>?_) λh=>?_
  ·refine cK<|aK<|eD (λa=>pJ b (bI (uB d) k) a=some r) (λa g=>[(2,vI (a.1)),(3,vI (a.2)),(6,j),(7,vI (List.length d:Int)),(8,vI (b.2.2))]) (λa g=>[]) ?_ ?_
   ·refine aT<|aW<|dD h λi h=>aB (aZ Z Z (aE.fact 0 Z) Z Z i) Z<|aB (bX Z (aE.fact 0 Z) Z Z Z dG i) Z<|aC Z<|aM<|aW<|aA Z<|aA Z<|aB (wS Z Z) Z<|aM ?_;refine fE h Z (λh=>?_) λh=>?_
    ·refine aO<|aA Z<|aA Z<|aC Z<|aC Z<|eT<|mQ ?_;exact gM ((at' d b.2.2),b.1) () h SF Z
    refine aO<|aA Z<|aA Z<|aB (Ie Z Z) Z<|aC Z<|eT<|mQ ?_;exact gM (b.1,(max b.2.1 (at' d b.2.2))) () h SF Z
   intro a g h;unfold pJ at h;refine aO<|cI Z<|aA Z<|aM ?_;exact yX (a.1,a.2,(wI .i64 (b.2.2+(1:Int)))) () h SF Z
  refine fH ?_;exact gM (b.1,b.2.1) () h SF Z
 intro e m h;unfold uA at h;refine aW<|aA Z<|aA Z<|aC Z<|aC Z<|aM<|aU ?_;cases h;exact nS () Z Z (RV.tmp Z) (RV.tmp Z) (aY.refl _) aF.nil
def vJ  (a:Unit):Option (Int):=
 some (-1:Int)
def kE (c:aS) (d:Int) (a:Int) (b:(Int)->Option (Int)):Option (Int):=
 if a<(List.length c:Int)then(ck (0<=a∧a<(List.length c:Int)) (if d=(at' c a)then(some (a))else(b (wI .i64 (a+(1:Int))))))else(vJ  (()))
def qE (U:Nat) (a:aS) (b:Int):Option (Int):=
 bI (kE a b) U (0:Int)
theorem aaJ:aV Tryz.prog 207:=Tryz.call207
theorem KV (U:Nat) {d:aS} {e:Int} (f:Value) (r:Int) (h:qE U d e=some r):
  aX Tryz.prog 207 #[f,vI (e)] [Sl bP f d] (λx:Unit=>vI (r)) (λx l=>l) (λ_ l=>l):=by
 refine aX.of Tryz.func207 Z Tryz.ntmps207 Z λc=>?_;unfold qE at h;refine aW<|aC Z<|aM<|aK<|eD (λa=>vJ  a=some r) (λa g=>[]) (λa g=>[]) ?_ ?_
 ·refine aW<|aA Z<|jB (aE.fact 0 Z) Z<|aA Z<|aM<|aT<|dZ (kE d e) (λb i=>[(0,f),(1,vI (e)),(7,vI (List.length d:Int)),(8,vI (b))]) (λb i=>[]) (0:Int) () h SF (aY.refl _) ?_;intro k b i h;refine aW<|cO Z<|aM<|aK ?_;refine fE h Z (λh=>?_) λh=>?_
  ·refine cK<|aK<|aT<|aW<|aA Z<|aC Z<|aM<|aW<|aA Z<|aA Z<|aA Z<|dD h λj h=>aB (aZ Z Z (aE.fact 0 Z) Z Z j) Z<|aB (bX Z (aE.fact 0 Z) Z Z Z dG j) Z<|cP Z<|aM ?_;refine fE h Z (λh=>?_) λh=>?_
   ·refine aW<|aA Z<|aC Z<|aM<|aU<|bL<|aI<|aI<|bL<|aI ?_;cases h;exact kV Z
   refine dW<|mQ<|aO<|cI Z<|aA Z<|aM ?_;exact yX (wI .i64 (b+(1:Int))) () h SF Z
  refine fH ?_;exact gM () (()) h SF Z
 intro a g h;unfold vJ at h;refine aW<|aC Z<|aM<|aU ?_;cases h;exact kV Z
def r_ (U:Nat) (a:aS) (b:Int):Option (Bool):=
 Option.bind (qE U a b) λc=>(some (decide ((0:Int)<=c)))
theorem aaI:aV Tryz.prog 203:=Tryz.call203
theorem Hh (U:Nat) {b:aS} {d:Int} (a:Value) (r:Bool) (h:r_ U b d=some r):
  aX Tryz.prog 203 #[a,vI (d)] [Sl bP a b] (λx:Unit=>vB (r)) (λx l=>l) (λ_ l=>l):=by
 refine aX.of Tryz.func203 Z Tryz.ntmps203 Z λc=>?_;refine aW<|aC Z<|aM<|aW<|aA Z<|aA Z<|eX h λe f h=>aG (aN.callQ aaJ (KV U a e f) Z (n_ [0] Z)) Z λg=>aB (B_ Z Z) Z<|aC Z<|aM<|aU ?_;cases h;exact kV Z
def Bz  (a:Int):Option (Int):=
 some (a)
def zR (U:Nat) (c:aS) (a:Int) (b:(Int)->Option (Int)):Option (Int):=
 Option.bind (r_ U c a) λd=>(if d=true then(b (wI .i64 (a+(1:Int))))else(Bz  (a)))
def A_ (U:Nat) (a:aS):Option (Int):=
 bI (zR U a) U (0:Int)
theorem aaH:aV Tryz.prog 199:=Tryz.call199
theorem SK (U:Nat) {e:aS} (d:Value) (r:Int) (h:A_ U e=some r):
  aX Tryz.prog 199 #[d] [Sl bP d e] (λx:Unit=>vI (r)) (λx l=>l) (λ_ l=>l):=by
 refine aX.of Tryz.func199 Z Tryz.ntmps199 Z λc=>?_;unfold A_ at h;refine aW<|aC Z<|aM<|aW<|aC Z<|aM<|aK<|eD (λa=>Bz  a=some r) (λa g=>[(3,vI (a))]) (λa g=>[]) ?_ ?_
 ·refine aT<|dZ (zR U e) (λb i=>[(0,d),(3,vI (b))]) (λb i=>[]) (0:Int) () h SF (aY.refl _) ?_;intro m b i h;refine aK<|aW<|aA Z<|aA Z<|eX h λj f h=>aG (aN.callQ aaI (Hh U d j f) Z (n_ [0] Z)) Z λk=>aM ?_;refine Ab h Z (λ_ h=>?_) λ_ h=>?_
  ·refine cK<|aT<|aO<|aA Z<|cI Z<|aC Z<|eT<|mQ ?_;exact yX (wI .i64 (b+(1:Int))) () h SF Z
  refine fH ?_;exact gM (b) () h SF Z
 intro a g h;unfold Bz at h;refine aW<|aA Z<|aC Z<|aM<|aU ?_;cases h;exact kV Z
def AB  (a:Int):Option (Int):=
 some (a)
def tM (c:aS) (a:fU) (b:jC->Option (Int)):Option (Int):=
 if a.2<(List.length c:Int)then(ck (0<=a.2∧a.2<(List.length c:Int)) (b ((min a.1 (at' c a.2)),(wI .i64 (a.2+(1:Int))))))else(AB  (a.1))
def CF (U:Nat) (a:Int):Option (Int):=
 Option.bind (jN U a) λb=>(some (b))
def tO (U:Nat) (c:aS) (a:fU) (b:jC->Option (Int)):Option (Int):=
 if a.2<(List.length c:Int)then(ck (0<=a.2∧a.2<(List.length c:Int)) (b ((wI .i64 (a.1+(at' c a.2))),(wI .i64 (a.2+(1:Int))))))else(CF U (a.1))
def BB (U:Nat) (b:Int) (a:aS):Option (Int):=
 if b=(20:Int)then(Option.bind (qS U a) λi=>(Option.bind (iZ U (decide (i=(List.length a:Int)))) λj=>(some (j))))else(if b=(21:Int)then(Option.bind (qS U a) λk=>(Option.bind (iZ U (decide ((0:Int)<k))) λc=>(some (c))))else(if b=(22:Int)then(Option.bind (qS U a) λd=>(some (d)))else(if b=(23:Int)then(Option.bind (nJ U a (λl=>pA U l)) λe=>(some (e)))else(if b=(24:Int)then(bI (tM a) U ((1073741824:Int),(0:Int)))else(if b=(25:Int)then(Option.bind (qT U a) λf=>(some (f.1)))else(if b=(26:Int)then(bI (tO U a) U ((0:Int),(0:Int)))else(if b=(27:Int)then(Option.bind (A_ U a) λg=>(some (g)))else(if b=(28:Int)then(Option.bind (qT U a) λh=>(some (h.2)))else(if(List.length a:Int)=(0:Int)then(some (0:Int))else(ck (0<=(0:Int)∧(0:Int)<(List.length a:Int)) (some (at' a (0:Int)))))))))))))
theorem aaD:aV Tryz.prog 186:=Tryz.call186
theorem Qo (U:Nat) {H:Int} {g:aS} (f:Value) (r:Int) (h:BB U H g=some r):
  aX Tryz.prog 186 #[vI (H),f] [Sl bP f g] (λx:Unit=>vI (r)) (λx l=>l) (λ_ l=>l):=by
 refine aX.of Tryz.func186 Z Tryz.ntmps186 Z λc=>?_;refine aW<|aC Z<|aM<|aK<|aW<|aA Z<|aM<|aT<|aW<|cP Z<|aC Z<|aM ?_;refine fE h Z (λh=>?_) λh=>?_
 ·refine aW<|aA Z<|eX h λK N h=>aG (aN.callQ Ni (Db U f K N) Z (n_ [0] Z)) Z λY=>aA Z<|jB (aE.fact 0 Z) Z<|cP Z<|eX h λL O h=>aG (aN.callQ yY (lJ U  L O) Z .nil) Z λx7=>aC Z<|aM<|aU<|bL<|aI ?_;cases h;exact kV Z
 refine aW<|cP Z<|aC Z<|aM ?_;refine fE h Z (λh=>?_) λh=>?_
 ·refine aW<|aA Z<|eX h λM z h=>aG (aN.callQ Ni (Db U f M z) Z (n_ [0] Z)) Z λP=>aB (wS Z Z) Z<|eX h λq A h=>aG (aN.callQ yY (lJ U  q A) Z .nil) Z λQ=>aC Z<|aM<|aU<|bL<|aI ?_;cases h;exact kV Z
 refine aW<|cP Z<|aC Z<|aM ?_;refine fE h Z (λh=>?_) λh=>?_
 ·refine aW<|aA Z<|eX h λs B h=>aG (aN.callQ Ni (Db U f s B) Z (n_ [0] Z)) Z λR=>aC Z<|aM<|aU<|bL<|aI ?_;cases h;exact kV Z
 refine aW<|cP Z<|aC Z<|aM ?_;refine fE h Z (λh=>?_) λh=>?_
 ·refine aW<|aA Z<|eX h λt C h=>aG (aN.callQ aaF (FX U 197 [] [] aaG (λy0 r h=>Ls U  r h) f t C) Z (n_ [0] Z)) Z λS=>aC Z<|aM<|aU<|bL<|aI ?_;cases h;exact kV Z
 refine aW<|cP Z<|aC Z<|aM ?_;refine fE h Z (λh=>?_) λh=>?_
 ·refine aW<|aC Z<|aM<|aK<|eD (λd=>AB  d=some r) (λd i=>[(5,vI (d))]) (λd i=>[]) ?_ ?_
  ·refine aW<|aA Z<|jB (aE.fact 0 Z) Z<|aA Z<|aM<|aT<|dZ (tM g) (λa j=>[(5,vI (a.1)),(40,f),(41,vI (List.length g:Int)),(42,vI (a.2))]) (λa j=>[]) ((1073741824:Int),(0:Int)) () h SF (aY.refl _) ?_;intro I a j h;refine aW<|cO Z<|aM<|aK ?_;refine fE h Z (λh=>?_) λh=>?_
   ·refine cK<|aK<|aT<|aW<|dD h λn h=>aB (aZ Z Z (aE.fact 0 Z) Z Z n) Z<|aB (bX Z (aE.fact 0 Z) Z Z Z dG n) Z<|aC Z<|aM<|aO<|aA Z<|aA Z<|aB (acn Z Z) Z<|aC Z<|eT<|mQ<|aO<|cI Z<|aA Z<|aM ?_;exact yX ((min a.1 (at' g a.2)),(wI .i64 (a.2+(1:Int)))) () h SF Z
   refine fH ?_;exact gM (a.1) () h SF Z
  intro d i h;unfold AB at h;refine aW<|aA Z<|aC Z<|aM<|aU<|bL<|aI ?_;cases h;exact kV Z
 refine aW<|cP Z<|aC Z<|aM ?_;refine fE h Z (λh=>?_) λh=>?_
 ·refine aW<|aA Z<|eX h λu D h=>aG (aN.callQ Tt (Bl U f u D) Z (n_ [0] Z)) Z λT=>aA Z<|jA Z<|jA Z<|aC Z<|aC Z<|aM<|aW<|aA Z<|aC Z<|aM<|aU<|bL<|aI ?_;cases h;exact kV Z
 refine aW<|cP Z<|aC Z<|aM ?_;refine fE h Z (λh=>?_) λh=>?_
 ·refine aW<|aC Z<|aM<|aK<|eD (λe=>CF U e=some r) (λe k=>[(10,vI (e))]) (λe k=>[]) ?_ ?_
  ·refine aW<|aA Z<|jB (aE.fact 0 Z) Z<|aA Z<|aM<|aT<|dZ (tO U g) (λb m=>[(10,vI (b.1)),(61,f),(62,vI (List.length g:Int)),(63,vI (b.2))]) (λb m=>[]) ((0:Int),(0:Int)) () h SF (aY.refl _) ?_;intro J b m h;refine aW<|cO Z<|aM<|aK ?_;refine fE h Z (λh=>?_) λh=>?_
   ·refine cK<|aK<|aT<|aW<|dD h λo h=>aB (aZ Z Z (aE.fact 0 Z) Z Z o) Z<|aB (bX Z (aE.fact 0 Z) Z Z Z dG o) Z<|aC Z<|aM<|aO<|aA Z<|aA Z<|cI Z<|aC Z<|eT<|mQ<|aO<|cI Z<|aA Z<|aM ?_;exact yX ((wI .i64 (b.1+(at' g b.2))),(wI .i64 (b.2+(1:Int)))) () h SF Z
   refine fH ?_;exact gM (b.1) () h SF Z
  intro e k h;refine aW<|aA Z<|eX h λv E h=>aG (aN.callQ EF (mU U  v E) Z .nil) Z λV=>aC Z<|aM<|aU<|bL<|aI ?_;cases h;exact kV Z
 refine aW<|cP Z<|aC Z<|aM ?_;refine fE h Z (λh=>?_) λh=>?_
 ·refine aW<|aA Z<|eX h λw F h=>aG (aN.callQ aaH (SK U f w F) Z (n_ [0] Z)) Z λW=>aC Z<|aM<|aU<|bL<|aI ?_;cases h;exact kV Z
 refine aW<|cP Z<|aC Z<|aM ?_;refine fE h Z (λh=>?_) λh=>?_
 ·refine aW<|aA Z<|eX h λy G h=>aG (aN.callQ Tt (Bl U f y G) Z (n_ [0] Z)) Z λX=>aA Z<|jA Z<|jA Z<|aC Z<|aC Z<|aM<|aW<|aA Z<|aC Z<|aM<|aU<|bL<|aI ?_;cases h;exact kV Z
 refine dW<|mQ<|aK<|aW<|aA Z<|jB (aE.fact 0 Z) Z<|cP Z<|aM ?_;refine fE h Z (λh=>?_) λh=>?_
 ·refine aW<|aC Z<|aM<|aU<|aI ?_;cases h;exact kV Z
 refine cK<|aW<|aA Z<|dD h λp h=>aB (aZ Z Z (aE.fact 0 Z) Z Z p) Z<|aB (bX Z (aE.fact 0 Z) Z Z Z dG p) Z<|aC Z<|aM<|aU ?_;cases h;exact kV Z
def nT  (a:fU):Option jC:=
 some (a.1,a.2)
def kL (U:Nat) (a:Of) (e:Int) (b:oB) (c:Int):Option jC:=
 ck (0<=(List.length (at' a.1.2.1.2 a.2.2.1):Int)∧(List.length (at' a.1.2.1.2 a.2.2.1):Int)<=((24:Nat):Int)∧(List.length (at' a.1.2.1.2 a.2.2.1):Int)<=(List.length b.2:Int)) (Option.bind (BB U ((at' a.2.2.2 e).1) (List.take (Int.toNat (List.length (at' a.1.2.1.2 a.2.2.1):Int)) b.2)) λd=>(nT  (d,c)))
def rU (U:Nat) (b:Of) (c:Int) (a:oB):Option jC:=
 if(List.length (at' b.1.2.1.2 b.2.2.1):Int)=(0:Int)then(Option.bind (CO U b.2.2.2 c) λd=>(kL U b c a (d)))else(kL U b c a (a.1))
def kM (U:Nat) (b:Of) (e:Int) (f:ab_->Int->Int->Option jC) (a:Int×Int×aS) (c:(Int×Int×aS)->Option jC):Option jC:=
 if a.2.1<(List.length (at' b.1.2.1.2 b.2.2.1):Int)then(Option.bind (f ((((((b.1.1.1,b.1.1.2.1,b.1.1.2.2)),((b.1.2.1.1,b.1.2.1.2)),b.1.2.2.1,b.1.2.2.2)),b.2.1,b.2.2.1,b.2.2.2)) (wI .i64 (e+(1:Int))) a.2.1) λd=>(ck ((0<=a.2.1∧a.2.1<((24:Nat):Int))∧List.length a.2.2=24) (c (d.2,(wI .i64 (a.2.1+(1:Int))),(List.set a.2.2 (Int.toNat a.2.1) d.1)))))else(rU U b e (a.1,a.2.2))
def c_ (e:ab_->Int->Int->Option jC) (U:Nat) (a:Of) (b:Int) (c:Int):Option jC:=
 ck (0<=b∧b<(List.length a.2.2.2:Int)) (if((at' a.2.2.2 b).1)<=(17:Int)then(Option.bind (mH U ((((((a.1.1.1,a.1.1.2.1,a.1.1.2.2)),((a.1.2.1.1,a.1.2.1.2)),a.1.2.2.1,a.1.2.2.2)),a.2.1,a.2.2.1,a.2.2.2)) ((((at' a.2.2.2 b).1),((at' a.2.2.2 b).2))) c) λm=>(some (m,(wI .i64 (b+(1:Int))))))else(if((at' a.2.2.2 b).1)<=(19:Int)then(Option.bind (e ((((((a.1.1.1,a.1.1.2.1,a.1.1.2.2)),((a.1.2.1.1,a.1.2.1.2)),a.1.2.2.1,a.1.2.2.2)),a.2.1,a.2.2.1,a.2.2.2)) (wI .i64 (b+(1:Int))) c) λl=>(Option.bind (AD U ((at' a.2.2.2 b).1) l.1) λj=>(some (j,l.2))))else(if((at' a.2.2.2 b).1)<=(29:Int)then(ck (0<=a.2.2.1∧a.2.2.1<(List.length a.1.2.1.2:Int)) (bI (kM U a b e) U ((0:Int),(0:Int),(List.replicate 24 (0:Int)))))else(if((at' a.2.2.2 b).1)<=(42:Int)then(Option.bind (e ((((((a.1.1.1,a.1.1.2.1,a.1.1.2.2)),((a.1.2.1.1,a.1.2.1.2)),a.1.2.2.1,a.1.2.2.2)),a.2.1,a.2.2.1,a.2.2.2)) (wI .i64 (b+(1:Int))) c) λf=>(Option.bind (e ((((((a.1.1.1,a.1.1.2.1,a.1.1.2.2)),((a.1.2.1.1,a.1.2.1.2)),a.1.2.2.1,a.1.2.2.2)),a.2.1,a.2.2.1,a.2.2.2)) f.2 c) λg=>(Option.bind (zB U ((at' a.2.2.2 b).1) f.1 g.1) λk=>(some (k,g.2)))))else(Option.bind (e ((((((a.1.1.1,a.1.1.2.1,a.1.1.2.2)),((a.1.2.1.1,a.1.2.1.2)),a.1.2.2.1,a.1.2.2.2)),a.2.1,a.2.2.1,a.2.2.2)) (wI .i64 (b+(1:Int))) c) λh=>(Option.bind (e ((((((a.1.1.1,a.1.1.2.1,a.1.1.2.2)),((a.1.2.1.1,a.1.2.1.2)),a.1.2.2.1,a.1.2.2.2)),a.2.1,a.2.2.1,a.2.2.2)) h.2 c) λi=>(Option.bind (e ((((((a.1.1.1,a.1.1.2.1,a.1.1.2.2)),((a.1.2.1.1,a.1.2.1.2)),a.1.2.2.1,a.1.2.2.2)),a.2.1,a.2.2.1,a.2.2.2)) i.2 c) λd=>(if h.1≠(0:Int)then(some (i.1,d.2))else(some (d.1,d.2))))))))))
def bS:Nat->ab_->Int->Int->Option jC
 |0,_,_,_=>none
 |U+1,p0,p1,p2=>c_ (bS U) U p0 p1 p2
theorem By:aV Tryz.prog 151:=Tryz.call151
theorem Da (X:ab_->Int->Int->Option jC) (U:Nat) (p:∀{a:Of} {m:Int} {M:Int} (b:Nat)  (f:Nat)  (q:Value)  (s:Value)  (t:Value)  (u:Value)  (C:kH)  (v:Value)  (D:sD)  (w:Value)  (g:sD)  (d:Value) (r:fU),X a m M=some r->aX Tryz.prog 151 #[vP b,vI (m),vI (M)] [bV b [vP f,w,vI (a.2.2.1),d] 207,bV f [vS (a.1.1.1),q,s,t,u,vI (a.1.2.2.1),v] 137,Sl aQ q a.1.1.2.1,Sl aJ s a.1.1.2.2,Sl bP t a.1.2.1.1,S2 a_ u C a.1.2.1.2,S2 bP v D a.1.2.2.2,S2 bP w g a.2.1,Sl a_ d a.2.2.2] (λx:Unit=>Value.tuple #[vI (r.1),vI (r.2)]) (λx l=>l) (λ_ l=>l)) {a:Of} {m:Int} {M:Int} (b:Nat)  (f:Nat)  (q:Value)  (s:Value)  (t:Value)  (u:Value)  (C:kH)  (v:Value)  (D:sD)  (w:Value)  (g:sD)  (d:Value) (r:fU) (h:c_ X U a m M=some r):
  aX Tryz.prog 151 #[vP b,vI (m),vI (M)] [bV b [vP f,w,vI (a.2.2.1),d] 207,bV f [vS (a.1.1.1),q,s,t,u,vI (a.1.2.2.1),v] 137,Sl aQ q a.1.1.2.1,Sl aJ s a.1.1.2.2,Sl bP t a.1.2.1.1,S2 a_ u C a.1.2.1.2,S2 bP v D a.1.2.2.2,S2 bP w g a.2.1,Sl a_ d a.2.2.2] (λx:Unit=>Value.tuple #[vI (r.1),vI (r.2)]) (λx l=>l) (λ_ l=>l):=by
 refine aX.of Tryz.func151 Z Tryz.ntmps151 Z λc=>?_;refine aW<|aC Z<|aC Z<|aM<|aW<|aA Z<|aB (bW Z) Z<|bU Z<|aB (dQ Z (aE.fact 0 Z) Z Z Z) Z<|aA Z<|dD h λj1 h=>aB (aZ Z Z (aE.fact 8 Z) Z Z j1) Z<|aB (iM (cs:=[vI ((at' a.2.2.2 m).1),vI ((at' a.2.2.2 m).2)]) Z (aE.fact 8 Z) bR Z Z Z Z j1) Z<|aG (aN.alloc (cs:=Uv) Z Z) Z λb2=>bQ 0 (vs:=[vI ((at' a.2.2.2 m).1),vI ((at' a.2.2.2 m).2)]) Z Z Z Z Z Z<|aM<|aK<|aT<|aW<|bU Z<|dK 0 Z<|aB (Ca Z Z) Z<|aC Z<|aM ?_;refine fE h Z (λh=>?_) λh=>?_
 ·refine aW<|aA Z<|dV 0 Z<|aA Z<|eX h λr4 w5 h=>aG (aN.callQ aay (Fb U b f q s t u C v D w g d r4 w5) Z (n_ [0,1,2,3,4,5,6,7,8] Z)) Z λx6=>aA Z<|cI Z<|aC Z<|aC Z<|aM<|aU<|bL<|aI ?_;cases h;exact nS () Z Z (RV.tmp Z) (RV.tmp Z) .nil aF.nil
 refine aW<|bU Z<|dK 0 Z<|aB (Ca Z Z) Z<|aC Z<|aM ?_;refine fE h Z (λh=>?_) λh=>?_
 ·refine aW<|aA Z<|aA Z<|cI Z<|aA Z<|eX h λr8 w9 h=>aG (aN.callQ By (p b f q s t u C v D w g d r8 w9) Z (n_ [0,1,2,3,4,5,6,7,8] Z)) Z λak=>aA Z<|jA Z<|jA Z<|aC Z<|aC Z<|aM<|aW<|bU Z<|dK 0 Z<|aA Z<|eX h λP Y h=>aG (aN.callQ aaz (NW U  P Y) Z .nil) Z λal=>aA Z<|aC Z<|aC Z<|aM<|aU<|bL<|aI ?_;cases h;exact nS () Z Z (RV.tmp Z) (RV.tmp Z) .nil aF.nil
 refine aW<|bU Z<|dK 0 Z<|aB (Ca Z Z) Z<|aC Z<|aM ?_;refine fE h Z (λh=>?_) λh=>?_
 ·refine aW<|aA Z<|bU Z<|dK 0 Z<|aA Z<|AP (A:=fU) (B:=Unit) (vs:=[vP b,vI ((at' a.2.2.2 m).1),vI (m)]) (λn=>nT  n=some r) (λn G=>Value.tuple #[vI (n.1),vI (n.2)]) (λn G=>[]) (λn G=>[bV b [vP f,w,vI (a.2.2.1),d] 207,bV f [vS (a.1.1.1),q,s,t,u,vI (a.1.2.2.1),v] 137,Sl aQ q a.1.1.2.1,Sl aJ s a.1.1.2.2,Sl bP t a.1.2.1.1,S2 a_ u C a.1.2.1.2,S2 bP v D a.1.2.2.2,S2 bP w g a.2.1,Sl a_ d a.2.2.2]) (sG.fn (show aV Tryz.prog 167 from Tryz.call167) Z) Tryz.func167 Z Tryz.ntmps167 Z Z ?_ ?_
  ·refine aW<|aC Z<|aC Z<|aM<|aW ?_;refine aG (aN.alloc (cs:=cellsOf b_ (List.replicate 24 (0:Int))) Z (by kernel_rfl)) Z λo=>?_;refine aM<|aK ?_;refine JR.start [0,1,3,7,15,31,63,127,0,256,768,1792,4095,8191,16383,32767] 12 mixedOrders (by decide +kernel) ?_;refine JR.open (by exact rfl) ?_;refine bF Z<|iW Z (bW Z)<|cY Z<|bK Z .nil (lC 0 Z) (dQ Z (aE.fact 0 Z) Z Z Z) aL.z<|iW Z (bW Z)<|cY Z<|cY Z<|bK Z .nil (lC 1 Z) (dQ Z (aE.fact 0 Z) Z Z Z) aL.z<|bF Z<|iW Z (bW Z)<|cY Z<|bK Z .nil (lC 0 Z) (dQ Z (aE.fact 0 Z) Z Z Z) aL.z<|bM 12 Z Z<|dD h λE h=>aB (cH Z Z (aE.fact 5 Z) Z Z E) Z<|aB (cG Z (aE.fact 5 Z) Z Z E) Z<|aB (gW Z (aE.el (aE.fact 5 Z) E.1 E.2) Z) Z<|aC Z<|aM<|aK<|eD (λk=>rU U a m k=some r) (λk H=>[(0,vP b),(1,vI ((at' a.2.2.2 m).1)),(2,vI (m)),(7,vI (k.1)),(8,vP o),(9,vI (List.length (at' a.1.2.1.2 a.2.2.1):Int))]) (λk H=>[bV o (cellsOf b_ k.2) 235]) ?_ ?_
   ·refine aW<|aA Z<|aA Z<|aM<|aT<|dZ (kM U a m X) (λj J=>[(0,vP b),(1,vI ((at' a.2.2.2 m).1)),(2,vI (m)),(7,vI (j.1)),(8,vP o),(9,vI (List.length (at' a.1.2.1.2 a.2.2.1):Int)),(26,vI (List.length (at' a.1.2.1.2 a.2.2.1):Int)),(27,vI (j.2.1))]) (λj J=>[bV o (cellsOf b_ j.2.2) 235]) ((0:Int),(0:Int),(List.replicate 24 (0:Int))) () h SF (aY.ix [0] Z Z) ?_;intro aj j J h;refine aW<|cO Z<|aM<|aK ?_;refine fE h Z (λh=>?_) λh=>?_
    ·refine cK<|aK<|aT<|aW<|aA Z<|aC Z<|aM<|aO<|aA Z<|aA Z<|aA Z<|cI Z<|aA Z<|eX h λF ac h=>aG (aN.callQ By (p b f q s t u C v D w g d F ac) Z (n_ [0,1,2,3,4,5,6,7,8] Z)) Z λao=>aA Z<|jA Z<|jA Z<|dD h λL h=>aB (o_ Z Z Z Z Z L.1) Z<|Jt 0 (e:=b_) F.1 L Z Z Z Z Z Z Z<|aC Z<|eT<|mQ<|aO<|cI Z<|aA Z<|aM ?_;exact yX (F.2,(wI .i64 (j.2.1+(1:Int))),(List.set j.2.2 (Int.toNat j.2.1) F.1)) () h SF Z
    refine fH ?_;exact gM (j.1,j.2.2) () h SF Z
   intro k H h;refine aK<|eD (λy=>kL U a m k y=some r) (λy I=>[(1,vI ((at' a.2.2.2 m).1)),(7,vI (y)),(8,vP o),(9,vI (List.length (at' a.1.2.1.2 a.2.2.1):Int))]) (λy I=>[bV o (cellsOf b_ k.2) 235]) ?_ ?_
   ·refine aW<|aA Z<|cP Z<|aM ?_;refine fE h Z (λh=>?_) λh=>?_
    ·refine aO<|aA Z<|aB (bW Z) Z<|bU Z<|aB (dQ Z (aE.fact 0 Z) Z Z Z) Z<|aA Z<|eX h λO ab h=>aG (aN.callQ aaw (SL U d O ab) Z (n_ [8] Z)) Z λan=>aC Z<|aM ?_;exact gM (O) () h SF Z
    refine cK ?_;exact gM (k.1) () h SF Z
   intro y I h;refine aW<|aA Z<|aA Z<|dD h λK h=>aB (Rq Z Z Z Z K) Z<|eX h λN aa h=>aG (aN.callQ aaD (Qo U (Value.slice (some ⟨o,0,none⟩) (Int.toNat (List.length (at' a.1.2.1.2 a.2.2.1):Int)) 24) N aa) Z (aF.cons (Wo (i:=0) Z dY K (by decide)) .nil)) Z λam=>?_;refine aA Z<|aC Z<|aC Z<|aM<|aU ?_;exact sJ (N,y) () h (.inl Z) (Gj.r2 Z (RV.tmp Z) (RV.tmp Z)) Z .nil (aF.refl _ _)
  intro n G h;unfold nT at h;refine jA Z<|jA Z<|aC Z<|aC Z<|aM<|aU<|bL<|aI ?_;cases h;exact nS () Z Z (RV.tmp Z) (RV.tmp Z) (aY.refl _) aF.nil
 refine aW<|bU Z<|dK 0 Z<|aB (Ca Z Z) Z<|aC Z<|aM ?_;refine fE h Z (λh=>?_) λh=>?_
 ·refine aW<|aA Z<|aA Z<|cI Z<|aA Z<|eX h λQ ad h=>aG (aN.callQ By (p b f q s t u C v D w g d Q ad) Z (n_ [0,1,2,3,4,5,6,7,8] Z)) Z λap=>aA Z<|jA Z<|jA Z<|aC Z<|aC Z<|aM<|aW<|aA Z<|aA Z<|aA Z<|eX h λR ae h=>aG (aN.callQ By (p b f q s t u C v D w g d R ae) Z (n_ [0,1,2,3,4,5,6,7,8] Z)) Z λaq=>aA Z<|jA Z<|jA Z<|aC Z<|aC Z<|aM<|aW<|bU Z<|dK 0 Z<|aA Z<|aA Z<|eX h λS af h=>aG (aN.callQ aaA (Lr U  S af) Z .nil) Z λar=>aA Z<|aC Z<|aC Z<|aM<|aU<|bL<|aI ?_;cases h;exact nS () Z Z (RV.tmp Z) (RV.tmp Z) .nil aF.nil
 refine dW<|mQ<|aW<|aA Z<|aA Z<|cI Z<|aA Z<|eX h λT ag h=>aG (aN.callQ By (p b f q s t u C v D w g d T ag) Z (n_ [0,1,2,3,4,5,6,7,8] Z)) Z λau=>aA Z<|jA Z<|jA Z<|aC Z<|aC Z<|aM<|aW<|aA Z<|aA Z<|aA Z<|eX h λV ah h=>aG (aN.callQ By (p b f q s t u C v D w g d V ah) Z (n_ [0,1,2,3,4,5,6,7,8] Z)) Z λav=>aA Z<|jA Z<|jA Z<|aC Z<|aC Z<|aM<|aW<|aA Z<|aA Z<|aA Z<|eX h λW ai h=>aG (aN.callQ By (p b f q s t u C v D w g d W ai) Z (n_ [0,1,2,3,4,5,6,7,8] Z)) Z λaw=>aA Z<|jA Z<|jA Z<|aC Z<|aC Z<|aM<|aK<|aW<|aA Z<|rF Z<|aM ?_;refine fE h Z (λh=>?_) λh=>?_
 ·refine aW<|aA Z<|aA Z<|aC Z<|aC Z<|aM<|aU<|aI ?_;cases h;exact nS () Z Z (RV.tmp Z) (RV.tmp Z) .nil aF.nil
 refine cK<|aW<|aA Z<|aA Z<|aC Z<|aC Z<|aM<|aU ?_;cases h;exact nS () Z Z (RV.tmp Z) (RV.tmp Z) .nil aF.nil
theorem Ej (U:Nat):∀{a:Of} {p:Int} {q:Int} (b:Nat)  (c:Nat)  (f:Value)  (g:Value)  (i:Value)  (j:Value)  (n:kH)  (k:Value)  (o:sD)  (m:Value)  (e:sD)  (d:Value) (r:fU),bS U a p q=some r->
  aX Tryz.prog 151 #[vP b,vI (p),vI (q)] [bV b [vP c,m,vI (a.2.2.1),d] 207,bV c [vS (a.1.1.1),f,g,i,j,vI (a.1.2.2.1),k] 137,Sl aQ f a.1.1.2.1,Sl aJ g a.1.1.2.2,Sl bP i a.1.2.1.1,S2 a_ j n a.1.2.1.2,S2 bP k o a.1.2.2.2,S2 bP m e a.2.1,Sl a_ d a.2.2.2] (λx:Unit=>Value.tuple #[vI (r.1),vI (r.2)]) (λx l=>l) (λ_ l=>l):=by
 induction U with
 |zero=>intros;rename_i h;cases h
 |succ U s=>exact λb c f g i j n k o m e d r h=>Da (bS U) U s b c f g i j n k o m e d r h
end Go.Proofs.YtmdlcmbplnhdnaaGreatDoor