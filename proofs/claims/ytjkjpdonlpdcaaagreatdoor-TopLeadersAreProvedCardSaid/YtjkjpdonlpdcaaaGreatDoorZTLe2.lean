/- Models and proofs. Conditions: none. -/
import Derived.Test.YtjkjpdonlpdcaaaGreatDoorZTLe1
import Derived.Maps.RangeRun
set_option linter.unusedVariables false
set_option linter.unusedSimpArgs false
set_option maxHeartbeats 4000000
set_option maxRecDepth 20000
namespace Go.Sx
open Go.RowKit
section
variable {P:Program} {rd:Option Nat} {c:wN} {n:Sz} {σ:Fr} {M L M' L':List bD} {Q:Exit->Act->World->Prop} {ops:Array Oper} {rest:List Oper} {K:Act->World->Prop}
variable {d:Option Tmp} {D:Nat} {ty:TypeId} {pos:String} {aft:Array Edge} {g:Option (Nat×Bool)}
variable {α β:Type} {e:eK α} {r:fH α}
theorem aN.b {A:Nat->Bool} {f a M L:List bD} {j:Nat} {H:List (Nat×List bD×List bD)} (h:A j=true) (k:aN A f a H):aN A f a ((j,M,L)::H):=⟨.inl h,k⟩
theorem aN.h {A:Nat->Bool} {b a M L:List bD} {j:Nat} {H:List (Nat×List bD×List bD)} (h:aY M b) (f:Ap L a) (k:aN A b a H):aN A b a ((j,M,L)::H):=⟨.inr ⟨h,f⟩,k⟩
theorem aN.z {A:Nat->Bool} {b a:List bD}:aN A b a []:=trivial
theorem Bv.b {A:Nat->Bool} {f a M L:List bD} {j:Nat} {H:List (Nat×List bD×List bD)} (h:A j=true) (k:Bv A M L H):Bv A M L ((j,f,a)::H):=⟨.inl h,k⟩
theorem Bv.h {A:Nat->Bool} {b a M L:List bD} {j:Nat} {H:List (Nat×List bD×List bD)} (h:aY M b) (f:Ap L a) (k:Bv A M L H):Bv A M L ((j,b,a)::H):=⟨.inr ⟨h,f⟩,k⟩
theorem Bv.z {A:Nat->Bool} {M L:List bD}:Bv A M L []:=trivial
theorem dQ {v:Value} {vs:List Value} (h:one v=true) (k:vs.all one=true):(v::vs).all one=true:=by simp[h,k]
theorem eP (k:IntKind) (x:Int):(Value.int k x).cells = #[.int k x]:=rfl
theorem dV (b:Bool):(Value.bool b).cells = #[.bool b]:=rfl
theorem dH (a:Option Addr) (l k:Nat):(Value.slice a l k).cells = #[.slice a l k]:=rfl
theorem eQ (a:Option Addr):(Value.pointer a).cells = #[.pointer a]:=rfl
theorem eR (a:ByteArray):(Value.string a).cells = #[.string a]:=rfl
theorem dW (f:Fn) (a b:Array Value):(Value.func f a b).cells = #[.func f a b]:=rfl
theorem Bd (q:Nat) {vs:List Value} {a:List (List α)} {k:Int} {u:Value} (s:M[q]? = some (k_ e (vs.set k.toNat u) a)) (h:0<=k∧k<a.length):∀c w,St c M L w->Go.Sx.one u=true:=λc w t=>by
 obtain⟨S,p,x,m,_⟩:=t.res s;have f:k.toNat<vs.length:=by simp at p;omega
 obtain⟨_,_,o⟩:=m k.toNat u _ (by rw[List.getElem?_set_self f]) (List.getElem?_eq_getElem (by omega));rcases o with⟨i,_⟩|⟨b,v,j,T,l,i,_⟩<;>(rw[i];rfl)
theorem R_ [cR P] [Inhabited α] {T o:TypeId} {C:Nat} {z:Value} {l:TypeDesc} {x:Operand} {b k:Nat} {i:Int} {f:List α} {u:Value} (m:ev σ x=some (.pointer (some ⟨b,i.toNat*1,none⟩)))
  (q:aE M L (bH b (cellsOf e f) o)) (v:cR.tab P T=some ⟨l,1,C,z⟩) (y:yN l=false) (A:e.sz=1) (B:(e.enc (at' f i))=[u]) (h:(0<=i∧i<(k:Int))∧f.length=k):
  Y P c n σ M L ⟨d,.load T x,ty,pos,aft,g⟩ u:=λa w s t=>by
 obtain⟨F,p⟩:=q.st t;have j:=wQ e f i.toNat (at' f i) (lD h.1.1 (by omega)) 0 u (by rw[B];rfl);rw[A,Nat.add_zero]at j;rw[Nat.mul_one]at m j;simp[execOp,s.eval m,yW (cR.ok v) y (bH.cell p j)]
theorem Iv [cR P] (q:Nat) {T j:TypeId} {B:Nat} {z:Value} {p:TypeDesc} {x y:Operand} {b k:Nat} {i:Int} {a:List α} {u:Value} (o:α) (h:(0<=i∧i<(k:Int))∧a.length=k) (m:ev σ x=some (.pointer (some ⟨b,i.toNat*1,none⟩))) (A:ev σ y=some u)
  (s:M[q]? = some (bH b (cellsOf e a) j)) (w:e.enc o=[u]) (f:one u=true) (t:cR.tab P T=some ⟨p,1,B,z⟩) (l:e.sz=1)
  (v:J c n σ (M.set q (bH b (cellsOf e (a.set i.toNat o)) j)) L (wpList P ops Q rest)):
  J c n σ M L (wpList P ops Q (⟨none,.store T x y,ty,pos,aft,none⟩::rest)):=by
 rw[Nat.mul_one]at m;refine gR q m A f s t ?_ ?_
 ·have:=eF e a;rw[l]at this;rw[Nat.blt_eq];omega
 ·rw[<-xB l w];exact v
end
end Go.Sx
namespace Go.Sx
section
abbrev vI (x:Int):Value:= .int .i64 x
abbrev vU (x:Int):Value:= .int .u32 x
abbrev vP (b:Nat):Value:= .pointer (some ⟨b,0,none⟩)
open Go.RowKit
variable {P:Program} {rd:Option Nat} {c:wN} {n:Sz} {σ:Fr} {M L:List bD} {Q:Exit->Act->World->Prop} {ops:Array Oper} {rest:List Oper} {d:Nat} {ty:TypeId} {pos:String} {aft:Array Edge} {x y:Operand} {v:Value} {K:Act->World->Prop}
theorem aA (h:(ev σ x,Nat.blt d n.sz)=(some v,true)) (k:J c n ((d,v)::σ) M L (wpList P ops Q rest)):J c n σ M L (wpList P ops Q (⟨some d,.move x,ty,pos,aft,none⟩::rest)):=aB (fC (Prod.mk.inj h).1) (Prod.mk.inj h).2 k
theorem aC (h:(ev σ x,Nat.blt d n.sz)=(some v,true)) (k:J c n ((d,v)::σ) M L (wpList P ops Q rest)):J c n σ M L (wpList P ops Q (⟨some d,.assign x,ty,pos,aft,none⟩::rest)):=aB (tY (Prod.mk.inj h).1) (Prod.mk.inj h).2 k
theorem bX [cR P] {T:TypeId} {r s i t:Nat} {z w:Value} {e:Array Field} {p u q:String} {m:Bool} {g a j:Nat} {l:TypeDesc} {b o f:Nat} (h:(ev σ x,cR.tab P T,e[f]?,cR.tab P g,i==0,Nat.blt d n.sz)=(some (.pointer (some ⟨b,o,none⟩)),some ⟨.struct e,r,s,z⟩,some ⟨p,g,a,m,u,q,j⟩,some ⟨l,i,t,w⟩,false,true)) (k:J c n ((d,.pointer (some ⟨b,o+a,none⟩))::σ) M L (wpList P ops Q rest)):J c n σ M L (wpList P ops Q (⟨some d,.fieldAddr T x f,ty,pos,aft,none⟩::rest)):=by
  simp only[Prod.mk.injEq]at h;exact aB (dR h.1 h.2.1 h.2.2.1 h.2.2.2.1 h.2.2.2.2.1) h.2.2.2.2.2 k
theorem cJ [cR P] (i:Nat) {T e:TypeId} {f g:Nat} {z:Value} {a:TypeDesc} {b o:Nat} {cs:List Value} (h:(ev σ x,M[i]?,cR.tab P T,yN a,cs[o]?,Nat.blt d n.sz)=(some (.pointer (some ⟨b,o,none⟩)),some (bH b cs e),some ⟨a,f,g,z⟩,false,some v,true)) (k:J c n ((d,v)::σ) M L (wpList P ops Q rest)):J c n σ M L (wpList P ops Q (⟨some d,.load T x,ty,pos,aft,none⟩::rest)):=by
  simp only[Prod.mk.injEq]at h;exact aB (cK i h.1 h.2.1 h.2.2.1 h.2.2.2.1 h.2.2.2.2.1) h.2.2.2.2.2 k
theorem dM [cR P] (i:Nat) {T e:TypeId} {f:Nat} {z:Value} {a:TypeDesc} {b:Nat} {cs:List Value} (h:(ev σ x,M[i]?,cR.tab P T,yN a,Nat.blt d n.sz)=(some (.pointer (some ⟨b,0,none⟩)),some (bH b cs e),some ⟨a,cs.length,f,z⟩,true,true)) (k:J c n ((d,.agg cs.toArray)::σ) M L (wpList P ops Q rest)):J c n σ M L (wpList P ops Q (⟨some d,.load T x,ty,pos,aft,none⟩::rest)):=by
  simp only[Prod.mk.injEq]at h;exact aB (lO i h.1 h.2.1 h.2.2.1 h.2.2.2.1) h.2.2.2.2 k
theorem aL {e:Op} {j:Nat} {b a:Bool} (h:(gv ops σ j,a==b,Nat.blt d n.sz)=(some a,false,true)) (k:J c n ((d,undef)::σ) M L (wpList P ops Q rest)):J c n σ M L (wpList P ops Q (⟨some d,e,ty,pos,aft,some (j,b)⟩::rest)):=by
  simp only[Prod.mk.injEq]at h;exact TC h.1 h.2.1 h.2.2 k
theorem eS {j:Nat} {b:Bool} (h:(gv ops σ j,ev σ x,Nat.blt d n.sz)=(some b,some v,true)) (k:J c n ((d,v)::σ) M L (wpList P ops Q rest)):J c n σ M L (wpList P ops Q (⟨some d,.move x,ty,pos,aft,some (j,b)⟩::rest)):=by
  simp only[Prod.mk.injEq]at h;exact aV h.1 (fC h.2.1) h.2.2 k
theorem cP {t a:TypeId} {i:IntKind} {p q:Int} (h:(ev σ x,ev σ y,Nat.blt d n.sz)=(some (.int i p),some (.int i q),true)) (k:J c n ((d,.bool (decide (p<q)))::σ) M L (wpList P ops Q rest)):J c n σ M L (wpList P ops Q (⟨some d,.binOp .lss t x y a,ty,pos,aft,none⟩::rest)):=by
  simp only[Prod.mk.injEq]at h;exact aB (Hj h.1 h.2.1) h.2.2 k
theorem cC {t a:TypeId} {i:IntKind} {p q:Int} (h:(ev σ x,ev σ y,Nat.blt d n.sz)=(some (.int i p),some (.int i q),true)) (k:J c n ((d,.bool (decide (p=q)))::σ) M L (wpList P ops Q rest)):J c n σ M L (wpList P ops Q (⟨some d,.binOp .eql t x y a,ty,pos,aft,none⟩::rest)):=by
  simp only[Prod.mk.injEq]at h;exact aB (De h.1 h.2.1) h.2.2 k
theorem cO {t a:TypeId} {i:IntKind} {p q:Int} (h:(ev σ x,ev σ y,Nat.blt d n.sz)=(some (.int i p),some (.int i q),true)) (k:J c n ((d,.int i (wI i (p+q)))::σ) M L (wpList P ops Q rest)):J c n σ M L (wpList P ops Q (⟨some d,.binOp .add t x y a,ty,pos,aft,none⟩::rest)):=by
  simp only[Prod.mk.injEq]at h;exact aB (zX h.1 h.2.1) h.2.2 k
theorem cdI {e b:Code} {p:Prop} {_:Decidable p} {f:Type} {u w:Option f} {r:f} (h:(if p then u else w)=some r) (j:ev σ x=some (.bool (decide p))) (i:p->u=some r->J c n σ M L (e.wpr rd P Q)) (g:¬p->w=some r->J c n σ M L (b.wpr rd P Q)):J c n σ M L ((Code.cond x e b).wpr rd P Q):=WQ j (λa=>i a (Ie a h)) (λa=>g a (SH a h))
theorem eZ {b a:Code} {p:Prop} {_:Decidable p} {e:Type} {u w:Option e} {r:e} (h:(if p then u else w)=some r) (i:ev σ x=some (.bool (decide p))) (g:u=some r->J c n σ M L (b.wpr rd P Q)) (f:w=some r->J c n σ M L (a.wpr rd P Q)):J c n σ M L ((Code.cond x b a).wpr rd P Q):=cdI h i (λ_=>g) (λ_=>f)
theorem yC {f e:Code} {b:Bool} {g:Type} {u w:Option g} {r:g} (h:(if b=true then u else w)=some r) (k:ev σ x=some (.bool b)) (j:b=true->u=some r->J c n σ M L (f.wpr rd P Q)) (i:b=false->w=some r->J c n σ M L (e.wpr rd P Q)):J c n σ M L ((Code.cond x f e).wpr rd P Q):=Lc k (λa=>j a (Ie a h)) (λa=>i a (Je a h))
theorem Cd {d:Option Tmp} {f:Op} {j e:Nat} {p:Prop} {_:Decidable p} {b:Bool} {i:Type} {u w:Option i} {r:i} (h:(if p then u else w)=some r) (g:((ops[j]?).bind (·.dst),lk σ e)=(some e,some (.bool (decide p)))) (l:p->u=some r->J c n ((e,.bool true)::σ) M L (wpList P ops Q (⟨d,f,ty,pos,aft,some (j,b)⟩::rest))) (k:¬p->w=some r->J c n ((e,.bool false)::σ) M L (wpList P ops Q (⟨d,f,ty,pos,aft,some (j,b)⟩::rest))):J c n σ M L (wpList P ops Q (⟨d,f,ty,pos,aft,some (j,b)⟩::rest)):=TA (Prod.mk.inj g).1 (Prod.mk.inj g).2 (λa=>l a (Ie a h)) (λa=>k a (SH a h))
theorem aK {ops:Array Oper} (h:J c n σ M L K):J c n σ M L (wpList P ops (Exit.then K Q) []):=h
theorem aS {id:Nat} {l:List Oper} {z:Code} (h:J c n σ M L (wpList P l.toArray (Exit.then (z.wpr rd P Q) Q) l)) (a:l.all jJ=true:=by rfl):J c n σ M L ((Code.seq (Code.region id l.toArray false) z).wpr rd P Q):=aI (aR h a)
variable {A B:Type} {ret:Unit->Value} {MO LO:Unit->List bD->List bD} {fn:Func} {C:A->Prop} {σI:A->B->Fr} {MI LI:A->B->List bD}
theorem kM {t:Tmp} (h:(ret (),fn.results,lk σ t,MO () [],LO () [],n.ds)=(v,#[.tmp t],some v,M,[],[])):J c n σ M L (gU P fn (ML c ret MO LO) .ret):=by
  simp only[Prod.mk.injEq]at h;exact kC () h.1 h.2.1 (RV.tmp h.2.2.1) (h.2.2.2.1▸aY.refl _) (by rw[h.2.2.2.2.1];exact aD.nil) h.2.2.2.2.2
theorem sV {t:Tmp} (h:(ret (),fn.results,lk σ t,MO () [],LO () [],n.ds)=(v,#[.tmp t],some v,[],[],[])):J c n σ M L (gU P fn (ML c ret MO LO) .ret):=by
  simp only[Prod.mk.injEq]at h;exact kC () h.1 h.2.1 (RV.tmp h.2.2.1) (by rw[h.2.2.2.1];exact aY.nil) (by rw[h.2.2.2.2.1];exact aD.nil) h.2.2.2.2.2
theorem Cz {x:Code} (C:A->Prop) (σI:A->B->Fr) (MI:A->B->List bD) (e:J c n σ M L (x.wpr rd P (Exit.then (TO c n C σI MI (λ_ _=>L)) Q))) (f:∀a b,C a->J c n (σI a b) (MI a b) L K):J c n σ M L (x.wpr rd P (Exit.then K Q)):=EM C σI MI (λ_ _=>L) e f
theorem eH {R:Type} {f:Code} (e:A->(A->Option R)->Option R) {r:R} {U:Nat} (σI:A->B->Fr) (MI:A->B->List bD) (i:A) (j:B) (h:bP e U i=some r) (m:zN σ (σI i j)) (l:aY M (MI i j)) (g:∀k a b,e a (bP e k)=some r->J c n (σI a b) (MI a b) L (f.wpr rd P (Exit.then (WP c n e r σI MI (λ_ _=>L) k) Q))):J c n σ M L ((Code.loop f).wpr rd P Q):=HQ e σI MI (λ_ _=>L) i j h m l (aD.refl _ _) g
theorem d_ {x:Code} (C:A->Prop) (σI:A->Unit->Fr) (MI:A->Unit->List bD) (e:J c n σ M L (x.wpr rd P (Exit.then (TO c n C σI MI (λ_ _=>L)) Q))) (f:∀a b,C a->J c n (σI a b) (MI a b) L K):J c n σ M L (x.wpr rd P (Exit.then K Q)):=Cz C σI MI e f
theorem cE (h:J c n σ M L K):J c n σ M L (Code.skip.wpr rd P (Exit.then K Q)):=dJ h
theorem mP {id:Nat} (h:J c n σ M L K):J c n σ M L (Exit.inBlock id (Exit.then K Q) .normal):=h
theorem fE {id:Nat} {a b:Act->World->Prop} (h:J c n σ M L K):J c n σ M L ((Code.exit id).wpr rd P (Exit.then a (Exit.then b (Exit.inBlock id (Exit.then K Q))))):=yJ (iQ (iQ (BK (Bc h))))
theorem iI (x:A) (y:B) (a:C x) (b:zN σ (σI x y)) (h:(MI x y,LI x y)=(M,L)):J c n σ M L (TO c n C σI MI LI):=bT x y a b ((Prod.mk.inj h).1▸aY.refl _) ((Prod.mk.inj h).2▸aD.refl _ _)
theorem Ai {R:Type} {a:A->(A->Option R)->Option R} {r:R} {k:Nat} (x:A) (y:B) (h:bP a k x=some r) (b:zN σ (σI x y)) (e:(MI x y,LI x y)=(M,L)):J c n σ M L (WP c n a r σI MI LI k):=lT x y h b ((Prod.mk.inj e).1▸aY.refl _) ((Prod.mk.inj e).2▸aD.refl _ _)
theorem aJ.callQ {A:Type} {ret:A->Value} {MO:A->List bD->List bD} {f:FuncId} {h:List Operand} {vs:List Value} {a:Array TypeId} {e:List bD} {d:Option Tmp} {g:Option (Nat×Bool)} (j:aQ P f) (k:bA P f vs.toArray e ret MO (λ_ l=>l)) (m:h.map (ev σ)=vs.map some) (i:aD M L e) (b:∀x l,MO x l=MO x []++l:=by exact λ_ _=>rfl):aJ P c n σ M L ⟨d,.call ⟨.value (.func f),h.toArray,a⟩,ty,pos,aft,g⟩ ret (λx=>MO x M) (λ_=>L):=OO j k m i b
variable {l:List Oper} {m:List Nat} {k0:Nat} {Bs:List (Nat×List bD×List bD)} {rs:List Nat} {i:Nat}
theorem bE (h:(l[i]?,ev σ x,Nat.blt i k0,Nat.blt d n.sz)=(some ⟨some d,.move x,ty,pos,aft,none⟩,some v,true,true)) (k:JR c n ((d,v)::σ) M L [] ((i,[],[])::Bs) (RW P l.toArray Q (before m) (cX l) k0 rs)):JR c n σ M L [] Bs (RW P l.toArray Q (before m) (cX l) k0 (i::rs)):=by
  simp only[Prod.mk.injEq]at h;exact bI h.1 aY.nil Ap.nil (fC h.2.1) aN.z k h.2.2.1 Z h.2.2.2
theorem cN [cR P] {T:TypeId} {u w j D:Nat} {z F:Value} {e:Array Field} {s E t:String} {r:Bool} {g a p:Nat} {q:TypeDesc} {b o f:Nat} (h:(l[i]?,ev σ x,cR.tab P T,e[f]?,cR.tab P g,j==0,Nat.blt i k0,Nat.blt d n.sz)=(some ⟨some d,.fieldAddr T x f,ty,pos,aft,none⟩,some (.pointer (some ⟨b,o,none⟩)),some ⟨.struct e,u,w,z⟩,some ⟨s,g,a,r,E,t,p⟩,some ⟨q,j,D,F⟩,false,true,true)) (k:JR c n ((d,.pointer (some ⟨b,o+a,none⟩))::σ) M L [] ((i,[],[])::Bs) (RW P l.toArray Q (before m) (cX l) k0 rs)):JR c n σ M L [] Bs (RW P l.toArray Q (before m) (cX l) k0 (i::rs)):=by
  simp only[Prod.mk.injEq]at h;exact bI h.1 aY.nil Ap.nil (dR h.2.1 h.2.2.1 h.2.2.2.1 h.2.2.2.2.1 h.2.2.2.2.2.1) aN.z k h.2.2.2.2.2.2.1 Z h.2.2.2.2.2.2.2
theorem dY [cR P] (p:Nat) {T a:TypeId} {f g:Nat} {z:Value} {e:TypeDesc} {b o:Nat} {cs:List Value} (h:(l[i]?,ev σ x,M[p]?,cR.tab P T,yN e,cs[o]?,Nat.blt i k0,Nat.blt d n.sz)=(some ⟨some d,.load T x,ty,pos,aft,none⟩,some (.pointer (some ⟨b,o,none⟩)),some (bH b cs a),some ⟨e,f,g,z⟩,false,some v,true,true)) (k:JR c n ((d,v)::σ) M L [] ((i,[bH b cs a],[])::Bs) (RW P l.toArray Q (before m) (cX l) k0 rs)):JR c n σ M L [] Bs (RW P l.toArray Q (before m) (cX l) k0 (i::rs)):=by
  simp only[Prod.mk.injEq]at h;exact bI h.1 (aY.cons p h.2.2.1 aY.nil) Ap.nil (cK 0 h.2.1 Z h.2.2.2.1 h.2.2.2.2.1 h.2.2.2.2.2.1) aN.z k h.2.2.2.2.2.2.1 Z h.2.2.2.2.2.2.2
theorem hZ [cR P] (p:Nat) {T a:TypeId} {f:Nat} {z:Value} {e:TypeDesc} {b:Nat} {cs:List Value} (h:(l[i]?,ev σ x,M[p]?,cR.tab P T,yN e,Nat.blt i k0,Nat.blt d n.sz)=(some ⟨some d,.load T x,ty,pos,aft,none⟩,some (.pointer (some ⟨b,0,none⟩)),some (bH b cs a),some ⟨e,cs.length,f,z⟩,true,true,true)) (k:JR c n ((d,.agg cs.toArray)::σ) M L [] ((i,[bH b cs a],[])::Bs) (RW P l.toArray Q (before m) (cX l) k0 rs)):JR c n σ M L [] Bs (RW P l.toArray Q (before m) (cX l) k0 (i::rs)):=by
  simp only[Prod.mk.injEq]at h;exact bI h.1 (aY.cons p h.2.2.1 aY.nil) Ap.nil (lO 0 h.2.1 Z h.2.2.2.1 h.2.2.2.2.1) aN.z k h.2.2.2.2.2.1 Z h.2.2.2.2.2.2
end
theorem LJ {X R:Type} {b:X->(X->Option R)->Option R} {r:R} (I:X->Prop) (e:X->Nat)
  (h:∀x f,I x->(∀c,I c->e c<e x->f c=some r)->b x f=some r):∀(a:Nat) (x:X),I x->e x<a->bP b a x=some r:=by
 intro a
 induction a with
 |zero=>intro x _ j;omega
 |succ k l=>
  intro x g j;exact h x _ g λc d i=>l c d (by omega)
def OK {R:Type} (Q:R->Prop) (o:Option R):Prop:=∃r,o=some r∧Q r
theorem xF {X R:Type} {step:X->(X->Option R)->Option R} {Q:R->Prop} (I:X->Prop) (d:X->Nat)
  (h:∀x e,I x->(∀b,I b->d b<d x->OK Q (e b))->OK Q (step x e)):∀(a:Nat) (x:X),I x->d x<a->OK Q (bP step a x):=by
 intro a
 induction a with
 |zero=>intro x _ i;omega
 |succ k j=>
  intro x f i;exact h x _ f λb c g=>j b c (by omega)
theorem cV {b:Type} {p:Prop} [Decidable p] (a:p) (x:Option b):ck p x=x:=if_pos a
theorem wr {x:Int} (a : -9223372036854775808<=x) (b:x<=9223372036854775807):wI .i64 x=x:=if_pos ⟨a,b⟩
theorem bM {a b:Type} {x:Option a} {y:a} {f:a->Option b} (h:x=some y):x.bind f=f y:=by rw[h];rfl
theorem agY {a:Type} (l r:List a) (x y:a) (i:Nat) (h:l.length=i):(l++x::r).set i y=l++y::r:=by
 rw[List.set_append_right _ _ (by omega)];simp[<-h]
theorem Sc {a:Type} [Inhabited a] (l r:List a) (x:a) (i:Nat) (h:l.length=i):at' (l++x::r) (i:Int)=x:=by
 rw[jL,List.getD_eq_getElem?_getD,List.getElem?_append_right (by omega)];simp[<-h]
theorem eB {X R:Type} {step:X->(X->Option R)->Option R} {K:Option R} (N:Nat) (F:Nat->X) (c:∀(k:Nat) g,k<N->step (F k) g=g (F (k+1))) (e:∀g,step (F N) g=K):∀b,N<b->bP step b (F 0)=K:=by
 have i:∀(d a b:Nat),a+d=N->d<b->bP step b (F a)=K:=by
  intro d
  induction d with
  |zero=>
   intro a b j h;obtain rfl:a=N:=by omega
   obtain⟨f,rfl⟩:∃f,b=f+1:=⟨b - 1,by omega⟩
   exact e _
  |succ d l=>
   intro a b j h;obtain⟨f,rfl⟩:∃f,b=f+1:=⟨b - 1,by omega⟩
   show step (F a) (bP step f)=K;rw[c a _ (by omega)];exact l (a+1) f (by omega) (by omega)
 exact λb h=>i N 0 b (by omega) h
theorem Cu {X R:Type} {step:X->(X->Option R)->Option R} {K bad:Option R} (N:Nat) (p:Nat->Prop) (F:Nat->X) (r:∀(k:Nat) c,k<N->p k->step (F k) c=c (F (k+1))) (i:∀(k:Nat) c,k<N->¬p k->step (F k) c=bad) (j:∀c,step (F N) c=K):
  ∀b,N<b->((∀k,k<N->p k)->bP step b (F 0)=K)∧(¬(∀k,k<N->p k)->bP step b (F 0)=bad):=by
 have s:∀(d a b:Nat),a+d=N->d<b->((∀k,a<=k->k<N->p k)->bP step b (F a)=K)∧(¬(∀k,a<=k->k<N->p k)->bP step b (F a)=bad):=by
  intro d
  induction d with
  |zero=>
   intro a b t q;obtain rfl:a=N:=by omega
   obtain⟨f,rfl⟩:∃f,b=f+1:=⟨b - 1,by omega⟩
   exact⟨λ_=>j _,λh=>absurd (λk m g=>by omega) h⟩
  | succ d ih =>
   intro a b t q;obtain⟨f,rfl⟩:∃f,b=f+1:=⟨b - 1,by omega⟩
   obtain⟨u,v⟩:=ih (a+1) f (by omega) (by omega);have e:bP step (f+1) (F a)=step (F a) (bP step f):=rfl;rw[e];by_cases n:p a
   ·rw[r a _ (by omega) n];refine⟨λh=>u λk m g=>h k (by omega) g,λh=>v λo=>h λk m g=> ?_⟩
    by_cases l:k=a
    ·subst l;exact n
    ·exact o k (by omega) g
   ·exact⟨λh=>absurd (h a (Nat.le_refl _) (by omega)) n,λ_=>i a _ (by omega) n⟩
 intro b q;obtain⟨m,g⟩:=s N 0 b (by omega) q;exact⟨λh=>m λk _ l=>h k l,λh=>g λo=>h λk l=>o k (by omega) l⟩
theorem BV {X R:Type} {step:X->(X->Option R)->Option R} {K:X->Option R} (N:Nat) (I:Nat->X->Prop) (e:∀(k:Nat) x i,k<N->I k x->∃c,I (k+1) c∧step x i=i c) (h:∀x i,I N x->step x i=K x):∀b x,I 0 x->N<b->∃c,I N c∧bP step b x=K c:=by
 have m:∀(d a b:Nat) (x:X),a+d=N->d<b->I a x->∃c,I N c∧bP step b x=K c:=by
  intro d
  induction d with
  |zero=>
   intro a b x p l g;obtain rfl:a=N:=by omega
   obtain⟨f,rfl⟩:∃f,b=f+1:=⟨b - 1,by omega⟩
   exact⟨x,g,h _ _ g⟩
  |succ d r=>
   intro a b x p l g;obtain⟨f,rfl⟩:∃f,b=f+1:=⟨b - 1,by omega⟩
   obtain⟨c,j,q⟩:=e a x (bP step f) (by omega) g;obtain⟨s,n,o⟩:=r (a+1) f c (by omega) (by omega) j;exact⟨s,n,by rw[<-o];exact q⟩
 exact λb x g l=>m N 0 b x (by omega) l g
def Xi (q:Nat->Bool):Nat->Bool
 |0=>false
 |k+1=>Xi q k||q k
theorem Ug {q:Nat->Bool}:∀{k:Nat},Xi q k=true↔∃i,i<k∧q i=true
 |0=>by simp[Xi]
 | k + 1 => by
  simp only[Xi,Bool.or_eq_true,Ug (k:=k)];constructor
  ·rintro(⟨i,b,a⟩|h)
   ·exact⟨i,by omega,a⟩
   ·exact⟨k,by omega,h⟩
  ·rintro⟨i,b,a⟩;by_cases e:i=k
   ·subst e;exact .inr a
   ·exact .inl ⟨i,by omega,a⟩
def wU (p:Nat->Bool):Nat->Nat
 |0=>0
 |k+1=>if p k then wU p k ||| 2^k else wU p k
theorem Ny (p:Nat->Bool):∀k,wU p k<2^k
 |0=>by simp[wU]
 |k+1=>by
  have h:=Ny p k;simp only[wU];split
  ·exact Nat.or_lt_two_pow (by omega) (Nat.pow_lt_pow_right (by omega) (by omega))
  ·omega
theorem Ea (p:Nat->Bool) (j:Nat):∀k,(wU p k).testBit j=(decide (j<k)&&p j)
 |0=>by simp[wU]
 | k + 1 => by
  have h:=Ea p j k;simp only[wU];by_cases e:j=k
  ·subst e;cases c:p j<;>simp[h,c]
  ·have a:decide (j<k+1)=decide (j<k):=decide_eq_decide.2 (by omega);have b:¬k=j:=λh=>e h.symm;split
   ·rw[Nat.testBit_or,h,Nat.testBit_two_pow,a];simp[b]
   ·rw[h,a]
end Go.Sx
section
set_option linter.unusedSectionVars false
namespace Go.Sx
open Go.RowKit
section defs
variable {κ ν:Type} [DecidableEq κ]
def Do (a:κ->Value) (b:ν->Value):Nat->List (κ×ν)->List MapEntry
 |_,[]=>[]
 |i,x::xs=>⟨a x.1,b x.2,i⟩::Do a b (i+1) xs
def mF (k:κ):List (κ×ν)->Option ν
 | []=>none
 |x::xs=>if k=x.1 then some x.2 else mF k xs
def CB (k:κ) (v:ν):List (κ×ν)->List (κ×ν)
 | []=>[(k,v)]
 |x::xs=>if k=x.1 then(k,v)::xs else x::CB k v xs
def SA (a:ν->Value) (k:κ):Nat->List (κ×ν)->Option (Nat×Value)
 |_,[]=>none
 |i,x::xs=>if k=x.1 then some (i,a x.2)else SA a k (i+1) xs
theorem LD (a:ν->Value) (k:κ):∀(i:Nat) (l:List (κ×ν)),(SA a k i l).map (·.2)=(mF k l).map a
 |_,[]=>rfl
 |i,x::xs=>by
  simp only[SA,mF];split
  ·rfl
  ·exact LD a k (i+1) xs
theorem Jq (a:κ->Value) (b:ν->Value):∀(i:Nat) (l:List (κ×ν)) (x:κ×ν),Do a b i (l++[x])=Do a b i l++[⟨a x.1,b x.2,i+l.length⟩]
 |i,[],x=>rfl
 |i,y::ys,x=>by
  simp only[List.cons_append,Do,Jq a b (i+1) ys x,List.length_cons];rw[show i+1+ys.length=i+(ys.length+1) by omega]
theorem GM (k:κ) (v:ν):∀l:List (κ×ν),mF k l=none->CB k v l=l++[(k,v)]
 | [],_=>rfl
 | x :: xs, h => by
  simp only[mF]at h;split at h
  ·cases h
  ·rename_i a;simp only[CB,if_neg a,GM k v xs h,List.cons_append]
theorem QO (a:κ->Value) (b:ν->Value) (k:κ) (v:ν):∀(i0 i:Nat) (l:List (κ×ν)) (j:Nat) (u:Value),SA b k i l=some (j,u)->
  i<=j∧((Do a b i l)[j - i]?).map (·.key)=some (a k)∧Do a b i (CB k v l)=(Do a b i l).modify (j - i) (λe=>{e with key:=a k,val:=b v})∧(CB k v l).length=l.length
 |_,i,[],j,u,h=>by simp[SA]at h
 | i0, i, x :: xs, j, u, h => by
  simp only[SA]at h;split at h
  ·rename_i n;simp only[Option.some.injEq,Prod.mk.injEq]at h;obtain⟨rfl,_⟩:=h;simp[Do,CB,n]
  ·rename_i c;obtain⟨o,f,g,m⟩:=QO a b k v i0 (i+1) xs j u h;have d:j - i=(j - (i+1))+1:=by omega
   refine⟨by omega,?_,?_,?_⟩
   ·rw[d];simpa [Do]using f
   ·simp only[CB,if_neg c,Do];rw[d,List.modify_succ_cons,g]
   ·simp[CB,c,m]
end defs
structure Iw (P:Program) (kt:TypeId) {κ:Type} [DecidableEq κ] (ek:κ->Value):Prop where
 chk:∀b k w,(Instr.checkKey b 10000 kt (ek k)).run P w = .ok () w
 find:∀{ν:Type} (ev:ν->Value) (k:κ) (l:List (κ×ν)) w,(Instr.findKey kt (ek k) (Do ek ev 0 l)).run P w = .ok (SA ev k 0 l) w
 same:∀k,Instr.sameBits 10000 (ek k) (ek k)=true
def Mp {b c:Type} (d:b->Value) (e:c->Value) (r:Nat) (l:List (b×c)):bD where
 p w F:=F r∧w.heap[r]? = some (.map (Do d e 0 l).toArray l.length)
 mono:=fun⟨f,a⟩ h=>by
  obtain⟨g,i⟩:=h r f (Array.getElem?_eq_some_iff.1 a).1;exact⟨g,by rw[i];exact a⟩
section
variable {P:Program} {rd:Option Nat} {c:wN} {n:Sz} {σ:Fr} {M L:List bD} {Q:Exit->Act->World->Prop} {ops:Array Oper} {rest:List Oper}
variable {d:Option Tmp} {ty:TypeId} {pos:String} {aft:Array Edge} {g:Option (Nat×Bool)}
theorem St.push {w:World} (t:St c M L w) (o:Obj) {m:bD} (z:m.p (w.alloc o) (λk=>k=w.heap.size)):St c (m::M) L (w.alloc o):=by
 have e:Lb w (w.alloc o):=(Below.refl _ _).alloc (Nat.le_refl _) _;obtain⟨v,F,b,x⟩:=t;have u:∀k,k<w.heap.size->(w.alloc o).heap[k]? = w.heap[k]? := e.block;refine⟨v.trans e,λi k=>match i with|0=>k=w.heap.size|i+1=>F i k,⟨?_,?_,?_⟩,λf y=> ?_⟩
 ·intro i A a;cases i with
  |zero=>simp at a;subst a;exact z
  |succ i=>exact bD.same (b.res i A (by simpa using a)) (λ_ h=>h) (λk _ s=>u k s)
 ·intro i k q;cases i with
  |zero=>subst q;exact⟨.inl v.size,by simp⟩
  |succ i=>exact⟨(b.rng i k q).1,Nat.lt_of_lt_of_le (b.rng i k q).2 e.size⟩
 ·intro i j k l r;cases i with
  |zero=>
   cases j with
   |zero=>rfl
   |succ j=>have:=(b.rng j k r).2;simp only at l;omega
  |succ i=>
   cases j with
   |zero=>have:=(b.rng i k l).2;simp only at r;omega
   |succ j=>exact congrArg (· + 1) (b.dis i j k l r)
 ·exact f.mono (x f y) λk q s=>⟨⟨q.1,λi l=>by
   cases i with
   |zero=>simp only at l;omega
   |succ i=>exact q.2 i l⟩,u k s⟩
variable {κ ν:Type} [DecidableEq κ] {ek:κ->Value} {ev:ν->Value}
theorem aJ.makeMap (ek:κ->Value) (ev:ν->Value) {T:TypeId}:aJ P c n σ M L ⟨d,.makeMap T none,ty,pos,aft,g⟩ (λr:Nat=> .map (some r)) (λr=>Mp ek ev r []::M) (λ_=>L):=λa w s t=>by
 have b:(execOp a.eval ⟨d,.makeMap T none,ty,pos,aft,g⟩).run P w = .ok (.value (.map (some w.heap.size))) (w.alloc (.map #[] 0)):=by
  simp[execOp,Instr.makeMap]
 simp only[Oper.wp,b,Oper.upon];exact⟨w.heap.size,rfl,t.push _ ⟨rfl,heap_alloc_new w _⟩⟩
theorem PN [cR P] {T j m:TypeId} {C D E G:Nat} {z f:Value} {o:TypeDesc} {w:World} {r:Nat} {l:List (κ×ν)} {F:Nat->Prop} (i:Iw P j ek) (q:(Mp ek ev r l).p w F)
  (s:cR.tab P T=some ⟨.map j m,C,D,z⟩) (t:cR.tab P m=some ⟨o,E,G,f⟩) (k:κ) (b:Bool):
  (Instr.lookup T (.map (some r)) (ek k) b).run P w = .ok (if b then .tuple #[((mF k l).map ev).getD f,.bool (mF k l).isSome]else((mF k l).map ev).getD f) w:=by
 have y:(getObj r).run P w = .ok (.map (Do ek ev 0 l).toArray l.length) w:=by
  simp[getObj,Sem.run,q.2]
 have u:=i.find ev k l w;have a:=LD ev k 0 l;simp only[Instr.lookup];simp[(cR.ok s).run_und w,y,i.chk,u];cases e:SA ev k 0 l with
 |none=>
  rw[e]at a;have:mF k l=none:=by cases h:mF k l<;>simp[h]at a ⊢
  simp[this,(cR.ok t).run_zero w]
 | some x =>
  rw[e]at a;obtain⟨v,A,B⟩:∃v,mF k l=some v∧ev v=x.2:=by
   cases h:mF k l with
   |none=>simp[h]at a
   |some v=>simp[h]at a;exact⟨v,rfl,a.symm⟩
  simp[A,B]
theorem Nb [cR P] (j:Nat) {T e f:TypeId} {D E G H:Nat} {z h:Value} {i:TypeDesc} {x y:Operand} {r:Nat} {l:List (κ×ν)} (k:κ) {b:Bool} (v:Iw P e ek) (B:Go.Sx.ev σ x=some (.map (some r))) (C:Go.Sx.ev σ y=some (ek k)) (q:M[j]? = some (Mp ek ev r l))
  (o:cR.tab P T=some ⟨.map e f,D,E,z⟩) (p:cR.tab P f=some ⟨i,G,H,h⟩) {u:Value} (A:((mF k l).map ev).getD h=u):
  Y P c n σ M L ⟨d,.lookup T x y b,ty,pos,aft,g⟩ (if b then .tuple #[u,.bool (mF k l).isSome]else u):=λa w s t=>by
 obtain⟨F,m⟩:=t.res q;subst A;simp[execOp,s.eval B,s.eval C,PN v m o p]
theorem Dq {w:World} {r:Nat} {a:Array MapEntry} {k:Nat} (h:w.heap[r]? = some (.map a k)) (o:Obj):(setObj r o).run P w = .ok () {w with heap:=w.heap.setIfInBounds r o}:=by
 simp[setObj,Sem.run,h]
theorem St.setMap {w:World} (t:St c M L w) {j r:Nat} {l b:List (κ×ν)} (f:M[j]? = some (Mp ek ev r l)) (o:Obj) (m:o = .map (Do ek ev 0 b).toArray b.length):
  St c (M.set j (Mp ek ev r b)) L {w with heap:=w.heap.setIfInBounds r o}:=
 t.upd f Z Z Z (by simp) λF a _=>⟨λk _ i=>by
   rw[Array.getElem?_setIfInBounds_ne (λe=>i (by subst e;exact a.1))],F,⟨a.1,by
    rw[Array.getElem?_setIfInBounds_self_of_lt (Array.getElem?_eq_some_iff.1 a.2).1,m]⟩,λ_ h=> .inl h⟩
theorem MA [cR P] (j:Nat) {T R vt:TypeId} {s1 s2:Nat} {z:Value} {x y v:Operand} {r:Nat} {l:List (κ×ν)} (k:κ) (f:ν) (C:Iw P R ek) (Y:Go.Sx.ev σ x=some (.map (some r))) (hy:Go.Sx.ev σ y=some (ek k)) (X:Go.Sx.ev σ v=some (ev f)) (K:M[j]? = some (Mp ek ev r l))
  (I:cR.tab P T=some ⟨.map R vt,s1,s2,z⟩) (h:J c n σ (M.set j (Mp ek ev r (CB k f l))) L (wpList P ops Q rest)):
  J c n σ M L (wpList P ops Q (⟨none,.mapUpdate T x y v,ty,pos,aft,none⟩::rest)):=λa w s t=>by
 refine mB Z ?_;obtain⟨F,E⟩:=t.res K;have N:(getObj r).run P w = .ok (.map (Do ek ev 0 l).toArray l.length) w:=by
  simp[getObj,Sem.run,E.2]
 have b:=C.find ev k l w;have A:=LD ev k 0 l;have B:∃o:Obj,(execOp a.eval ⟨none,.mapUpdate T x y v,ty,pos,aft,none⟩).run P w = .ok .skip {w with heap:=w.heap.setIfInBounds r o}∧o = .map (Do ek ev 0 (CB k f l)).toArray (CB k f l).length:=by
  simp only[execOp,s.eval Y,s.eval hy,s.eval X,Instr.mapUpdate];cases m:SA ev k 0 l with
  |none=>
   rw[m]at A b;have U:mF k l=none:=by cases h:mF k l<;>simp[h]at A ⊢
   refine⟨.map (Do ek ev 0 l++[(⟨ek k,ev f,l.length⟩:MapEntry)]).toArray (l.length+1),by simp[(cR.ok I).run_und w,N,C.chk,b,Dq E.2],?_⟩
   rw[GM k f l U,Jq];simp
  | some q =>
   obtain⟨i,u⟩:=q;rw[m]at b;obtain⟨_,D,H,S⟩:=QO ek ev k f 0 0 l i u m;rw[Nat.sub_zero]at D H;have O:(((Do ek ev 0 l).toArray[i]?).map (·.key)).getD (ek k)=ek k:=by
    rw[List.getElem?_toArray,D];rfl
   refine⟨.map ((Do ek ev 0 l).toArray.modify i λe=>{e with key:=ek k,val:=ev f}) l.length,?_,?_⟩
   ·have G:(Instr.keyThatStays (ek k) (ek k)).run P w = .ok (ek k) w:=by simp[Instr.keyThatStays,C.same k]
    have p:(Option.map (λx=>x.key) (Do ek ev 0 l)[i]?).getD (ek k)=ek k:=by rw[D];rfl
    simp[(cR.ok I).run_und w,N,C.chk,b,p,G,Dq E.2]
   ·rw[H,S];simp
 obtain⟨o,W,V⟩:=B;simp only[Oper.wp,W,Oper.upon];exact h _ _ s (t.setMap K o V)
end
end Go.Sx
end
section
set_option linter.unusedSectionVars false
namespace Go.Sx
open Go.RowKit Go.ChangeMaps
def It (b m a:Nat) (c:List Nat):bD where
 p w F:=F b∧w.heap[b]? = some (.mapIter (some m) a c.toArray a)
 mono:=fun⟨e,d⟩ h=>by
  obtain⟨f,g⟩:=h b e (Array.getElem?_eq_some_iff.1 d).1;exact⟨f,by rw[g];exact d⟩
section
variable {κ ν:Type} [DecidableEq κ] {ek:κ->Value} {ev:ν->Value} {R:Type}
theorem LX (ek:κ->Value) (ev:ν->Value):∀(k:Nat) (l:List (κ×ν)) (e:MapEntry),e∈Do ek ev k l->∃i a,l[i]? = some a∧e=⟨ek a.1,ev a.2,k+i⟩
 |_,[],e,h=>by simp[Do]at h
 | k, x :: xs, e, h => by
  rcases List.mem_cons.1 h with rfl|h
  ·exact⟨0,x,rfl,rfl⟩
  ·obtain⟨i,a,b,c⟩:=LX ek ev (k+1) xs e h;exact⟨i+1,a,b,by rw[c,show k+1+i=k+(i+1) by omega]⟩
theorem LV (ek:κ->Value) (ev:ν->Value):∀(k:Nat) (l:List (κ×ν)) (i:Nat) (a:κ×ν),l[i]? = some a->(⟨ek a.1,ev a.2,k+i⟩:MapEntry)∈Do ek ev k l
 |_,[],i,a,h=>by simp at h
 |k,x::xs,0,a,h=>by simp at h;subst h;exact List.mem_cons_self
 |k,x::xs,i+1,a,h=>by
  have:=LV ek ev (k+1) xs i a (by simpa using h);rw[show k+1+i=k+(i+1) by omega]at this;exact List.mem_cons_of_mem _ this
theorem NE (ek:κ->Value) (ev:ν->Value):∀(k:Nat) (l:List (κ×ν)),(Do ek ev k l).map (·.born)=List.range' k l.length
 |_,[]=>rfl
 |k,x::xs=>by simp[Do,NE ek ev (k+1) xs,List.range'_succ]
def JW (a:κ×ν->Option R->Option R) (K:Option R) (l:List (κ×ν)):Option R:=l.foldr a K
def rem (l:List (κ×ν)) (a:List Nat):List (κ×ν):=((List.range l.length).filter (λi=> !a.contains i)).filterMap (λi=>l[i]?)
theorem KG:∀l:List (κ×ν),(List.range l.length).filterMap (λi=>l[i]?)=l
 | []=>rfl
 |x::xs=>by
  rw[List.length_cons,List.range_succ_eq_map,List.filterMap_cons];simp only[List.getElem?_cons_zero,List.filterMap_map];congr 1;have:=KG xs;simpa [Function.comp_def]using this
theorem YS (l:List (κ×ν)):rem l []=l:=by
 unfold rem;rw[List.filter_eq_self.2 (by simp),KG]
theorem V_ {l:List (κ×ν)} {a:List Nat} {i:Nat} {m:κ×ν} (k:l[i]? = some m) (t:i∉a):∃n o,rem l a=n++m::o∧rem l (a++[i])=n++o:=by
 have g:=bG k;have d:i∈(List.range l.length).filter (λi=> !a.contains i):=by simp[g,t]
 obtain⟨A,B,b⟩:=List.append_of_mem d;have c:((List.range l.length).filter (λi=> !a.contains i)).Nodup:=List.Pairwise.filter _ List.nodup_range;rw[b]at c;have r:i∉A:=λh=>by
  have:=(List.nodup_append.1 c).2.2 i h i List.mem_cons_self;exact this Z
 have s:i∉B:=λh=>by
  have:=(List.nodup_cons.1 (List.nodup_append.1 c).2.1).1;exact this h
 refine⟨A.filterMap (λi=>l[i]?),B.filterMap (λi=>l[i]?),?_,?_⟩
 ·unfold rem;rw[b,List.filterMap_append,List.filterMap_cons,k]
 ·unfold rem;have e:(List.range l.length).filter (λj=> !(a++[i]).contains j)=((List.range l.length).filter (λj=> !a.contains j)).filter (λj=>decide (j≠i)):=by
   rw[List.filter_filter];apply List.filter_congr;intro j _;rw[Bool.eq_iff_iff];simp[and_comm]
  rw[e,b,List.filter_append,List.filter_cons];have p:A.filter (λj=>decide (j≠i))=A:=List.filter_eq_self.2 (λj f=>by simp;rintro rfl;exact r f);have q:B.filter (λj=>decide (j≠i))=B:=List.filter_eq_self.2 (λj f=>by simp;rintro rfl;exact s f);rw[p,q,List.filterMap_append.symm];simp
theorem KF {c:κ×ν->Option R->Option R} (f:∀a b x,c a (c b x)=c b (c a x)) (K:Option R) (d:κ×ν) (e:List (κ×ν)):∀g:List (κ×ν),JW c K (g++d::e)=c d (JW c K (g++e))
 | []=>rfl
 |x::xs=>by
  have:=KF f K d e xs;unfold JW at this ⊢;rw[List.cons_append,List.cons_append,List.foldr_cons,List.foldr_cons,this,f]
end
section
variable {P:Program} {rd:Option Nat} {c:wN} {n:Sz} {σ σ':Fr} {M L M' L':List bD} {Q:Exit->Act->World->Prop} {ops:Array Oper} {rest:List Oper}
variable {d:Option Tmp} {ty:TypeId} {pos:String} {aft:Array Edge} {g:Option (Nat×Bool)}
variable {κ ν:Type} [DecidableEq κ] {ek:κ->Value} {ev:ν->Value} {R:Type}
theorem aJ.range [cR P] (j:Nat) {T f h:TypeId} {q r:Nat} {z:Value} {x:Operand} {m:Nat} {l:List (κ×ν)} (p:Go.Sx.ev σ x=some (.map (some m))) (o:M[j]? = some (Mp ek ev m l)) (k:cR.tab P T=some ⟨.map f h,q,r,z⟩):
  aJ P c n σ M L ⟨d,.range T x,ty,pos,aft,g⟩ (λb:Nat=> .pointer (some ⟨b,0,none⟩)) (λb=>It b m l.length []::M) (λ_=>L):=λa w s t=>by
 obtain⟨F,i⟩:=t.res o;have e:(execOp a.eval ⟨d,.range T x,ty,pos,aft,g⟩).run P w = .ok (.value (.pointer (some ⟨w.heap.size,0,none⟩))) (w.alloc (.mapIter (some m) l.length #[] l.length)):=by
  simp[execOp,s.eval p,run_range_map w T f h m _ _ (cR.ok k).und i.2]
 simp only[Oper.wp,e,Oper.upon];exact⟨w.heap.size,rfl,t.push _ ⟨rfl,heap_alloc_new w _⟩⟩
def FM (ek:κ->Value) (ev:ν->Value) (l:List (κ×ν)):Option Nat->Value
 |none=> .tuple #[.bool false]
 |some i=>match l[i]? with
  |some a=> .tuple #[.bool true,ek a.1,ev a.2]
  |none=>undef
def aaZ (b:Nat) (a:List Nat):Option Nat->Prop
 |none=>∀i,i<b->i∈a
 |some i=>i<b∧i∉a
def Rb (M:List bD) (f b m e:Nat) (a:List Nat):Option Nat->List bD
 |none=>M
 |some i=>M.set f (It b m e (a++[i]))
theorem St.pureL {w:World} {p:Prop} (hp:p) (t:St c M L w):St c M (ZO p::L) w:=by
 obtain⟨ho,F,hF,hL⟩:=t;refine⟨ho,F,hF,λf hf=> ?_⟩
 rcases List.mem_cons.1 hf with rfl|hf
 ·exact hp
 ·exact hL f hf
theorem aJ.next (jm ji:Nat) {x:Operand} {b m:Nat} {l:List (κ×ν)} {seen:List Nat} (hx:Go.Sx.ev σ x=some (.pointer (some ⟨b,0,none⟩))) (hf:M[jm]? = some (Mp ek ev m l)) (hi:M[ji]? = some (It b m l.length seen)):
  aJ P c n σ M L ⟨d,.next x false,ty,pos,aft,g⟩ (FM ek ev l) (Rb M ji b m l.length seen) (λo=>ZO (aaZ l.length seen o)::L):=λa w s t=>by
 obtain⟨F,hF⟩:=t.res hf;obtain⟨G,hG⟩:=t.res hi;have hold:∀e∈(Do ek ev 0 l).toArray.toList,e.born<l.length:=λe he=>by
  obtain⟨i,kv,h1,h2⟩:=LX ek ev 0 l e (by simpa using he);rw[h2];have:=bG h1;simp;omega
 rcases run_next_at (P:=P) w ty b m l.length l.length seen.toArray (Do ek ev 0 l).toArray l.length hG.2 hF.2 hold (Nat.le_refl _)with⟨h0,hr⟩|⟨e,he,w1,hw1,hr⟩
 ·have hrun:(execOp a.eval ⟨d,.next x false,ty,pos,aft,g⟩).run P w = .ok (.value (.tuple #[.bool false])) w:=by
   simp[execOp,s.eval hx,hr]
  simp only[Oper.wp,hrun,Oper.upon];refine⟨none,rfl,t.pureL λi hi'=> ?_⟩
  obtain⟨kv,hkv⟩:∃kv,l[i]? = some kv:=⟨_,List.getElem?_eq_getElem hi'⟩
  have:=all_seen _ _ h0 _ (by simpa using LV ek ev 0 l i kv hkv);simpa using this
 ·have hml:=_root_.Go.mem_left he;obtain⟨i,kv,h1,h2⟩:=LX ek ev 0 l e (by simpa using hml.1);subst h2;rw[Nat.zero_add]at hr hml;have hrun:(execOp a.eval ⟨d,.next x false,ty,pos,aft,g⟩).run P w = .ok (.value (.tuple #[.bool true,ek kv.1,ev kv.2])) (setBlock w1 b (.mapIter (some m) l.length (seen.toArray.push i) l.length)):=by
   simp[execOp,s.eval hx,hr]
  simp only[Oper.wp,hrun,Oper.upon];have t1:St c M L w1:=by
   rcases hw1 with rfl|rfl
   ·exact t
   ·exact t.ext ((Below.refl _ _).drew)
  refine⟨some i,by simp[FM,h1],St.pureL ⟨bG h1,by simpa using hml.2⟩ ?_⟩
  refine t1.upd hi Z Z Z (by simp[setBlock]) λF hF _=>⟨λk _ hk=> ?_,F,⟨hF.1,?_⟩,λ_ h=> .inl h⟩
  ·simp only[setBlock];rw[Array.getElem?_setIfInBounds_ne (λe=>hk (by subst e;exact hF.1))]
  ·simp only[setBlock];rw[Array.getElem?_setIfInBounds_self_of_lt (Array.getElem?_eq_some_iff.1 hF.2).1];simp
theorem aJ.entry (A z:Nat) {x:Operand} {b m i:Nat} {l:List (κ×ν)} {f:List Nat} {e:κ×ν} (j:l[i]? = some e) (y:Go.Sx.ev σ x=some (.pointer (some ⟨b,0,none⟩))) (q:M[A]? = some (Mp ek ev m l)) (r:M[z]? = some (It b m l.length (f++[i]))):
  aJ P c n σ M L ⟨d,.entry x,ty,pos,aft,g⟩ (λ_:Unit=> .tuple #[ek e.1,ev e.2]) (λ_=>M) (λ_=>L):=λa w s t=>by
 obtain⟨F,o⟩:=t.res q;obtain⟨G,p⟩:=t.res r;have k:=LV ek ev 0 l i e j;rw[Nat.zero_add]at k;have u:((Do ek ev 0 l).toArray.toList.map (·.born)).Nodup:=by
  simp only[NE];exact List.nodup_range'
 have v:=run_entry_at (P:=P) w b m l.length f.toArray (Do ek ev 0 l).toArray l.length ⟨ek e.1,ev e.2,i⟩ (by rw[p.2];simp) o.2 (by simpa using k) u;have h:(execOp a.eval ⟨d,.entry x,ty,pos,aft,g⟩).run P w = .ok (.value (.tuple #[ek e.1,ev e.2])) w:=by
  simp[execOp,s.eval y,v]
 simp only[Oper.wp,h,Oper.upon];exact⟨(),by first|rfl|trivial,t⟩
theorem WW {G:Act->World->Prop} (σ':Fr) (M' L':List bD) (f:zN σ σ') (e:aY M M') (b:aD [] L L') (h:J c n σ' M' L' G):J c n σ M L G:=λa w s t=>h a w (s.weak f) (t.weakE e b)
theorem ON {e:TypeId} {d:TypeDesc} (p:P.underlying e=some d) (m:∀b k w,(Instr.checkKey b 10000 e (ek k)).run P w = .ok () w) (o:∀a b,Instr.sameNow d (ek a) (ek b)=none)
  (r:∀a b w,(Op.equal e (ek a) (ek b)).run P w = .ok (decide (a=b)) w) (f:∀k,Instr.sameBits 10000 (ek k) (ek k)=true):Iw P e ek:=by
 refine⟨m,λ{ν'} ev' k l w=> ?_,f⟩
 have j:∀(l:List (κ×ν')) (i:Nat),(Instr.findAsking e (ek k) (Do ek ev' i l) i).run P w = .ok (SA ev' k i l) w:=by
  intro l
  induction l with
  |nil=>intro i;simp[Do,SA,Instr.findAsking]
  |cons x q t=>
   intro i;simp only[Do,SA,Instr.findAsking];simp[r];by_cases h:k=x.1
   ·simp[h]
   ·simp[h,t]
 unfold Instr.findKey;cases l with
 |nil=>simp[Do,SA,Instr.findNow,run_underlying p w]
 |cons x q=>
  have s:Instr.findNow d (ek k) (Do ek ev' 0 (x::q)) 0=none:=by simp[Do,Instr.findNow,o]
  simp[run_underlying p w,s,j]
def TN {R:Type} (c:wN) (n:Sz) (σ:Fr) (M L:List bD) (x:Option R) (r:R) (a:Act) (w:World):Prop:=x=some r∧EP n σ a∧St c M L w
theorem OJ {R:Type} {x:Option R} {r:R} (h:x=some r) (e:zN σ' σ) (b:aY M' M) (a:aD [] L' L):J c n σ' M' L' (TN c n σ M L x r):=λ_ _ s t=>⟨h,s.weak e,t.weakE b a⟩
theorem RP (p:κ×ν->Option R->Option R) {K:Option R} {r:R} (O s:Nat) {b m:Nat} {l:List (κ×ν)} (hc:∀a b x,p a (p b x)=p b (p a x)) (h:JW p K l=some r)
  (hf:M[O]? = some (Mp ek ev m l)) (U:M[s]? = some (It b m l.length [])) (af:Nat.beq s O=false) {t0 S T:Tmp} (hx:lk σ t0=some (.pointer (some ⟨b,0,none⟩))) (ab:Nat.blt S n.sz=true) (E:Nat.blt T n.sz=true)
  {id ex:Nat} {y1 y2:TypeId} {q1 q2:String} {f1 f2:Array Edge} {y:Code}
  (C:∀(t:κ×ν) (i:Nat) (k:List Nat) (x:Option R),l[i]? = some t->p t x=some r->
   J c n ((T,.bool true)::(S,.tuple #[.bool true,ek t.1,ev t.2])::σ) (M.set s (It b m l.length (k++[i]))) L (y.wpr rd P (Exit.then (TN c n σ (M.set s (It b m l.length (k++[i]))) L x r) Q)))
  (V:∀k,K=some r->J c n ((T,.bool false)::(S,.tuple #[.bool false])::σ) (M.set s (It b m l.length k)) L (Q (.exit ex))):
  J c n σ M L ((Code.loop (Code.seq (Code.region id [⟨some S,.next (.tmp t0) false,y1,q1,f1,none⟩,⟨some T,.extract (.tmp S) 0,y2,q2,f2,none⟩].toArray false) (Code.seq (Code.cond (.tmp T) .skip (.exit ex)) y))).wpr rd P Q):=by
 have z:=bG U;have ae:O≠s:=λe=>by subst e;simp at af
 have H:M.set s (It b m l.length [])=M:=by
  apply List.ext_getElem?;intro q;by_cases eq:q=s
  ·subst eq;rw[List.getElem?_set_self z,U]
  ·rw[List.getElem?_set_ne (Ne.symm eq)]
 refine TE (X:=List Nat) (λk=>k.Nodup∧(∀i∈k,i<l.length)∧JW p K (rem l k)=some r) (λ_=>σ) (λk=>M.set s (It b m l.length k)) (λ_=>L) (λk=>l.length - k.length) [] ⟨List.nodup_nil,by simp,by rw[YS];exact h⟩ (zN.refl _) (by rw[H];exact aY.refl _) (λ_ h=>h) ?_;rintro k ⟨G,F,v⟩;have ac:(M.set s (It b m l.length k))[O]? = some (Mp ek ev m l):=by rw[List.getElem?_set_ne (Ne.symm ae)];exact hf
 have ad:(M.set s (It b m l.length k))[s]? = some (It b m l.length k):=List.getElem?_set_self z;refine aI (aR (aG (aJ.next O s (x:= .tmp t0) hx ac ad) ab λo=> ?_));refine ZK List.mem_cons_self λho=> ?_;refine ZL (M':=Rb (M.set s (It b m l.length k)) s b m l.length k o) (L':=L) ?_ (zN.refl _) (aY.refl _) (λf hf=>List.mem_cons_of_mem _ hf);cases o with
 | none =>
  refine aB (gA (vs:=[.bool false]) (by simp[FM,lk,Go.Sx.ev]) Z) E (fF (Bc (aI (HP (by simp[lk,Go.Sx.ev]) (yJ (iQ (iQ ?_)))))));refine V k ?_;have:rem l k=[]:=by
   unfold rem;rw[List.filter_eq_nil_iff.2 (λi U=>by simpa using ho i (by simpa using U))];rfl
  rw[this]at v;exact v
 | some i =>
  obtain⟨W,Y⟩:=ho;obtain⟨t,A⟩:∃t,l[i]? = some t:=⟨_,List.getElem?_eq_getElem W⟩
  have N:FM ek ev l (some i) = .tuple #[.bool true,ek t.1,ev t.2]:=by simp[FM,A]
  obtain⟨l1,l2,e1,e2⟩:=V_ A Y;have B:p t (JW p K (rem l (k++[i])))=some r:=by
   rw[e2,<-KF hc K t l2 l1,<-e1];exact v
  have aa:Rb (M.set s (It b m l.length k)) s b m l.length k (some i)=M.set s (It b m l.length (k++[i])):=by simp[Rb]
  rw[N,aa];refine aB (gA (vs:=[.bool true,ek t.1,ev t.2]) (by simp[lk,Go.Sx.ev]) Z) E (fF (Bc (aI (Qd (by simp[lk,Go.Sx.ev]) (dJ (Bc ?_))))));refine TF (C t i k _ A B) λa w hw=>Gi (λe a' w' q=> ?_) hw;cases e with
  | normal =>
   obtain⟨ai,ag,ah⟩:=q;refine⟨k++[i],⟨?_,?_,ai⟩,?_,ag,ah⟩
   ·rw[List.nodup_append];exact⟨G,by simp,λa ha b D=>by simp at D;subst D;rintro rfl;exact Y ha⟩
   ·intro j u;rcases List.mem_append.1 u with u|u
    ·exact F j u
    ·simp at u;subst u;exact W
   ·have:k.length<l.length:=by
     have I:(k++[i]).length<=(List.range l.length).length:=by
      apply List.Nodup.length_le_of_subset
      ·rw[List.nodup_append];exact⟨G,by simp,λa ha b D=>by simp at D;subst D;rintro rfl;exact Y ha⟩
      ·intro j u;rcases List.mem_append.1 u with u|u
       ·simpa using F j u
       ·simp at u;subst u;simpa using W
     simp at I;omega
    simp;omega
  |exit id=>exact q
  |goto l=>exact q
  |ret=>exact q
  |panic ch=>exact q
  |outgrown=>exact q
end
end Go.Sx
end
namespace Go.Sx
open Go.RowKit
section
variable {P:Program} {rd:Option Nat} {c:wN} {n:Sz} {σ σ':Fr} {M L M' L':List bD} {Q:Exit->Act->World->Prop} {ops:Array Oper} {rest:List Oper} {K:Act->World->Prop} {G:Act->World->Prop}
variable {d:Option Tmp} {D:Nat} {ty:TypeId} {pos:String} {aft:Array Edge} {g:Option (Nat×Bool)}
variable {α β:Type} {e:eK α} {r:fH α}
def EO (P:Program) (f:FuncId) (a:Array Value) (Min L:List bD) {A:Type} (b:A->Value) (h:A->List bD->List bD):Prop:=
 ∀c:wN,St c Min L c.w0->Calls P f a c.w0 λe i=>∃x:A,e = .returned (b x)∧St c (h x []) [] i
theorem EO.of {A:Type} {b:A->Value} {q:A->List bD->List bD} {f:FuncId} {i:Func} {a:Code} {vs:List Value} {m:Nat} {Min:List bD}
  (u:P.funcs[f]? = some i) (s:i.body=some a) (x:i.ntmps=m) (w:Nat.ble vs.length m=true)
  (h:∀c:wN,J c ⟨m,[]⟩ (xE 0 vs) Min L (a.wpr none P (gU P i (ML c b q (λ_ l=>l))))):EO P f vs.toArray Min L b q:=λc t=>by
 have o:vs.length<=m:=by simpa using w
 refine sW u s (h c _ _ ⟨rfl,by simp[x,o],?_⟩ t);intro t v y;obtain⟨_,j⟩:=Dl vs 0 t v y;rw[Nat.sub_zero]at j;have p:t<vs.length:=by
  rcases Nat.lt_or_ge t vs.length with k|k
  ·exact k
  ·rw[List.getElem?_eq_none k]at j;cases j
 rw[Array.getElem?_append_left (by simpa using p)];simpa using j
theorem TX {w S:World} {l H v:List bD} {F:Nat->Nat->Prop} {U:Nat->Prop} (y:BM c.O c.w0 w) (o:Zn c w (l++H) F) (Y:∀f∈L,f.p w (Ej c F))
  (t:St ⟨w,U,λk=>∃i,i<l.length∧F i k⟩ v [] S):St c (v++H) L S:=by
 obtain⟨s,T,u,_⟩:=t;have C:=s.size;have x:∀k,k<w.heap.size->(∀i,i<l.length->¬F i k)->S.heap[k]? = w.heap[k]? := λk a hn=>s.block k a (fun⟨i,B,o⟩=>hn i B o);have b:∀i k,T i k->w.heap.size<=k∨∃j,j<l.length∧F j k:=λi k a=>(u.rng i k a).1;refine⟨⟨s.os.trans y.os,s.tape.trans y.tape,s.output.trans y.output,Nat.le_trans y.size C,λk a W=> ?_⟩,
  λi k=>(i<v.length∧T i k)∨(v.length<=i∧F (i - v.length+l.length) k),⟨?_,?_,?_⟩,λf hf=> ?_⟩
 ·refine(x k (Nat.lt_of_lt_of_le a y.size) (λi _ I=> ?_)).trans (y.block k a W);rcases(o.rng i k I).1 with h|h
  ·omega
  ·exact W h
 ·intro i m E;by_cases B:i<v.length
  ·rw[List.getElem?_append_left B]at E;exact bD.same (u.res i m E) (λk a=> .inl ⟨B,a⟩) (λ_ _ _=>rfl)
  ·rw[List.getElem?_append_right (by omega)]at E;have R:(l++H)[i - v.length+l.length]? = some m:=by
    rw[List.getElem?_append_right (by omega),Nat.add_sub_cancel];exact E
   exact bD.same (o.res _ m R) (λk a=> .inr ⟨by omega,a⟩) (λk a N=>x k N (λj X J=>by have:=o.dis _ _ k J a;omega))
 ·rintro i k (⟨_,a⟩|⟨_,a⟩)
  ·refine⟨?_,(u.rng i k a).2⟩
   rcases b i k a with h|⟨j,_,h⟩
   ·exact .inl (Nat.le_trans y.size h)
   ·exact(o.rng j k h).1
  ·exact⟨(o.rng _ k a).1,Nat.lt_of_lt_of_le (o.rng _ k a).2 C⟩
 ·rintro i j k (⟨B,z⟩|⟨B,z⟩) (⟨X,A⟩|⟨X,A⟩)
  ·exact u.dis i j k z A
  ·rcases b i k z with h|⟨q,hq,h⟩
   ·have:=(o.rng _ k A).2;omega
   ·have:=o.dis _ _ k h A;omega
  ·rcases b j k A with h|⟨q,hq,h⟩
   ·have:=(o.rng _ k z).2;omega
   ·have:=o.dis _ _ k h z;omega
  ·have:=o.dis _ _ k z A;omega
 ·refine f.mono (Y f hf) λk a N=>⟨⟨a.1,?_⟩,x k N (λi _=>a.2 i)⟩
  rintro i (⟨_,h⟩|⟨_,h⟩)
  ·rcases b i k h with V|⟨q,_,V⟩
   ·omega
   ·exact a.2 q V
  ·exact a.2 _ h
theorem RZ {w:World} {a u t:List bD} {F:Nat->Nat->Prop} (o:Zn c w (a++u) F) (y:∀f∈L,f.p w (Ej c F)) (B:aD u L t):
  St ⟨w,λk=>∀i,i<a.length->¬F i k,λk=>∃i,i<a.length∧F i k⟩ a t w:=by
 refine⟨BM.refl _,λi k=>i<a.length∧F i k,⟨λi m s=> ?_,λi k b=>⟨.inr ⟨i,b⟩,(o.rng i k b.2).2⟩,λi j k v x=>o.dis i j k v.2 x.2⟩,λf z=> ?_⟩
 ·have l:i<a.length:=by
   rcases Nat.lt_or_ge i a.length with q|q
   ·exact q
   ·rw[List.getElem?_eq_none q]at s;cases s
  exact bD.same (o.res i m (by rw[List.getElem?_append_left l];exact s)) (λk b=>⟨l,b⟩) (λ_ _ _=>rfl)
 ·refine B f z w (Ej c F) (λj k=>F (j+a.length) k) _ y (λj m A=> ?_) (λk b=> ?_) (λj k b=> ?_)
  ·exact o.res _ m (by rw[List.getElem?_append_right (by omega),Nat.add_sub_cancel];exact A)
  ·exact⟨.inl λi _=>b.2 i,λi l=>b.2 i l.2⟩
  ·exact⟨.inl λi l h=>by have:=o.dis _ _ k h b;omega,λi l=>by have:=o.dis _ _ k l.2 b;omega⟩
theorem EN {A:Type} {k:A->Value} {m:A->List bD->List bD} {f:FuncId} {p:List Operand} {vs:List Value} {b:Array TypeId} {q Min Mr:List bD} (z:aQ P f)
  (C:EO P f vs.toArray Min q k m) (H:p.map (ev σ)=vs.map some) (y:aY M (Min++Mr)) (v:aD Mr L q) (o:∀x l,m x l=m x []++l):
  aJ P c n σ M L ⟨d,.call ⟨.value (.func f),p.toArray,b⟩,ty,pos,aft,g⟩ k (λx=>m x Mr) (λ_=>L):=λa w s t=>by
 have j:(execOp a.eval ⟨d,.call ⟨.value (.func f),p.toArray,b⟩,ty,pos,aft,g⟩).run P w = .ok (.enter f vs.toArray) w:=by
  have e:=evs s H;simp[execOp,resolve,Act.eval,Deferred.ofValue,invoke,z _ w,e]
 simp only[Oper.wp,j,Oper.upon];obtain⟨B,F,u,i⟩:=t.weak (L':=L) y (λ_ h=>h);refine(C _ (RZ u i v)).mono ?_;rintro e I ⟨x,rfl,E⟩;refine⟨x,rfl,?_⟩
 rw[o];exact TX B u i E
def TP {A B:Type} (c:wN) (C:A->Prop) (a:A->B->Value) (f b:A->B->List bD) (e:Ending) (w:World):Prop:=∃x y,C x∧e = .returned (a x y)∧St c (f x y) (b x y) w
theorem I_ {j:Func} {a:List Value} {m:Nat} (l:j.ntmps=m) (k:Nat.ble a.length m=true):EP ⟨m,[]⟩ (xE 0 a) {tmps:=a.toArray++Array.replicate (j.ntmps - a.toArray.size) undef,defers:=[]}:=by
 have h:a.length<=m:=by simpa using k
 refine⟨rfl,by simp[l,h],?_⟩
 intro t v o;obtain⟨_,b⟩:=Dl a 0 t v o;rw[Nat.sub_zero]at b;have i:t<a.length:=by
  rcases Nat.lt_or_ge t a.length with f|f
  ·exact f
  ·rw[List.getElem?_eq_none f]at b;cases b
 rw[Array.getElem?_append_left (by simpa using i)];simpa using b
structure fU (P:Program) (c:wN) (n:Sz) (σ:Fr) (M L:List bD) (o:Oper) (f:FuncId) (vs:List Value):Prop where
 run:∀a w,EP n σ a->St c M L w->(execOp a.eval o).run P w = .ok (.enter f vs.toArray) w
theorem fU.fn {f:FuncId} {xs:List Operand} {vs:List Value} {b:Array TypeId} (h:aQ P f) (i:xs.map (ev σ)=vs.map some):fU P c n σ M L ⟨d,.call ⟨.value (.func f),xs.toArray,b⟩,ty,pos,aft,g⟩ f vs:=⟨λa w s _=>by
 have e:=evs s i;simp[execOp,resolve,Act.eval,Deferred.ofValue,invoke,h _ w,e]⟩
theorem eC {f:FuncId} {t:Tmp} {h:List Operand} {us cs vs:List Value} {b:Array TypeId} (j:aQ P f) (k:lk σ t=some (.func (.func f) #[] cs.toArray)) (m:h.map (ev σ)=us.map some) (l:us++cs=vs):fU P c n σ M L ⟨d,.call ⟨.value (.tmp t),h.toArray,b⟩,ty,pos,aft,g⟩ f vs:=⟨λa w s _=>by
 have e:=evs s m;have i:a.eval (.tmp t) = .func (.func f) #[] cs.toArray:=s.eval (x:= .tmp t) k;subst l;simp[execOp,resolve,i,Deferred.ofValue,invoke,j _ w,e]⟩
def uO (P:Program) (c:wN) (n:Sz) (σ:Fr) (M L:List bD) (b:Func) (v:Value):Prop:=∀a w,EP n σ a->St c M L w->(results b a.tmps).run P w = .ok v w
variable {fn:Func}
theorem uO.r0 (b:fn.results = #[]):uO P c n σ M L fn (.tuple #[]):=λa w _ _=>by simp[results,b]
theorem uO.r1 {f:ResultVar} {h:Value} (b:fn.results = #[f]) (i:RV P c n σ M L f h):uO P c n σ M L fn h:=λa w s t=>by
 have:=i a w s t;simp only[AM,b];simp[this]
theorem uO.r2 {i j:ResultVar} {k l:Value} (b:fn.results = #[i,j]) (f:RV P c n σ M L i k) (h:RV P c n σ M L j l):uO P c n σ M L fn (.tuple #[k,l]):=λa w s t=>by
 have f:=f a w s t;have h:=h a w s t;simp only[AM,b];simp[f,h]
theorem dO {A B:Type} {m:Sz} {v:Value} {f:Exit} {C:A->Prop} {b:A->B->Value} {k j:A->B->List bD} (x:A) (y:B) (l:C x) (i:f = .ret∨f = .normal) (q:uO P c m σ' M L fn v) (u:v=b x y) (p:aY M (k x y)) (o:aD [] L (j x y)) (h:m.ds=[]:=by rfl):
  J c m σ' M L (gU P fn (TP c C b k j) f):=λa w s t=>by
 exact body_end i (s.defers.trans h) (q a w s t) ⟨x,y,l,by rw[u],t.weakE p o⟩
end
section
variable {P:Program} {rd:Option Nat} {c:wN} {n:Sz} {σ σ':Fr} {M L M' L':List bD} {Q:Exit->Act->World->Prop} {ops:Array Oper} {rest:List Oper} {K:Act->World->Prop} {G:Act->World->Prop}
variable {d:Option Tmp} {D:Nat} {ty:TypeId} {pos:String} {aft:Array Edge} {g:Option (Nat×Bool)}
variable {α β:Type} {e:eK α} {r:fH α}
theorem MY (i:Nat) {k:Int} {vs:List Value} {xss:List (List α)} (E:M[i]? = some (k_ e vs xss)) (h:0<=k∧k<xss.length):
  sU M L (Ar e (at' vs k) (at' xss k)::M.set i (k_ e (vs.set k.toNat (.slice none 0 0)) (xss.set k.toNat []))) L:=λc w t=>by
 obtain⟨X,F,s,W⟩:=t;obtain⟨A,G,U,u,O⟩:=s.res i _ E;have R:k.toNat<vs.length:=by omega
 have S:i<M.length:=(List.getElem?_eq_some_iff.1 E).1;have B:=U k.toNat _ _ (lD h.1 (by omega)) (lD h.1 h.2);refine⟨X,λj q=>match j with|0=>G k.toNat q|j+1=>(j=i∧∃p,p≠k.toNat∧G p q)∨(j≠i∧F j q),⟨?_,?_,?_⟩,λf E=> ?_⟩
 ·intro j m y;cases j with
  |zero=>simp at y;subst y;exact B
  | succ j =>
   rw[List.getElem?_cons_succ]at y;by_cases N:j=i
   ·subst N;rw[List.getElem?_set_self S]at y;cases y;refine⟨by simp[A],λp q=>p≠k.toNat∧G p q,λp v V H I=> ?_,λp q a=> .inl ⟨rfl,p,a⟩,λT C q b l=>O _ _ q b.2 l.2⟩
    by_cases x:p=k.toNat
    ·subst x;rw[List.getElem?_set_self R]at H;rw[List.getElem?_set_self (by omega)]at I;cases H;cases I;exact⟨by simp,rfl,.inl ⟨rfl,rfl⟩⟩
    ·rw[List.getElem?_set_ne (Ne.symm x)]at H I;exact bD.same (f:=Ar e v V) (U p v V H I) (λq a=>⟨x,a⟩) (λ_ _ _=>rfl)
   ·rw[List.getElem?_set_ne (Ne.symm N)]at y;exact bD.same (s.res j m y) (λq a=> .inr ⟨N,a⟩) (λ_ _ _=>rfl)
 ·intro j q a;cases j with
  |zero=>exact s.rng i q (u _ q a)
  |succ j=>
   rcases a with⟨_,p,_,a⟩|⟨_,a⟩
   ·exact s.rng i q (u _ q a)
   ·exact s.rng j q a
 ·intro T C q b l;cases T with
  | zero =>
   cases C with
   |zero=>rfl
   |succ C=>
    rcases l with⟨_,p,o,l⟩|⟨o,l⟩
    ·exact absurd (O _ _ q l b) o
    ·exact absurd (s.dis _ _ q l (u _ q b)) o
  | succ T =>
   cases C with
   |zero=>
    rcases b with⟨_,p,o,b⟩|⟨o,b⟩
    ·exact absurd (O _ _ q b l) o
    ·exact absurd (s.dis _ _ q b (u _ q l)) o
   |succ C=>
    congr 1;rcases b with⟨J,p,_,b⟩|⟨J,b⟩<;>rcases l with⟨x,Y,_,l⟩|⟨x,l⟩
    ·rw[J,x]
    ·exact absurd (s.dis _ _ q l (u _ q b)) x
    ·exact absurd (s.dis _ _ q b (u _ q l)) J
    ·exact s.dis _ _ q b l
 ·refine bD.same (W f E) (λq a=>⟨a.1,λj z=> ?_⟩) (λ_ _ _=>rfl);cases j with
  |zero=>exact a.2 i (u _ q z)
  |succ j=>
   rcases z with⟨_,p,_,z⟩|⟨_,z⟩
   ·exact a.2 i (u _ q z)
   ·exact a.2 j z
theorem MU (i j:Nat) {u:Value} {k:Int} {vs:List Value} {xss:List (List α)} {ys:List α} (a:Nat.beq i j=false) (b:M[i]? = some (k_ e (vs.set k.toNat (.slice none 0 0)) (xss.set k.toNat []))) (f:M[j]? = some (Ar e u ys)) (h:0<=k∧k<(xss.set k.toNat []).length):
  sU M L ((M.set i (k_ e (vs.set k.toNat u) (xss.set k.toNat ys))).eraseIdx j) L:=by
 have:=yL (L:=L) i j a b f h;rwa[List.set_set,List.set_set]at this
theorem Kn {α:Type} [Inhabited α] (l:List α) {j k:Int} (y:α) (h:j.toNat≠k.toNat):at' (l.set j.toNat y) k=at' l k:=by
 rw[at',at',List.getD_eq_getElem?_getD,List.getD_eq_getElem?_getD,List.getElem?_set_ne h]
theorem zV [cR P] (i:Nat) {r:fH α} (f:e.Fits r) {x y:Operand} {u o:Value} {k j:Int} {vs:List Value} {a:List (List α)} {l b:List α} {T E:TypeId} {S U m s:Nat} {z t:Value} {v:TypeDesc} (N:ev σ x=some (at' vs k)) (O:ev σ y=some u) (H:M[i]? = some (k_ e (vs.set j.toNat o) (a.set j.toNat b))) (I:aE M L (Sl r u l))
  (F:cR.tab P T=some ⟨.slice E,S,U,z⟩) (C:cR.tab P E=some ⟨v,m,s,t⟩) (A:e.sz=m) (B:Nat.ble s 1024=true) (w:0<=k∧k<a.length) (J:((at' a k).length:Int)+l.length<=1099511627) (R:t.cells.size=m) (h:j.toNat≠k.toNat):
  aJ P c n σ M L ⟨d,.call ⟨.builtin .append,#[x,y],#[T,T]⟩,ty,pos,aft,g⟩ (λp:Value=>p) (λp=>M.set i (k_ e ((vs.set j.toNat o).set k.toNat p) ((a.set j.toNat b).set k.toNat (at' a k++l)))) (λ_=>L):=by
 have q:at' (a.set j.toNat b) k=at' a k:=Kn _ _ h;have:=qR (P:=P) (c:=c) (n:=n) (σ:=σ) (M:=M) (L:=L) (d:=d) (ty:=ty) (pos:=pos) (aft:=aft) (g:=g) (x:=x) (y:=y) (u:=u) (k:=k) (vs:=vs.set j.toNat o) (xss:=a.set j.toNat b) (ys:=l) i f (by rw[Kn _ _ h];exact N) O H I F C A B (by simpa using w) (by rw[q];exact J) R;rwa[q]at this
theorem Cg (q:Nat) {vs:List Value} {a:List (List α)} {k j:Int} {u z:Value} (x:M[q]? = some (k_ e ((vs.set k.toNat u).set j.toNat z) a)) (i:k.toNat≠j.toNat) (h:0<=k∧k<a.length):∀c w,St c M L w->Go.Sx.one u=true:=λc w t=>by
 obtain⟨S,v,A,p,_⟩:=t.res x;have f:k.toNat<vs.length:=by simp at v;omega
 obtain⟨_,_,s⟩:=p k.toNat u _ (by rw[List.getElem?_set_ne (Ne.symm i),List.getElem?_set_self f]) (List.getElem?_eq_getElem (by omega));rcases s with⟨l,_⟩|⟨b,y,m,T,o,l,_⟩<;>(rw[l];rfl)
theorem Ld {A:Type} {b:A->Value} {M' L':A->List bD} {f:Op} (j:aJ P c n σ M L ⟨none,f,ty,pos,aft,none⟩ b M' L') (h:∀x,J c n σ (M' x) (L' x) (wpList P ops Q rest)):
  J c n σ M L (wpList P ops Q (⟨none,f,ty,pos,aft,none⟩::rest)):=λa w s t=>
 mB Z (Js (nG (λm l ⟨x,i,k⟩=>by subst i;exact h x _ l s k) (j a w s t)))
end
section
variable {P:Program} {rd:Option Nat} {c:wN} {n:Sz} {σ σ':Fr} {M L M' L':List bD} {Q:Exit->Act->World->Prop} {ops:Array Oper} {rest:List Oper} {K:Act->World->Prop} {G:Act->World->Prop}
variable {d:Option Tmp} {D:Nat} {ty:TypeId} {pos:String} {aft:Array Edge} {g:Option (Nat×Bool)}
variable {α β:Type} {e:eK α} {r:fH α}
theorem MG [cR P] (j:Nat) {T:TypeId} {s2:Nat} {z:Value} {dT:TypeDesc} {x y:Operand} {v u:Value} {i:Int} {m:List α} (yv:α) (hx:ev σ x=some (DV v (i.toNat*1))) (hy:ev σ y=some u) (hu:e.enc yv=[u]) (B:one u=true)
  (X:M[j]? = some (Ar e v m)) (hT:cR.tab P T=some ⟨dT,1,s2,z⟩) (N:e.sz=1) (h0:0<=i) (W:i<m.length):
  aJ P c n σ M L ⟨none,.store T x y,ty,pos,aft,none⟩ (λ_:Unit=>undef) (λ_=>M.set j (Ar e v (m.set i.toNat yv))) (λ_=>L):=λa w s t=>by
 obtain⟨F,J⟩:=t.res X;have Y:i.toNat<m.length:=by omega
 have E:m[i.toNat]? = some m[i.toNat]:=List.getElem?_eq_getElem Y;have H:m≠[]:=by intro e;subst e;simp at Y
 obtain⟨p,hp⟩:∃p,e.enc m[i.toNat]=[p]:=List.length_eq_one_iff.1 ((e.len _).trans N);have f:=DL.cell J E (j:=0) (u:=p) (by rw[hp];rfl);rw[N,Nat.add_zero,Nat.mul_one]at f;rw[Nat.mul_one]at hx;have o:=Mw J H i.toNat;have I:(execOp a.eval ⟨none,.store T x y,ty,pos,aft,none⟩).run P w = .ok .skip (w.setCell (JP v i.toNat) u):=by
  simp only[execOp,s.eval hx,s.eval hy,DV];simp[CG (cR.ok hT) Z B f o]
 simp only[Oper.wp,I,Oper.upon];refine⟨(),trivial,t.upd X Z Z Z (by simp[World.setCell]) λF J _=> ?_⟩
 obtain⟨hl,W,S⟩:=J;rcases S with⟨_,S⟩|⟨b,l,A,T',O,hv,C,hb,hk,hc,ht⟩
 ·exact absurd S H
 ·subst hv;have ha:JP (.slice (some ⟨b,l,none⟩) m.length A) i.toNat=⟨b,l+i.toNat,none⟩:=by simp[JP,eV]
  rw[ha];refine⟨λk _ U=>Below.heap_setCell _ _ _ _ (λe=>U (by simp only at e;subst e;exact C)),F,⟨by simpa using hl,?_,.inr ⟨b,l,A,T',O.setIfInBounds (l+i.toNat) u,by simp,C,?_,by simpa using hk,by simpa using hc,?_⟩⟩,λ_ h=> .inl h⟩
  ·rw[xB N hu,List.all_eq_true];intro q V;rcases List.mem_or_eq_of_mem_set V with R|R
   ·exact List.all_eq_true.1 W q R
   ·rw[R];exact B
  ·simp[World.setCell,Array.getElem?_modify,hb]
  ·rw[xB N hu,<-ht,Array.toList_setIfInBounds,List.length_set,<-take_set];congr 1;rw[List.drop_set,if_neg (by omega),Nat.add_sub_cancel_left]
theorem Da [cR P] (i:Nat) {T j:TypeId} {C:Nat} {z:Value} {m:TypeDesc} {x y:Operand} {b o:Nat} {cs:List Value} {v:Value} (A:ev σ x=some (.pointer (some ⟨b,o,none⟩)))
  (B:ev σ y=some v) (u:one v=true) (l:M[i]? = some (bH b cs j)) (p:cR.tab P T=some ⟨m,1,C,z⟩) (q:Nat.blt o cs.length=true):
  aJ P c n σ M L ⟨none,.store T x y,ty,pos,aft,none⟩ (λ_:Unit=>undef) (λ_=>M.set i (bH b (cs.set o v) j)) (λ_=>L):=λa w s t=>by
 obtain⟨F,k⟩:=t.res l;have h:o<cs.length:=by simpa [Nat.blt_eq]using q
 have f:(execOp a.eval ⟨none,.store T x y,ty,pos,aft,none⟩).run P w = .ok .skip (w.setCell ⟨b,o,none⟩ v):=by
  simp[execOp,s.eval A,s.eval B,CG (cR.ok p) Z u (bH.cell k (List.getElem?_eq_getElem h)) (My k o)]
 simp only[Oper.wp,f,Oper.upon];exact⟨(),trivial,t.store l v⟩
theorem oL [cR P] (i:Nat) {T k:TypeId} {J:Nat} {z:Value} {u:TypeDesc} {x y:Operand} {b:Nat} {cs vs:List Value} (H:ev σ x=some (.pointer (some ⟨b,0,none⟩)))
  (I:ev σ y=some (.agg vs.toArray)) (E:vs.all one=true) (q:M[i]? = some (bH b cs k)) (B:cR.tab P T=some ⟨u,vs.length,J,z⟩) (C:Nat.beq vs.length cs.length=true):
  aJ P c n σ M L ⟨none,.store T x y,ty,pos,aft,none⟩ (λ_:Unit=>undef) (λ_=>M.set i (bH b vs k)) (λ_=>L):=λa w s t=>by
 obtain⟨F,A⟩:=t.res q;have f:vs.length=cs.length:=Nat.eq_of_beq_eq_true C;have h:∀v∈vs,v.oneCell'=true:=λv p=>oJ (by simpa using List.all_eq_true.1 E v p);obtain⟨N,l,o,_,_⟩:=(cR.ok B).info;have m:=run_storeVar_row (P:=P) w b k T cs.toArray vs.toArray A.2 (by simp[l,o]) (by simp[f]) (by simpa using h);have j:(execOp a.eval ⟨none,.store T x y,ty,pos,aft,none⟩).run P w = .ok .skip (w.setRow b vs.toArray):=by
  simp[execOp,s.eval H,s.eval I,Instr.storeAt,Instr.sureAddr,m]
 simp only[Oper.wp,j,Oper.upon];exact⟨(),trivial,t.fill q⟩
theorem Bw [cR P] (j q:Nat) {T:TypeId} {E:Nat} {z:Value} {m:TypeDesc} {x y:Operand} {v u:Value} {i:Int} {vs b:List Value} {f:List (List α)} (h:0<=i∧i<f.length) (B:ev σ x=some (DV v (i.toNat*1))) (C:ev σ y=some u)
  (p:M[j]? = some (Ar eK.raw v vs)) (A:M[q]? = some (k_ e b f)) (F:b.length=vs.length) (k:one u=true) (o:cR.tab P T=some ⟨m,1,E,z⟩):
  aJ P c n σ M L ⟨none,.store T x y,ty,pos,aft,none⟩ (λ_:Unit=>undef) (λ_=>M.set j (Ar eK.raw v (vs.set i.toNat u))) (λ_=>L):=λa w s t=>by
 have l:b.length=f.length:=by obtain⟨_,h⟩:=t.res A;exact h.1
 exact MG j u B C Z k p o Z h.1 (by omega) a w s t
section
variable {l:List Oper} {m:List Nat} {k0:Nat} {H Bs:List (Nat×List bD×List bD)} {rs:List Nat}
theorem oC {A:Type} {j:A->Value} {M' L':A->List bD} {i:Nat} {b:Op}
  (o:l[i]? = some ⟨none,b,ty,pos,aft,none⟩) (v:Nat.blt i k0=true) (y:eJ b=true) (z:aJ P c n σ M L ⟨none,b,ty,pos,aft,none⟩ j M' L')
  (q:∀x,Bv (before m i) (M' x) (L' x) Bs) (h:∀x,JR c n σ (M' x) (L' x) ((i,M,L)::H) Bs (RW P l.toArray Q (before m) (cX l) k0 rs)):
  JR c n σ M L H Bs (RW P l.toArray Q (before m) (cX l) k0 (i::rs)):=λa w X Y s t u k=>by
 have f:l.toArray[i]? = some ⟨none,b,ty,pos,aft,none⟩:=by simpa using o
 simp only[RW,f];rw[if_pos (by simp[Region.wanted])];refine .inr (.inr ⟨by simpa [Nat.blt_eq]using v,by simp[cX,o,y],nG ?_ (z a w s t)⟩);rintro C B ⟨x,rfl,p⟩;exact⟨(q x).use p k,h x _ B _ Y s p ⟨rfl,t,u⟩ k⟩
end
theorem Gp {A B:Type} {f:FuncId} {j:Func} {b:Code} {k:List Value} {m:Nat} {q:Op} (C:A->Prop) (i:A->B->Value) (o l:A->B->List bD) (E:fU P c n σ M L ⟨d,q,ty,pos,aft,g⟩ f k) (F:P.funcs[f]? = some j) (z:j.body=some b) (I:j.ntmps=m) (H:Nat.ble k.length m=true)
  (u:J c ⟨m,[]⟩ (xE 0 k) M L (b.wpr none P (gU P j (TP c C i o l)))):
  aJ P c n σ M L ⟨d,q,ty,pos,aft,g⟩ (λx:{p:A×B // C p.1}=>i x.1.1 x.1.2) (λx=>o x.1.1 x.1.2) (λx=>l x.1.1 x.1.2):=λa w s t=>by
 have h:=E.run a w s t;simp only[Oper.wp,h,Oper.upon];refine(sW F z (u _ w (I_ I H) t)).mono ?_;rintro e O ⟨x,y,v,rfl,N⟩;exact⟨⟨(x,y),v⟩,rfl,N⟩
theorem gE {A B:Type} {f:FuncId} {j:Func} {h:Code} {vs:List Value} {m:Nat} {o:Op} (C:A->Prop) (i:A->B->Value) (l k:A->B->List bD) (v:fU P c n σ M L ⟨some D,o,ty,pos,aft,none⟩ f vs) (w:P.funcs[f]? = some j) (u:j.body=some h) (y:j.ntmps=m) (x:Nat.ble vs.length m=true) (t:Nat.blt D n.sz=true)
  (p:J c ⟨m,[]⟩ (xE 0 vs) M L (h.wpr none P (gU P j (TP c C i l k)))) (q:∀a b,C a->J c n ((D,i a b)::σ) (l a b) (k a b) (wpList P ops Q rest)):J c n σ M L (wpList P ops Q (⟨some D,o,ty,pos,aft,none⟩::rest)):=
 aG (Gp C i l k v w u y x p) t fun⟨⟨a,b⟩,s⟩=>q a b s
theorem WS {A B:Type} {f:FuncId} {k:Func} {h:Code} {vs:List Value} {m:Nat} {q:Op} {j:Nat} {p:Bool} (C:A->Prop) (i:A->B->Value) (o l:A->B->List bD) (z:gv ops σ j=some p) (x:fU P c n σ M L ⟨some D,q,ty,pos,aft,some (j,p)⟩ f vs) (y:P.funcs[f]? = some k) (w:k.body=some h) (F:k.ntmps=m) (E:Nat.ble vs.length m=true) (v:Nat.blt D n.sz=true)
  (s:J c ⟨m,[]⟩ (xE 0 vs) M L (h.wpr none P (gU P k (TP c C i o l)))) (t:∀a b,C a->J c n ((D,i a b)::σ) (o a b) (l a b) (wpList P ops Q rest)):J c n σ M L (wpList P ops Q (⟨some D,q,ty,pos,aft,some (j,p)⟩::rest)):=
 rQ z (Gp C i o l x y w F E s) v fun⟨⟨a,b⟩,u⟩=>t a b u
section
variable {l:List Oper} {mm:List Nat} {k0:Nat} {H Bs:List (Nat×List bD×List bD)} {rs:List Nat}
theorem Fq {A B:Type} {i:Nat} {f:FuncId} {p:Func} {h:Code} {vs:List Value} {m:Nat} {q:Op} (C:A->Prop) (j:A->B->Value) (o k:A->B->List bD) (E:l[i]? = some ⟨some D,q,ty,pos,aft,none⟩) (F:Nat.blt i k0=true) (I:eJ q=true) (y:fU P c n σ M L ⟨some D,q,ty,pos,aft,none⟩ f vs) (z:P.funcs[f]? = some p) (x:p.body=some h) (O:p.ntmps=m) (N:Nat.ble vs.length m=true) (w:Nat.blt D n.sz=true)
  (u:∀a b,Bv (before mm i) (o a b) (k a b) Bs) (s:J c ⟨m,[]⟩ (xE 0 vs) M L (h.wpr none P (gU P p (TP c C j o k)))) (t:∀a b,C a->JR c n ((D,j a b)::σ) (o a b) (k a b) ((i,M,L)::H) Bs (RW P l.toArray Q (before mm) (cX l) k0 rs)):
  JR c n σ M L H Bs (RW P l.toArray Q (before mm) (cX l) k0 (i::rs)):=
 JR.loud E F I (Gp C j o k y z x O N s) w (λ_=>u _ _) fun⟨⟨a,b⟩,v⟩=>t a b v
end
theorem Bg [cR P] {T E:TypeId} {k t u a v:Nat} {z w:Value} {f:TypeDesc} {x y:Operand} {b:Nat} {i:Int} (j:Nat) (q:ev σ x=some (.pointer (some ⟨b,0,none⟩))) (s:ev σ y=some (.int .i64 i))
  (m:cR.tab P T=some ⟨.array k E,t,u,z⟩) (l:cR.tab P E=some ⟨f,a,v,w⟩) (h:(a==0)=false) (A:i=(j:Int)) (o:Nat.blt j k=true):
  Y P c n σ M L ⟨d,.indexAddr T x y,ty,pos,aft,g⟩ (.pointer (some ⟨b,j*a,none⟩)):=by
 have p:j<k:=by simpa [Nat.blt_eq]using o
 have:=iV (P:=P) (c:=c) (n:=n) (σ:=σ) (M:=M) (L:=L) (d:=d) (ty:=ty) (pos:=pos) (aft:=aft) (g:=g) (i:=i) q s m l h (by omega);rwa[show i.toNat=j by omega]at this
theorem pG [cR P] {T E:TypeId} {k q u b A:Nat} {z B:Value} {f:TypeDesc} {x y:Operand} {v:Value} {o:Nat} {i:Int} (m:ev σ x=some (DV v o)) (p:ev σ y=some (.int .i64 i))
  (l:cR.tab P T=some ⟨.array k E,q,u,z⟩) (j:cR.tab P E=some ⟨f,b,A,B⟩) (_h3:(b==0)=false) (h:0<=i∧i<(k:Int)):
  Y P c n σ M L ⟨d,.indexAddr T x y,ty,pos,aft,g⟩ (DV v (o+i.toNat*b)):=λa w s t=>by
 simp[execOp,s.eval m,s.eval p,Instr.indexAt,asIntOf,(cR.ok l).run_und w,h,Instr.sureAddr,DV,(cR.ok j).run_size w,HX]
theorem bZ {x:Operand} {b o:Nat} (f:ev σ x=some (.pointer (some ⟨b,o,none⟩))):Y P c n σ M L ⟨d,.nilCheck x,ty,pos,aft,g⟩ (.pointer (some ⟨b,o,none⟩)):=λa w s t=>by
 simp[execOp,s.eval f]
theorem Hh [cR P] [Inhabited α] (j:Nat) {T:TypeId} {s2 k o q:Nat} {z:Value} {dT:TypeDesc} {x y:Operand} {v u:Value} {us:List Value} {i:Int} {p:List α} (J:α) (h:0<=i∧i<p.length) (hx:ev σ x=some (DV v (i.toNat*q+o))) (hy:ev σ y=some u)
  (hf:M[j]? = some (Ar e v p)) (hq:e.sz=q) (U:u.cells=us.toArray) (hk:us.length=k) (ho:Nat.ble (o+k) q=true) (I:e.enc J=(e.enc (at' p i)).take o++us++(e.enc (at' p i)).drop (o+k)) (W:us.all one=true) (hT:cR.tab P T=some ⟨dT,k,s2,z⟩):
  aJ P c n σ M L ⟨none,.store T x y,ty,pos,aft,none⟩ (λ_:Unit=>undef) (λ_=>M.set j (Ar e v (p.set i.toNat J))) (λ_=>L):=λa w s t=>by
 subst hq hk;have aq:o+us.length<=e.sz:=by simpa using ho
 have hi:i.toNat<p.length:=by omega
 have t0:=t;obtain⟨aj,FF,hO,af⟩:=t0;obtain⟨h0,A,hh⟩:=hO.res j _ hf;rcases hh with⟨_,rfl⟩|⟨b,m,V,T',f,rfl,X,Y,aa,hc,ht⟩
 ·simp at hi
 -- the parts of the row
 obtain⟨l,B,C,H,hl⟩:∃l B C,p=l++B::C∧l.length=i.toNat:=⟨p.take i.toNat,p[i.toNat],p.drop (i.toNat+1),by rw[List.getElem_cons_drop,List.take_append_drop],by simp;omega⟩
 have ah:at' p i=B:=by
  rw[at',List.getD_eq_getElem?_getD,<-hl,H,List.getElem?_append_right (Nat.le_refl _)];simp
 rw[ah]at I;have eE:=e.len B;have eA:(cellsOf e l).length=i.toNat*e.sz:=by rw[eF,hl]
 have E:cellsOf e p=cellsOf e l++(e.enc B++cellsOf e C):=by rw[H];simp[cellsOf]
 have S:cellsOf e (p.set i.toNat J)=cellsOf e l++(e.enc J++cellsOf e C):=by
  have:p.set i.toNat J=l++J::C:=by rw[H,<-hl,List.set_append_right _ _ (Nat.le_refl _)];simp
  rw[this];simp[cellsOf]
 have ao:p.length*e.sz<=V*e.sz:=Nat.mul_le_mul_right _ aa;obtain⟨N,R,O,hH⟩:∃N R,f.toList=N++(cellsOf e l++(e.enc B++(cellsOf e C++R)))∧N.length=m:=by
  refine⟨f.toList.take m,(f.toList.drop m).drop (p.length*e.sz),?_,by simp;omega⟩
  have e1:cellsOf e l++(e.enc B++(cellsOf e C++(f.toList.drop m).drop (p.length*e.sz)))=f.toList.drop m:=by
   have:cellsOf e l++(e.enc B++(cellsOf e C++(f.toList.drop m).drop (p.length*e.sz)))=cellsOf e p++(f.toList.drop m).drop (p.length*e.sz):=by rw[E];simp
   rw[this,<-ht,List.take_append_drop]
  rw[e1,List.take_append_drop]
 have am:f.size=f.toList.length:=by simp
 have ak:f.toList.take (m+(i.toNat*e.sz+o))=N++(cellsOf e l++(e.enc B).take o):=by
  have:f.toList=(N++(cellsOf e l++(e.enc B).take o))++((e.enc B).drop o++(cellsOf e C++R)):=by
   rw[O,List.append_assoc,List.append_assoc,<-List.append_assoc ((e.enc B).take o),List.take_append_drop]
  rw[this];exact List.take_left' (by simp[hH,eA,eE];omega)
 have al:f.toList.drop (m+(i.toNat*e.sz+o)+us.length)=(e.enc B).drop (o+us.length)++(cellsOf e C++R):=by
  have:f.toList=(N++(cellsOf e l++(e.enc B).take (o+us.length)))++((e.enc B).drop (o+us.length)++(cellsOf e C++R)):=by
   rw[O,List.append_assoc,List.append_assoc,<-List.append_assoc ((e.enc B).take (o+us.length)),List.take_append_drop]
  rw[this];exact List.drop_left' (by simp[hH,eA,eE];omega)
 have ae:(i.toNat+1)*e.sz<=p.length*e.sz:=Nat.mul_le_mul_right _ (by omega);have ap:(i.toNat+1)*e.sz=i.toNat*e.sz+e.sz:=by rw[Nat.add_mul,Nat.one_mul]
 have ab:m+(i.toNat*e.sz+o)+0+us.length<=f.size:=by omega
 have ad:=run_storeCells_at P b (m+(i.toNat*e.sz+o)) T' us 0 f w Y ab (λu U=>oJ (List.all_eq_true.1 W u U));simp only[Nat.add_zero]at ad;have ar:(cR.ok hT).run_size w=(cR.ok hT).run_size w:=rfl;have ac:(execOp a.eval ⟨none,.store T x y,ty,pos,aft,none⟩).run P w = .ok .skip (w.setRow b (f.toList.take (m+(i.toNat*e.sz+o))++us++f.toList.drop (m+(i.toNat*e.sz+o)+us.length)).toArray):=by
  simp[execOp,s.eval hx,s.eval hy,DV,JP,Instr.storeAt,Instr.sureAddr,storeVar,U,(cR.ok hT).run_size w,eV,ad]
 simp only[Oper.wp,ac,Oper.upon];refine⟨(),trivial,?_⟩
 refine HT aj hO af hf Z Z Z (by simp) (λk _ ai=>setRow_other w b k _ (λe=>ai (by subst e;exact X))) (F':=FF j) ?_ (λk hk=> .inl hk);have F:(e.enc J).length=e.sz:=e.len J;refine⟨by simpa using h0,?_,.inr ⟨b,m,V,T',_,by simp,X,setRow_heap w b _ _ T' _ Y,by simpa using aa,?_,?_⟩⟩
 ·rw[S];rw[E]at A;simp only[List.all_append,Bool.and_eq_true]at A ⊢;refine⟨A.1,?_,A.2.2⟩
  rw[I];simp only[List.all_append,Bool.and_eq_true];refine⟨⟨List.all_eq_true.2 λu U=>List.all_eq_true.1 A.2.1 u (List.mem_of_mem_take U),W⟩,List.all_eq_true.2 λu U=>List.all_eq_true.1 A.2.1 u (List.mem_of_mem_drop U)⟩
 ·simp only[List.size_toArray,List.length_append,List.length_take,List.length_drop];omega
 ·show((f.toList.take _++us++f.toList.drop _).drop m).take ((p.set i.toNat J).length*e.sz)=_;rw[ak,al,S,I,List.length_set];have e3:(N++(cellsOf e l++(e.enc B).take o)++us++((e.enc B).drop (o+us.length)++(cellsOf e C++R)))=N++((cellsOf e l++(((e.enc B).take o++us++(e.enc B).drop (o+us.length))++cellsOf e C))++R):=by simp
  rw[e3,<-hH,List.drop_left];refine List.take_left' ?_;have ag:(cellsOf e C).length=C.length*e.sz:=eF e C;have an:p.length=i.toNat+1+C.length:=by rw[H,<-hl];simp;omega
  rw[I]at F;rw[List.length_append,List.length_append,F,eA,ag,an,Nat.add_mul,Nat.add_mul,Nat.one_mul];omega
end
def Dfr (D:Nat):bD where
 p w F:=F D∧w.heap[D]? = some (.deferred (some []))
 mono:=fun⟨b,a⟩ h=>by
  obtain⟨c,d⟩:=h D b (Array.getElem?_eq_some_iff.1 a).1;exact⟨c,by rw[d];exact a⟩
structure TS where
 n:Nat
 σ:Fr
 ps:Array Tmp
 assign:Code
 body:Code
 D:Nat
def Lp (l:Nat) (R:TS) (i:LoopState) (a:Option Code):bD where
 p w F:=F l∧∃(fn:FuncId) (tmps:Array Value),tmps.size=R.n∧(∀t v,lk R.σ t=some v->tmps[t]? = some v)∧
  w.heap[l]? = some (.loop {state:=i,pending:=a,fn:=fn,tmps:=tmps,params:=R.ps,assign:=R.assign,body:=R.body,defers:=R.D})
 mono:=fun⟨c,fn,tmps,d,e,b⟩ h=>by
  obtain⟨f,g⟩:=h l c (Array.getElem?_eq_some_iff.1 b).1;exact⟨f,fn,tmps,d,e,by rw[g];exact b⟩
def Vz (D:Nat):Deferred:={target:= .collected D,args:= #[]}
def yB (l:Nat):Value:= .func (.yield l) #[] #[]
section
variable {P:Program} {rd:Option Nat} {c:wN} {n m:Sz} {σ σ':Fr} {M L:List bD} {Q:Exit->Act->World->Prop} {K G:Act->World->Prop}
theorem St.putLp {w:World} {l i:Nat} {R:TS} {y d:LoopState} {b a:Option Code} (t:St c M L w) (v:M[i]? = some (Lp l R y b)) {r:Loop} (o:w.heap[l]? = some (.loop r)):
  St c (M.set i (Lp l R d a)) L (w.putObj l (.loop {r with state:=d,pending:=a})):=by
 refine t.upd v Z Z Z (by simp) λF j _=>⟨λk _ x=> ?_,F,?_,λ_ h=> .inl h⟩
 ·exact World.putObj_heap_other (λe=>x (by subst e;exact j.1))
 ·obtain⟨q,p,f,s,u,g⟩:=j;rw[g]at o;cases o;exact⟨q,p,f,s,u,World.putObj_heap_same (Array.getElem?_eq_some_iff.1 g).1⟩
def TT (P:Program) (n:Sz) (σ:Fr) (l D:Nat) (Q:Exit->Act->World->Prop) (e:Ending) (w:World):Prop:=
 ∀a,EP ⟨n.sz,Vz D::n.ds⟩ σ a->rangePost (FR none) 0 P l Q a e w
theorem MB {g:Operand} {ps:Array Tmp} {assign body:Code} {f:FuncId} {fn:Func} {code:Code} {cs:List Value} {k:Nat} (hb:aQ P f) (hx:ev σ g=some (.func (.func f) #[] cs.toArray)) (hf:P.funcs[f]? = some fn) (hbd:fn.body=some code) (hn:fn.ntmps=k) (hm:Nat.ble (cs.length+1) k=true)
  (h:∀l D,J c ⟨k,[]⟩ (xE 0 (yB l::cs)) (Lp l ⟨n.sz,σ,ps,assign,body,D⟩ .ready none::Dfr D::M) L (code.wpr none P (gU P fn (TT P n σ l D Q)))):
  J c n σ M L ((Code.rangeFunc g ps assign body).wpr none P Q):=λa w s t=>by
 refine wpIn_rangeFunc λfn' _=> ?_;have hev:a.eval g = .func (.func f) #[] cs.toArray:=s.eval hx;let W:World:=(w.alloc (.deferred (some []))).alloc (.loop {state:= .ready,pending:=none,fn:=fn',tmps:=a.tmps,params:=ps,assign:=assign,body:=body,defers:=w.heap.size});refine⟨_,_,_,{target:= .fn (.func f) cs.toArray,args:= #[yB (w.heap.size+1)]},W,f,(yB (w.heap.size+1)::cs).toArray,W,run_enterLoop_outer fn' a.tmps ps assign body,?_,λ_ _=>trivial,?_,(λhc=>by cases hc),?_⟩
 ·have hc:∀v,a.eval (.const v)=v:=λ_=>rfl;simp[resolve,hev,hc,Deferred.ofValue,yB,W]
 ·simp[invoke,hb _ _,yB]
 ·have t1:St c (Dfr w.heap.size::M) L (w.alloc (.deferred (some []))):=t.push _ ⟨rfl,heap_alloc_new w _⟩;have t2:St c (Lp (w.heap.size+1) ⟨n.sz,σ,ps,assign,body,w.heap.size⟩ .ready none::Dfr w.heap.size::M) L ((w.alloc (.deferred (some []))).alloc (.loop {state:= .ready,pending:=none,fn:=fn',tmps:=a.tmps,params:=ps,assign:=assign,body:=body,defers:=w.heap.size})):=by
   have:=t1.push (.loop {state:= .ready,pending:=none,fn:=fn',tmps:=a.tmps,params:=ps,assign:=assign,body:=body,defers:=w.heap.size}) (m:=Lp (w.heap.size+1) ⟨n.sz,σ,ps,assign,body,w.heap.size⟩ .ready none)
    ⟨by simp,fn',a.tmps,s.size,s.slot,by rw[<-World.size_alloc w (.deferred (some []))];exact heap_alloc_new _ _⟩
   exact this
  refine QF ((sW hf hbd (h (w.heap.size+1) w.heap.size _ _ (I_ hn (by simpa using hm)) t2)).mono ?_);intro e w' he;exact he _ ⟨by simp[Vz,s.defers],s.size,s.slot⟩
theorem TH {f:Func} {b:Exit} {v:Value} {l D i:Nat} {R:TS} (e:b = .ret∨b = .normal) (j:M[i]? = some (Lp l R .ready none)) (q:uO P c m σ' M L f v) (h:J c ⟨n.sz,Vz D::n.ds⟩ σ (M.set i (Lp l R .exhausted none)) L (Q .normal)) (d:m.ds=[]:=by rfl):
  J c m σ' M L (gU P f (TT P n σ l D Q) b):=λa w s t=>by
 refine body_end e (s.defers.trans d) (q a w s t) λo r=> ?_;obtain⟨F,u,p,k,x,y,g⟩:=t.res j;exact⟨none,_,run_endLoop g (by simp),h o _ r (t.putLp j g)⟩
theorem WV {f:Func} {b:Exit} {v:Value} {l D i:Nat} {R:TS} (e:b = .ret∨b = .normal) (j:M[i]? = some (Lp l R .done (some .ret))) (q:uO P c m σ' M L f v) (h:J c ⟨n.sz,Vz D::n.ds⟩ σ (M.set i (Lp l R .exhausted (some .ret))) L (Q .ret)) (d:m.ds=[]:=by rfl):
  J c m σ' M L (gU P f (TT P n σ l D Q) b):=λa w s t=>by
 refine body_end e (s.defers.trans d) (q a w s t) λo r=> ?_;obtain⟨F,u,p,k,x,y,g⟩:=t.res j;exact⟨some .ret,_,run_endLoop g (by simp),wpIn_ret (h o _ r (t.putLp j g))⟩
def Tq (P:Program) (l:Nat) (G:Act->World->Prop) (a:Act) (w:World):Prop:=∃b,(Instr.beginRound l).run P w = .ok () b∧G a b
theorem Qc {l i:Nat} {R:TS} {b:Option Code} (e:M[i]? = some (Lp l R .ready b)) (h:J c n σ (M.set i (Lp l R .busy b)) L G):J c n σ M L (Tq P l G):=λa w s t=>by
 obtain⟨F,j,g,f,k,o,d⟩:=t.res e;exact⟨_,run_beginRound d Z,h a _ s (t.putLp e d)⟩
def TU (n:Sz) (σ:Fr) (d:Nat) (K:Act->World->Prop) (e:Ending) (w:World):Prop:=∃v,e = .returned v∧∀a,EP n ((d,v)::σ) a->K a w
theorem Iu {l i d:Nat} {R:TS} {b:Option Code} (f:M[i]? = some (Lp l R .busy b)) (h:J c m ((d,.bool true)::σ') (M.set i (Lp l R .ready none)) L K):J c n σ M L (roundPost P l (TU m σ' d K) .normal):=λa w s t=>by
 obtain⟨F,p,k,g,q,r,e⟩:=t.res f;exact⟨_,_,run_endRound none e,_,rfl,λj o=>h j _ o (t.putLp f e)⟩
theorem TI {l i d:Nat} {R:TS} {b:Option Code} (f:M[i]? = some (Lp l R .busy b)) (h:J c m ((d,.bool false)::σ') (M.set i (Lp l R .done (some .ret))) L K):J c n σ M L (roundPost P l (TU m σ' d K) .ret):=λa w s t=>by
 obtain⟨F,p,k,g,q,r,e⟩:=t.res f;exact⟨_,_,run_endRound (some .ret) e,_,rfl,λj o=>h j _ o (t.putLp f e)⟩
def Fa:List Tmp->List Value->Fr->Fr
 |t::ts,v::vs,σ=>Fa ts vs ((t,v)::σ)
 |_,_,σ=>σ
theorem IZ:∀(d:List Tmp) (f:List Value) (a:Array Value) (σ:Fr) (k:Nat),a.size=k->d.all (λt=>Nat.blt t k)=true->(∀t v,lk σ t=some v->a[t]? = some v)->
  ((d.zip f).foldl (λa (x:Tmp×Value)=>a.setIfInBounds x.1 x.2) a).size=k∧∀t v,lk (Fa d f σ) t=some v->((d.zip f).foldl (λa (x:Tmp×Value)=>a.setIfInBounds x.1 x.2) a)[t]? = some v
 | [],_,a,σ,k,h1,_,h3=>by simpa [Fa]using ⟨h1,h3⟩
 |_::_,[],a,σ,k,h1,_,h3=>by simpa [Fa]using ⟨h1,h3⟩
 | p :: d, x :: f, a, σ, k, h1, h2, h3 => by
  simp only[List.all_cons,Bool.and_eq_true]at h2;have g:p<k:=by simpa [Nat.blt_eq]using h2.1
  simp only[List.zip_cons_cons,List.foldl_cons,Fa];refine IZ d f _ _ k (by simp[h1]) h2.2 λt v b=> ?_;simp only[lk]at b;by_cases e:t=p
  ·subst e;simp at b;subst b;simp[h1,g]
  ·rw[mK e]at b;simp only[cond_false]at b;rw[Array.getElem?_setIfInBounds_ne (Ne.symm e)];exact h3 t v b
theorem WX {f:Array Oper} {b:List Oper} {t:Tmp} {z:List Operand} {g:List Value} {o:Array TypeId} {d:Nat} {B:TypeId} {y:String} {k:Array Edge} {l i:Nat} {R:TS} {j:List Tmp} (U:lk σ t=some (yB l)) (W:z.map (ev σ)=g.map some) (T:M[i]? = some (Lp l R .ready none)) (r:R.ps=j.toArray) (q:g.length=j.length) (p:j.all (λt=>Nat.blt t R.n)=true) (S:Nat.blt d n.sz=true)
  (h:J c ⟨R.n,[]⟩ (Fa j g R.σ) M L (R.assign.wpr (some l) P (Exit.then (Tq P l (R.body.wpr (some l) P (roundPost P l (TU n σ d (wpList P f Q b))))) (λ_ _ _=>False)))):
  J c n σ M L (wpList P f Q (⟨some d,.call ⟨.value (.tmp t),z.toArray,o⟩,B,y,k,none⟩::b)):=λa w s A=>by
 obtain⟨F,h1,H,tmps,I,N,O⟩:=A.res T;have e:=evs s W;have C:a.eval (.tmp t)=yB l:=s.eval (x:= .tmp t) U;have X:=run_yield (P:=P) (args:=g.toArray) O (by simp[r,q]);have u:(execOp a.eval ⟨some d,.call ⟨.value (.tmp t),z.toArray,o⟩,B,y,k,none⟩).run P w=(Instr.yield l g.toArray).run P w:=by
  simp[execOp,resolve,C,yB,Deferred.ofValue,invoke,e]
 unfold wpList;rw[if_pos (show Region.wanted _ _=true from rfl)];refine .inr ⟨_,_,_,_,_,_,u.trans X,?_⟩;refine RoundIn.mono (R:=TU n σ d (wpList P f Q b)) (roundIn_of_wpIn (F:=FR none) trivial ?_) ?_
 ·obtain⟨D,E⟩:=IZ j g tmps R.σ R.n I p N;have:=h {tmps:=(j.zip g).foldl (λtmps (x:Tmp×Value)=>tmps.setIfInBounds x.1 x.2) tmps,defers:=[]} w ⟨rfl,D,E⟩ A;simp only[r,List.zip_toArray,List.foldl_toArray];exact this
 ·rintro e Y ⟨v,rfl,V⟩;exact⟨v,rfl,V _ (s.put d v S)⟩
theorem Le {g:Operand} {ps:Array Tmp} {assign body:Code} {f:FuncId} {fn:Func} {code:Code} {cs:List Value} {k:Nat} (hb:aQ P f) (hx:ev σ g=some (.func (.func f) #[] cs.toArray)) (hf:P.funcs[f]? = some fn) (hbd:fn.body=some code) (hn:fn.ntmps=k) (hm:Nat.ble (cs.length+1) k=true)
  (h:∀(l D:Nat) (R:TS),R.n=n.sz∧R.σ=σ∧R.ps=ps∧R.assign=assign∧R.body=body->J c ⟨k,[]⟩ (xE 0 (yB l::cs)) (Lp l R .ready none::Dfr D::M) L (code.wpr none P (gU P fn (TT P n σ l D Q)))):
  J c n σ M L ((Code.rangeFunc g ps assign body).wpr none P Q):=MB hb hx hf hbd hn hm λl D=>h l D _ ⟨rfl,rfl,rfl,rfl,rfl⟩
theorem MD {j:Array Oper} {e:List Oper} {t:Tmp} {u:List Operand} {us:List Value} {r:Array TypeId} {d:Nat} {B:TypeId} {s:String} {q:Array Edge} {l i k:Nat} {R:TS} {p:List Tmp} {o:Fr} {a b:Code} (w:R.n=k∧R.σ=o∧R.ps=p.toArray∧R.assign=a∧R.body=b) (z:lk σ t=some (yB l)) (A:u.map (ev σ)=us.map some) (y:M[i]? = some (Lp l R .ready none)) (g:us.length=p.length) (f:p.all (λt=>Nat.blt t k)=true) (x:Nat.blt d n.sz=true)
  (h:J c ⟨k,[]⟩ (Fa p us o) M L (a.wpr (some l) P (Exit.then (Tq P l (b.wpr (some l) P (roundPost P l (TU n σ d (wpList P j Q e))))) (λ_ _ _=>False)))):
  J c n σ M L (wpList P j Q (⟨some d,.call ⟨.value (.tmp t),u.toArray,r⟩,B,s,q,none⟩::e)):=by
 obtain⟨rfl,rfl,v,rfl,rfl⟩:=w;exact WX z A y v g f x h
end
def Jm (Ds:List Nat):List Deferred:=Ds.map Vz
def K_ (Ds:List Nat):bD where
 p w F:=Ds.Nodup∧∀D∈Ds,F D∧w.heap[D]? = some (.deferred (some []))
 mono:=fun⟨c,a⟩ h=>⟨c,λD b=>by
  obtain⟨d,e⟩:=h D (a D b).1 (Array.getElem?_eq_some_iff.1 (a D b).2).1;exact⟨d,by rw[e];exact(a D b).2⟩⟩
section
variable {P:Program} {rd:Option Nat} {c:wN} {n m:Sz} {σ σ':Fr} {M L:List bD} {Q:Exit->Act->World->Prop} {K G:Act->World->Prop}
theorem MW:sU M L (K_ []::M) L:=sU.add λ_=>⟨List.nodup_nil,by simp⟩
theorem MX (i j:Nat) {D:Nat} {e:List Nat} (d:i≠j) (l:M[i]? = some (K_ e)) (o:M[j]? = some (Dfr D)):sU M L ((M.set i (K_ (D::e))).eraseIdx j) L:=λc w t=>
 t.merge i j d l o (by
  rintro w q r ⟨g,b⟩ ⟨f,h⟩ k;refine⟨List.nodup_cons.2 ⟨λp=>k D (b D p).1 f,g⟩,λE a=> ?_⟩
  rcases List.mem_cons.1 a with rfl|a
  ·exact⟨.inr f,h⟩
  ·exact⟨.inl (b E a).1,(b E a).2⟩)
theorem Fp {g:Operand} {ps:Array Tmp} {assign body:Code} {f:FuncId} {fn:Func} {code:Code} {cs:List Value} {k i s:Nat} (Ds:List Nat) (hi:M[i]? = some (K_ Ds)) (hb:aQ P f) (hx:ev σ g=some (.func (.func f) #[] cs.toArray)) (hf:P.funcs[f]? = some fn) (hbd:fn.body=some code) (hn:fn.ntmps=k) (hm:Nat.ble (cs.length+1) k=true)
  (h:∀(l D:Nat) (R:TS),R.n=s∧R.σ=σ∧R.ps=ps∧R.assign=assign∧R.body=body->J c ⟨k,[]⟩ (xE 0 (yB l::cs)) (Lp l R .ready none::M.set i (K_ (D::Ds))) L (code.wpr none P (gU P fn (TT P ⟨s,Jm Ds⟩ σ l D Q)))):
  J c ⟨s,Jm Ds⟩ σ M L ((Code.rangeFunc g ps assign body).wpr none P Q):=Le hb hx hf hbd hn hm λl D R hR=>
 jY (MX (i+2) 1 (by omega) hi Z) (h l D R hR)
theorem sC {o:Func} {R:Ending->World->Prop} {f:Exit} {i k:Nat} (b:f = .ret∨f = .normal):∀{Ds:List Nat} {M:List bD},M[i]? = some (K_ Ds)->J c ⟨k,[]⟩ σ (M.set i (K_ [])) L (gU P o R f)->J c ⟨k,Jm Ds⟩ σ M L (gU P o R f)
 | [], M, hi, h => by
  have:M.set i (K_ [])=M:=by
   apply List.ext_getElem?;intro j;by_cases e:i=j
   ·subst e;rw[hi];simp[(List.getElem?_eq_some_iff.1 hi).1]
   ·simp[List.getElem?_set_ne e]
  rw[this]at h;exact h
 | D :: Ds, M, hi, h => λa w s t => by
  obtain⟨F,v,q⟩:=t.res hi;have u:St c (M.set i (K_ Ds)) L (w.putObj D (.deferred none)):=by
   refine t.upd hi Z Z Z (by simp) λF d _=>⟨λk _ r=> ?_,F,?_,λ_ h=> .inl h⟩
   ·exact World.putObj_heap_other (λe=>r (e▸(d.2 D (by simp)).1))
   ·obtain⟨p,d⟩:=d;refine⟨(List.nodup_cons.1 p).2,λE g=>⟨(d E (by simp[g])).1,?_⟩⟩
    rw[World.putObj_heap_other (λe=>(List.nodup_cons.1 p).1 (by subst e;exact g))];exact(d E (by simp[g])).2
  refine Se b s.defers (q D (by simp)).2 ?_;have l:(M.set i (K_ Ds))[i]? = some (K_ Ds):=by simp[(List.getElem?_eq_some_iff.1 hi).1]
  have:=sC b l (by rw[List.set_set];exact h) {tmps:=a.tmps,defers:=Jm Ds} _ ⟨rfl,s.size,s.slot⟩ u;rcases b with rfl|rfl<;>exact this
def acI {A B:Type} (c:wN) (f:A->B->Sz) (C:A->Prop) (b:A->B->Fr) (e d:A->B->List bD) (a:Act) (w:World):Prop:=∃x y,C x∧EP (f x y) (b x y) a∧St c (e x y) (d x y) w
theorem OM {A B:Type} {x:Code} (h:A->B->Sz) (C:A->Prop) (d:A->B->Fr) (g f:A->B->List bD) (j:J c n σ M L (x.wpr rd P (Exit.then (acI c h C d g f) Q))) (k:∀a b,C a->J c (h a b) (d a b) (g a b) (f a b) K):
  J c n σ M L (x.wpr rd P (Exit.then K Q)):=λa w s t=>Gi (λe i u q=>by
 cases e with
 |normal=>obtain⟨z,y,o,p,r⟩:=q;exact k z y o i u p r
 |exit id=>exact q
 |goto l=>exact q
 |ret=>exact q
 |panic v=>exact q
 |outgrown=>exact q) (j a w s t)
theorem HR {A B:Type} {e:A->B->Sz} {C:A->Prop} {a:A->B->Fr} {d b:A->B->List bD} (x:A) (y:B) (i:n=e x y) (f:C x) (j:zN σ (a x y)) (h:aY M (d x y)) (g:aD [] L (b x y)):J c n σ M L (acI c e C a d b):=
 λ_ _ s t=>⟨x,y,f,i▸s.weak j,t.weakE h g⟩
end
def Gb (b:Nat) (cs:List Value):bD where
 p w S:=S b∧∃T,w.heap[b]? = some (.cells cs.toArray T (0,0))
 mono:=fun⟨c,T,a⟩ h=>by
  obtain⟨d,e⟩:=h b c (Array.getElem?_eq_some_iff.1 a).1;exact⟨d,T,by rw[e];exact a⟩
section
variable {P:Program} {c:wN} {n:Sz} {σ:Fr} {M L:List bD} {d:Option Tmp} {ty:TypeId} {pos:String} {aft:Array Edge} {g:Option (Nat×Bool)} {α:Type} {e:eK α}
theorem Na [cR P] {T E:TypeId} {u:IntKind} {k v A f B:Nat} {z C:Value} {l:TypeDesc} {x y:Operand} {b:Nat} {i:Int} (q:ev σ x=some (.pointer (some ⟨b,0,none⟩))) (r:ev σ y=some (.int u i))
  (p:cR.tab P T=some ⟨.array k E,v,A,z⟩) (o:cR.tab P E=some ⟨l,f,B,C⟩) (m:(f==0)=false) (h:0<=i∧i<(k:Int)):
  Y P c n σ M L ⟨d,.indexAddr T x y,ty,pos,aft,g⟩ (.pointer (some ⟨b,i.toNat*f,none⟩)):=λa w s t=>by
 have j:f≠0:=by simpa using m
 simp[execOp,s.eval q,s.eval r,Instr.indexAt,asIntOf,(cR.ok p).run_und w,h,Instr.sureAddr,(cR.ok o).run_size w,j,eV]
theorem Sa [cR P] [Inhabited α] {T:TypeId} {E:Nat} {z:Value} {o:TypeDesc} {x:Operand} {b k:Nat} {i:Int} {f:List α} {u:Value} (q:ev σ x=some (.pointer (some ⟨b,i.toNat*1,none⟩)))
  (y:aE M L (Gb b (cellsOf e f))) (A:cR.tab P T=some ⟨o,1,E,z⟩) (B:yN o=false) (C:e.sz=1) (D:(e.enc (at' f i))=[u]) (h:(0<=i∧i<(k:Int))∧f.length=k):
  Y P c n σ M L ⟨d,.load T x,ty,pos,aft,g⟩ u:=λa w s t=>by
 obtain⟨F,j,r,l⟩:=y.st t;have v:(bH b (cellsOf e f) r).p w F:=⟨j,l⟩
 have m:=wQ e f i.toNat (at' f i) (lD h.1.1 (by omega)) 0 u (by rw[D];rfl);rw[C,Nat.add_zero]at m;rw[Nat.mul_one]at q m;simp[execOp,s.eval q,yW (cR.ok A) B (bH.cell v m)]
end
end Go.Sx
namespace Go.Sx
section
variable {P:Program} {M L:List bD} {α β γ:Type} {r:fH α} {s:fH γ} {q:fH β}
def fH.Deep (r:fH α) (q:fH β) (f:α->Value×List β):Prop:=∀{w S es x},r.R w S es x->Lj q w S (f x).1 (f x).2
theorem Dc (q:fH β):(fH.sl q).Deep q (λx=>x):=λh=>h.2
theorem RX {f:α->Value×List β} (h:r.Deep q f):(r.pair s).Deep q (λx=>f x.1):=by
 rintro w S d x ⟨b,c,rfl,a,_⟩;exact h a
theorem DO {f:α->Value×List β} (h:r.Deep q f):(s.pair r).Deep q (λx=>f x.2):=by
 rintro w S d x ⟨b,c,rfl,_,a⟩;exact h a
theorem wO [Inhabited α] {v:Value} {a:List α} {i:Int} {f:α->Value×List β} (h:aE M L (Sl r v a)) (d:r.Deep q f) (b:0<=i) (c:i<a.length):aE M L (Sl q (f (at' a i)).1 (f (at' a i)).2):=h.mono λ{w U} hs=>by
 obtain⟨g,e,_⟩:=sl_cell hs (lD b c);exact d e
def IN (s:ByteArray):List Int:=s.data.toList.map λb=>(b.toNat:Int)
theorem Cn [cR P] {c:wN} {n:Sz} {l:Fr} {d:Option Tmp} {H:TypeId} {e:String} {b:Array Edge} {g:Option (Nat×Bool)} {T:TypeId} {F G:Nat} {z:Value} {x y:Operand} {s:ByteArray} {f:List Int} {k:IntKind} {i:Int} (D:ev l x=some (.string s)) (E:ev l y=some (.int k i)) (u:cR.tab P T=some ⟨.string,F,G,z⟩) (A:IN s=f) (h:0<=i∧i<f.length):
  Y P c n l M L ⟨d,.index T x y,H,e,b,g⟩ (.int .u8 (at' f i)):=λa w p t=>by
 subst A;obtain⟨I,m⟩:=h;obtain⟨j,rfl⟩:∃j:Nat,i=(j:Int):=⟨i.toNat,by omega⟩
 have o:j<s.data.toList.length:=by unfold IN at m;simp at m ⊢;omega
 have C:j<s.size:=by have:=Lib.size_eq s;simp at o;omega
 have B:s[j]? = some (s.data.toList[j]):=by
  rw[getElem?_pos s j C];rfl
 have v:at' (IN s) (j:Int)=((s.data.toList[j]).toNat:Int):=by
  unfold at' IN;simp[List.getD_eq_getElem?_getD,List.getElem?_eq_getElem o]
 rw[v];simp[execOp,p.eval D,p.eval E,Instr.index,asIntOf,(cR.ok u).run_und w,B]
theorem OX [cR P] {c:wN} {n:Sz} {j:Fr} {d:Option Tmp} {F:TypeId} {i:String} {e:Array Edge} {g:Option (Nat×Bool)} {T E:TypeId} {A B C D m b:Nat} {z G:Value} {o:TypeDesc} {x l:Operand} {k:Int} (y:ev j x=some (.pointer (some ⟨b,0,none⟩))) (f:ev j l=some (.int .i64 k))
  (v:cR.tab P T=some ⟨.array m E,A,B,z⟩) (u:cR.tab P E=some ⟨o,C,D,G⟩) {q:Int} (h:0<=k∧k<=((m:Nat):Int)∧k<=q):Y P c n j M L ⟨d,.slice T x none (some l) none,F,i,e,g⟩ (.slice (some ⟨b,0,none⟩) k.toNat m):=λa w s t=>by
 have p:0<=k∧k<=(m:Int):=⟨h.1,h.2.1⟩
 simp[execOp,s.eval y,s.eval f,Instr.sliceAt,Instr.slice,(cR.ok v).run_und w,Instr.sliceBounds,Instr.sliceBound,asIntOf,(cR.ok u).run_size w,p,asAddr,Addr.add,Instr.sureAddr]
theorem TK {e:eK α} {i b T m:Nat} {k:Int} {a:List α} (t:M[i]? = some (bH b (cellsOf e a) T)) (c:e.Fits r) (h:0<=k∧k<=((m:Nat):Int)∧k<=(a.length:Int)) (p:m<=9223372036854775807):aE M L (Sl r (.slice (some ⟨b,0,none⟩) k.toNat m) (a.take k.toNat)):=λw S T U B f C v=>by
 have n:=f i _ t;have o:(a.take k.toNat).length=k.toNat:=by simp;omega
 refine⟨some ⟨b,0,none⟩,m,by rw[o],by rw[o];omega,.inr ⟨b,0,rfl,v _ _ n.1,λj x d=> ?_⟩⟩
 have l:a[j]? = some x:=by
  rw[List.getElem?_take]at d;split at d
  ·exact d
  ·cases d
 obtain⟨g,D,z,_⟩:=c;refine⟨e.enc x,λq u A=> ?_,z⟩
 have y:=wQ e a _ _ l _ _ A;rw[g,Nat.zero_add];exact bH.cell n y
def fH.All (r:fH α) (n:Nat) (g:α->List Value):Prop:=r.sz=n∧∀{w S es x},r.R w S es x->es=g x
theorem OS {e:eK α} (h:e.Fits r):r.All e.sz e.enc:=⟨h.1,h.2.1⟩
theorem OT (q:fH β):(fH.sl q).All 1 (λx=>[x.1]):=⟨rfl,λh=>h.1⟩
theorem Li {n m:Nat} {f:α->List Value} {g:γ->List Value} (h:r.All n f) (k:s.All m g):(r.pair s).All (n+m) (λx=>f x.1++g x.2):=⟨by show r.sz+s.sz=_;rw[h.1,k.1],by
 rintro w S e x ⟨c,d,rfl,a,b⟩;rw[h.2 a,k.2 b]⟩
theorem OW [cR P] [Inhabited α] {c:wN} {n:Sz} {B:Fr} {d:Option Tmp} {O:TypeId} {o:String} {k:Array Edge} {g:Option (Nat×Bool)} {T:TypeId} {N q m:Nat} {z:Value} {p:TypeDesc} {x:Operand} {v:Value} {i:Int} {e:List α} {cs:List Value} {f:α->List Value} (K:ev B x=some (DV v (i.toNat*q))) (G:aE M L (Sl r v e)) (y:r.All m f) (l:f (at' e i)=cs)
  (E:cR.tab P T=some ⟨p,cs.length,N,z⟩) (F:yN p=true) (H:m=q) (h:0<=i∧i<e.length):Y P c n B M L ⟨d,.load T x,O,o,k,g⟩ (.agg cs.toArray):=λa w s t=>by
 obtain⟨C,D⟩:=h;obtain⟨S,h⟩:=G.st t;obtain⟨Q,I,b⟩:=sl_cell h (lD C D);have:=y.2 I;subst this l;rw[y.1,H]at b;have:=Bp (w:=w) (A:=JP v (i.toNat*q)) (cs:=f (at' e i)) (cR.ok E) F Z (λj u J=>by rw[HX];exact b j u J);simp[execOp,s.eval K,DV,this]
end
end Go.Sx
namespace Go.Sx
open Go.RowKit
section
variable {P:Program} {c:wN} {n:Sz} {σ:Fr} {M L:List bD} {d:Option Tmp} {ty:TypeId} {pos:String} {aft:Array Edge} {g:Option (Nat×Bool)}
def acM (v:Value) (m:Nat):Prop:=∃a e,v = .slice a m e∧(m=0∨∃b f,a=some ⟨b,f,none⟩)
theorem Know.len {f:Type} {r:fH f} {v:Value} {xs:List f} (j:aE M L (Sl r v xs)):∀c w,St c M L w->acM v xs.length:=λc w t=>by
 obtain⟨S,i,cap,k,_,h⟩:=j.st t;exact⟨i,cap,k,h.imp (λh=>by simp[h]) fun⟨b,a,e,_⟩=>⟨b,a,e⟩⟩
theorem Df [cR P] {T E:TypeId} {B C k D m:Nat} {z F:Value} {o:TypeDesc} {x y:Operand} {v:Value} {i:Int} (u:ev σ x=some v) (A:ev σ y=some (.int .i64 i)) (f:acM v m)
  (s:cR.tab P T=some ⟨.slice E,B,C,z⟩) (r:cR.tab P E=some ⟨o,k,D,F⟩) (h:0<=i∧i<(m:Int)):Y P c n σ M L ⟨d,.indexAddr T x y,ty,pos,aft,g⟩ (DV v (i.toNat*k)):=λa w l t=>by
 obtain⟨G,e,rfl,f⟩:=f;obtain⟨p,q⟩:=h;rcases f with rfl|⟨b,j,rfl⟩
 ·omega
 ·simp[execOp,l.eval u,l.eval A,GW w (cR.ok s) Z (cR.ok r) b j _ e i p q]
theorem Iy [cR P] (i:Nat) {T j:TypeId} {H m o b:Nat} {z:Value} {q:TypeDesc} {x y:Operand} {cs e us:List Value} {u:Value} (E:ev σ x=some (.pointer (some ⟨b,o,none⟩))) (G:ev σ y=some u) (l:u.cells=us.toArray) (B:us.length=m)
  (r:us.all one=true) (p:M[i]? = some (bH b cs j)) (A:cR.tab P T=some ⟨q,m,H,z⟩) (C:Nat.ble (o+m) cs.length=true) (k:cs.take o++us++cs.drop (o+m)=e):
  aJ P c n σ M L ⟨none,.store T x y,ty,pos,aft,none⟩ (λ_:Unit=>undef) (λ_=>M.set i (bH b e j)) (λ_=>L):=λa w s t=>by
 subst B k;obtain⟨F,v⟩:=t.res p;have D:o+us.length<=cs.length:=by simpa using C
 have h:=run_storeCells_at P b o j us 0 cs.toArray w v.2 (by simp;omega) (λu l=>oJ (List.all_eq_true.1 r u l));simp only[Nat.add_zero]at h;have f:(execOp a.eval ⟨none,.store T x y,ty,pos,aft,none⟩).run P w = .ok .skip (w.setRow b (cs.take o++us++cs.drop (o+us.length)).toArray):=by
  simp[execOp,s.eval E,s.eval G,Instr.storeAt,Instr.sureAddr,storeVar,l,(cR.ok A).run_size w,h]
 simp only[Oper.wp,f,Oper.upon];exact⟨(),trivial,t.fill p⟩
theorem Jz {a:Type} [Inhabited a] (l:List a) (k:Int) (h:k.toNat<l.length) (b:0<=k):l.set k.toNat (at' l k)=l:=by
 have:=lD (xs:=l) b (by omega);refine List.ext_getElem? λi=> ?_;by_cases e:k.toNat=i
 ·subst e;rw[List.getElem?_set_self h,this]
 ·rw[List.getElem?_set_ne e]
theorem Db [cR P] {l:Type} [Inhabited l] {e:eK l} (j:Nat) {T:TypeId} {Q m o q:Nat} {z:Value} {C:TypeDesc} {x y:Operand} {u:Value} {us:List Value} {i k:Int} {vs:List Value} {b:List (List l)} (f:l) (A:0<=k∧k<b.length) (h:0<=i∧i<(at' b k).length) (N:ev σ x=some (DV (at' vs k) (i.toNat*q+o))) (O:ev σ y=some u)
  (v:M[j]? = some (k_ e vs b)) (I:e.sz=q) (K:u.cells=us.toArray) (G:us.length=m) (H:Nat.ble (o+m) q=true) (B:e.enc f=(e.enc (at' (at' b k) i)).take o++us++(e.enc (at' (at' b k) i)).drop (o+m)) (p:us.all one=true) (D:cR.tab P T=some ⟨C,m,Q,z⟩):
  aJ P c n σ M L ⟨none,.store T x y,ty,pos,aft,none⟩ (λ_:Unit=>undef) (λ_=>M.set j (k_ e vs (b.set k.toNat ((at' b k).set i.toNat f)))) (λ_=>L):=λa w s t=>by
 have U:=cY j v c w t;have F:j<M.length:=(List.getElem?_eq_some_iff.1 v).1;refine nG (λS R ⟨x,E,J⟩=>⟨x,E,?_⟩) (Hh 0 f h N O Z I K G H B p D a w s (MY j v A c w t));have r:=MU (j+1) 0 (u:=at' vs k) (k:=k) (vs:=vs) (xss:=b) (ys:=(at' b k).set i.toNat f) (e:=e) Z (by simp[F]) Z (by simpa using A) c R J;simp only[List.set_cons_zero,List.set_cons_succ,List.eraseIdx_cons_zero,List.set_set]at r;rw[Jz vs k (by omega) A.1]at r;exact r
end
theorem aY.ix {M a:List bD} (l:List Nat) (c:decide l.Nodup=true) (h:l.map (λi=>M[i]?)=a.map some):aY M a:=by
 have c:l.Nodup:=of_decide_eq_true c;have k:l.length=a.length:=by simpa using congrArg List.length h
 refine⟨λi=>l.getD i 0,λi j b n e=> ?_,λi m d=> ?_⟩
 ·have f:i<l.length:=by omega
  have g:j<l.length:=by omega
  simp only[List.getD_eq_getElem?_getD,List.getElem?_eq_getElem f,List.getElem?_eq_getElem g,Option.getD_some]at e;exact(List.getElem_inj c).1 e
 ·have b:i<l.length:=by rw[k];exact(List.getElem?_eq_some_iff.1 d).1
  have:=congrArg (λq=>q[i]?) h;simp only[List.getElem?_map,List.getElem?_eq_getElem b,d,Option.map_some,Option.some.injEq]at this;simpa [List.getD_eq_getElem?_getD,List.getElem?_eq_getElem b]using this
def eK.fn:eK Nat:=⟨1,Nat.one_pos,λf=>[.func (.func f) #[] #[]],λ_=>rfl⟩
def fH.fn:fH Nat:=⟨1,Nat.one_pos,λ_ _ cs x=>cs=[.func (.func x) #[] #[]],λh=>by simp[h],λh _=>h⟩
theorem Mz:eK.fn.Fits fH.fn:=⟨rfl,λh=>h,rfl,λ_=>rfl⟩
section
variable {P:Program} {rd:Option Nat} {c:wN} {n:Sz} {σ:Fr} {M L:List bD} {Q:Exit->Act->World->Prop} {ops:Array Oper} {rest:List Oper} {d:Nat} {ty:TypeId} {pos:String} {aft:Array Edge} {x y:Operand} {v:Value} {K:Act->World->Prop}
abbrev vS (x:ByteArray):Value:= .string x
abbrev vB (x:Bool):Value:= .bool x
theorem dK {a:Type} {p G:Prop} {_:Decidable p} {u:Option a} {r:a} (h:ck p u=some r) (k:p->u=some r->G):G:=k (Lu h).1 (Lu h).2
theorem eL {a b:Type} {G:Prop} {u:Option a} {f:a->Option b} {r:b} (h:u.bind f=some r) (k:∀y,u=some y->f y=some r->G):G:=by
  obtain⟨y,e,g⟩:=bnd h;exact k y e g
theorem lJ (l:List Nat) {a:List bD} (h:l.map (L[·]?)=a.map some):aD M L a:=λf b=>by
  have g:some f∈l.map (L[·]?):=h▸List.mem_map_of_mem b;obtain⟨j,_,e⟩:=List.mem_map.1 g;exact aE.fact j e
theorem Ap.ix (l:List Nat) {a:List bD} (h:l.map (L[·]?)=a.map some):Ap L a:=λf b=>by
  have g:some f∈l.map (L[·]?):=h▸List.mem_map_of_mem b;obtain⟨j,_,e⟩:=List.mem_map.1 g;exact List.mem_of_getElem? e
theorem h_ {f:bD} (i:Nat) (h:L[i]? = some f):Ap L [f]:=Ap.cons (List.mem_of_getElem? h) Ap.nil
/-- which of the early loads must still hold,with the numbers of what they have read -/
def bsW (A:Nat->Bool):List (List Nat×List Nat)->List (Nat×List bD×List bD)->List (List Nat×List Nat×List bD×List bD)
  |_,[]=>[]
  |q,(j,Mx,Lx)::B=>bif A j||(Mx.isEmpty&&Lx.isEmpty)then bsW A q B else((q.headD ([],[])).1,(q.headD ([],[])).2,Mx,Lx)::bsW A q.tail B
theorem jV {A:Nat->Bool} (q:List (List Nat×List Nat)) {B:List (Nat×List bD×List bD)} (h:(bsW A q B).map (λz=>(decide z.1.Nodup,z.1.map (M[·]?),z.2.1.map (L[·]?)))=(bsW A q B).map (λz=>(true,z.2.2.1.map some,z.2.2.2.map some))):Bv A M L B:=by
  induction B generalizing q with
  |nil=>exact Bv.z
  | cons b B ih =>
    obtain⟨j,k,i⟩:=b;cases a:A j with
    |true=>exact Bv.b a (ih q (by simpa [bsW,a]using h))
    | false =>
      cases g:(k.isEmpty&&i.isEmpty)with
      | true =>
        obtain⟨e,f⟩:=Bool.and_eq_true_iff.1 g;rw[List.isEmpty_iff]at e f;subst e;subst f;exact Bv.h aY.nil Ap.nil (ih q (by simpa [bsW,a]using h))
      | false =>
        simp only[bsW,a,g,Bool.or_self,cond_false,List.map_cons,List.cons.injEq,Prod.mk.injEq]at h;exact Bv.h (aY.ix _ h.1.1 h.1.2.1) (Ap.ix _ h.1.2.2) (ih q.tail h.2)
def hkB (A:Nat->Bool):List (Nat×List bD×List bD)->Bool
  | []=>true
  |(j,_,_)::H=>bif A j then hkB A H else false
theorem Bl {A:Nat->Bool} {f e:List bD} {H:List (Nat×List bD×List bD)} (h:hkB A H=true):aN A f e H:=by
  induction H with
  |nil=>exact aN.z
  | cons b B ih =>
    obtain⟨j,_,_⟩:=b;cases a:A j with
    |false=>simp[hkB,a]at h
    |true=>exact aN.b a (ih (by simpa [hkB,a]using h))
theorem hkN {A:Nat->Bool} {H:List (Nat×List bD×List bD)}:aN A [] [] H:=by
  induction H with
  |nil=>exact aN.z
  |cons b B a=>exact aN.h aY.nil Ap.nil a
theorem dU {T:Operand} (h:(ev σ T,ev σ x,Nat.blt d n.sz)=(some (.bool true),some v,true)) (k:J c n ((d,v)::σ) M L (wpList P ops Q rest)):J c n σ M L (wpList P ops Q (⟨some d,.pick T x y,ty,pos,aft,none⟩::rest)):=by
  simp only[Prod.mk.injEq]at h;exact aB (HV h.1 h.2.1) h.2.2 k
theorem e_ {T:Operand} (h:(ev σ T,ev σ y,Nat.blt d n.sz)=(some (.bool false),some v,true)) (k:J c n ((d,v)::σ) M L (wpList P ops Q rest)):J c n σ M L (wpList P ops Q (⟨some d,.pick T x y,ty,pos,aft,none⟩::rest)):=by
  simp only[Prod.mk.injEq]at h;exact aB (HU h.1 h.2.1) h.2.2 k
theorem iG {vs:List Value} {i:Nat} (h:(ev σ x,vs[i]?,Nat.blt d n.sz)=(some (.tuple vs.toArray),some v,true)) (k:J c n ((d,v)::σ) M L (wpList P ops Q rest)):J c n σ M L (wpList P ops Q (⟨some d,.extract x i,ty,pos,aft,none⟩::rest)):=by
  simp only[Prod.mk.injEq]at h;exact aB (gA h.1 h.2.1) h.2.2 k
theorem oT {t a:TypeId} {i:IntKind} {p q:Int} (h:(ev σ x,ev σ y,Nat.blt d n.sz)=(some (.int i p),some (.int i q),true)) (k:J c n ((d,.bool (decide (p≠q)))::σ) M L (wpList P ops Q rest)):J c n σ M L (wpList P ops Q (⟨some d,.binOp .neq t x y a,ty,pos,aft,none⟩::rest)):=by
  simp only[Prod.mk.injEq]at h;exact aB (Bh h.1 h.2.1) h.2.2 k
theorem Ak {t a:TypeId} {i:IntKind} {p q:Int} (h:(ev σ x,ev σ y,Nat.blt d n.sz)=(some (.int i p),some (.int i q),true)) (k:J c n ((d,.int i (eO i p q))::σ) M L (wpList P ops Q rest)):J c n σ M L (wpList P ops Q (⟨some d,.binOp .and t x y a,ty,pos,aft,none⟩::rest)):=by
  simp only[Prod.mk.injEq]at h;exact aB (Qe h.1 h.2.1) h.2.2 k
theorem iH [cR P] {b:Type} {r:fH b} {T E:TypeId} {f g:Nat} {z:Value} {a:List b} (e:aE M L (Sl r v a)) (h:(ev σ x,cR.tab P T,Nat.blt d n.sz)=(some v,some ⟨.slice E,f,g,z⟩,true)) (k:J c n ((d,.int .i64 a.length)::σ) M L (wpList P ops Q rest)):J c n σ M L (wpList P ops Q (⟨some d,.call ⟨.builtin .len,#[x],#[T]⟩,ty,pos,aft,none⟩::rest)):=by
  simp only[Prod.mk.injEq]at h;exact aB (fG h.1 e h.2.1) h.2.2 k
variable {l:List Oper} {m:List Nat} {k0:Nat} {H Bs:List (Nat×List bD×List bD)} {rs:List Nat}
theorem fY {i a:Nat} {b:Op} (f:l[i]? = some ⟨some a,b,ty,pos,aft,none⟩) (k:Y P c n σ [] [] ⟨some a,b,ty,pos,aft,none⟩ v)
    (h:JR c n ((a,v)::σ) M L H ((i,[],[])::Bs) (RW P l.toArray Q (before m) (cX l) k0 rs))
    (g:Nat.blt i k0=true:=by exact rfl) (j:eJ b=false:=by exact rfl) (e:Nat.blt a n.sz=true:=by exact rfl):JR c n σ M L H Bs (RW P l.toArray Q (before m) (cX l) k0 (i::rs)):=bI f aY.nil Ap.nil k hkN h g j e
end
end Go.Sx
namespace Go.Sx
abbrev aT:=List Int
abbrev b_:=List (Int×Int)
abbrev bW:=List aT
abbrev gH:=List b_
abbrev Hb:=(ByteArray×(List (ByteArray×Int×Int×Int×Int×Int))×(List (ByteArray×(Value×b_)×(Value×List (Int×(Value×b_))))))×((ByteArray×(List (ByteArray×Int×Int×Int×Int×Int))×(List (ByteArray×(Value×b_)×(Value×List (Int×(Value×b_))))))×(aT×gH)×Int×bW)×gH
abbrev Ca:=ByteArray×(List (ByteArray×Int×Int×Int×Int×Int))×(List (ByteArray×(Value×b_)×(Value×List (Int×(Value×b_)))))
abbrev Mq:=((ByteArray×(List (ByteArray×Int×Int×Int×Int×Int))×(List (ByteArray×(Value×b_)×(Value×List (Int×(Value×b_))))))×(aT×gH)×Int×bW)×bW×Int×b_
abbrev cB:=aT×gH
abbrev CM:=((aT×aT×bW×(Int×Int×Int×Int×Int))×Int)
abbrev Te:=(ByteArray×(List (ByteArray×Int×Int×Int×Int×Int))×(List (ByteArray×(Value×b_)×(Value×List (Int×(Value×b_))))))×(aT×gH)×Int×bW
abbrev mH:=List (Value×b_)
abbrev Zc:=(((ByteArray×(List (ByteArray×Int×Int×Int×Int×Int))×(List (ByteArray×(Value×b_)×(Value×List (Int×(Value×b_))))))×(aT×gH)×Int×bW)×bW×Int×b_)
abbrev CZ:=Int×aT×aT×aT×Bool×Bool
abbrev wL:=List (Value×aT)
abbrev eD:=Int×Int
abbrev DI:=ByteArray×Int×Int×Int×Int×Int
abbrev Hx:=Int×Int×Int×Int×Int×Int×aT×aT×bW
abbrev iO:=(Int×Int)
abbrev iP:=List Value
abbrev Hy:=List (ByteArray×Int×Int×Int×Int×Int)
abbrev tO:=((aT×gH))
abbrev Hz:=Int×(List ((Int×Int)×Int))
abbrev EH:=Int×Int×Int×Int×Int
abbrev Wm:=(ByteArray×List (ByteArray×Int×Int×Int×Int×Int)×List (b_×List (Int×b_)))
abbrev KP:=(Int×(List ((Int×Int)×Int)))
abbrev pY:=List Nat
abbrev Cb:=(aT×gH)
abbrev Of:=List (b_×List (Int×b_))
abbrev Rx:=(ByteArray×Int×Int×Int×Int×Int)
abbrev Bu:=Int×aT
abbrev lS:Value:=Value.slice none 0 0
abbrev EI:List Value:=[lS,lS,lS,vI (0:Int),vI (0:Int),vI (0:Int),vI (0:Int),vU (0:Int)]
abbrev ZC:List Value:=[vI (0:Int),vI (0:Int),vI (0:Int),vI (0:Int),vU (0:Int)]
abbrev Ms:List Value:=[vI (0:Int),vI (0:Int)]
abbrev vD3:List Value:=[Value.pointer none,lS,vI (0:Int),vU (0:Int),Value.nilFunc]
abbrev vD4:List Value:=[vS (ByteArray.mk #[]),vI (0:Int),vI (0:Int),vI (0:Int),vI (0:Int),vI (0:Int)]
end Go.Sx
namespace Go.Proofs.YtjkjpdonlpdcaaaGreatDoor
open Go.Sx
def WJ:aT:=[0,1,1,2,1,2,2,3,1,2,2,3,2,3,3,4,1,2,2,3,2,3,3,4,2,3,3,4,3,4,4,5,1,2,2,3,2,3,3,4,2,3,3,4,3,4,4,5,2,3,3,4,3,4,4,5,3,4,4,5,4,5,5,6,1,2,2,3,2,3,3,4,2,3,3,4,3,4,4,5,2,3,3,4,3,4,4,5,3,4,4,5,4,5,5,6,2,3,3,4,3,4,4,5,3,4,4,5,4,5,5,6,3,4,4,5,4,5,5,6,4,5,5,6,5,6,6,7,1,2,2,3,2,3,3,4,2,3,3,4,3,4,4,5,2,3,3,4,3,4,4,5,3,4,4,5,4,5,5,6,2,3,3,4,3,4,4,5,3,4,4,5,4,5,5,6,3,4,4,5,4,5,5,6,4,5,5,6,5,6,6,7,2,3,3,4,3,4,4,5,3,4,4,5,4,5,5,6,3,4,4,5,4,5,5,6,4,5,5,6,5,6,6,7,3,4,4,5,4,5,5,6,4,5,5,6,5,6,6,7,4,5,5,6,5,6,6,7,5,6,6,7,6,7,7,8]
theorem Lt:IN (ByteArray.mk #[0,1,1,2,1,2,2,3,1,2,2,3,2,3,3,4,1,2,2,3,2,3,3,4,2,3,3,4,3,4,4,5,1,2,2,3,2,3,3,4,2,3,3,4,3,4,4,5,2,3,3,4,3,4,4,5,3,4,4,5,4,5,5,6,1,2,2,3,2,3,3,4,2,3,3,4,3,4,4,5,2,3,3,4,3,4,4,5,3,4,4,5,4,5,5,6,2,3,3,4,3,4,4,5,3,4,4,5,4,5,5,6,3,4,4,5,4,5,5,6,4,5,5,6,5,6,6,7,1,2,2,3,2,3,3,4,2,3,3,4,3,4,4,5,2,3,3,4,3,4,4,5,3,4,4,5,4,5,5,6,2,3,3,4,3,4,4,5,3,4,4,5,4,5,5,6,3,4,4,5,4,5,5,6,4,5,5,6,5,6,6,7,2,3,3,4,3,4,4,5,3,4,4,5,4,5,5,6,3,4,4,5,4,5,5,6,4,5,5,6,5,6,6,7,3,4,4,5,4,5,5,6,4,5,5,6,5,6,6,7,4,5,5,6,5,6,6,7,5,6,6,7,6,7,7,8])=WJ:=by kernel_rfl
def Ae:aT:=[0,1,28,2,29,14,24,3,30,22,20,15,25,17,4,8,31,27,13,23,21,19,16,7,26,12,18,6,11,5,10,9]
theorem _root_.Go.Sx.Y.bld5 {P:Program} {c:wN} {n:Sz} {a:Fr} {M L:List bD} {d:Option Tmp} {E:TypeId} {k:String} {j:Array Edge} {g:Option (Nat×Bool)} {T:TypeId} {b e f h i:Nat} {s t u v x:Operand} {l m o p q:Value} {r:Value} (y:ev a s=some l) (z:ev a t=some m) (A:ev a u=some o) (B:ev a v=some p) (C:ev a x=some q) (D:∀w,(Instr.build T ([(b,l),(e,m),(f,o),(h,p),(i,q)]:List (Nat×Value)).toArray).run P w = .ok r w):Y P c n a M L ⟨d,.build T #[(b,s),(e,t),(f,u),(h,v),(i,x)],E,k,j,g⟩ r:=
 Ay (ps:=[(b,s),(e,t),(f,u),(h,v),(i,x)]) (vs:=[(b,l),(e,m),(f,o),(h,p),(i,q)]) (by simp[y,z,A,B,C]) D
abbrev ESt:eK ByteArray:=⟨1,Nat.one_pos,λx=>[.string x],λ_=>rfl⟩
abbrev RSt:fH ByteArray:=⟨1,Nat.one_pos,λ_ _ a x=>a=[.string x],λh=>by simp[h],λh _=>h⟩
theorem FSt:ESt.Fits RSt:=⟨rfl,λh=>h,rfl,λ_=>rfl⟩
abbrev cM:eK Int:=eK.int .i64
abbrev bN:fH Int:=fH.int .i64
theorem cU:cM.Fits bN:=Fo .i64
theorem cS:bN.Cell 0 (λx=> .int .i64 x):=Fu .i64
abbrev tP:eK Rx:=eK.pair ESt (eK.pair cM (eK.pair cM (eK.pair cM (eK.pair cM (cM)))))
abbrev aW:fH Rx:=fH.pair RSt (fH.pair bN (fH.pair bN (fH.pair bN (fH.pair bN (bN)))))
theorem fJ:tP.Fits aW:=oK FSt (oK cU (oK cU (oK cU (oK cU (cU)))))
theorem yG:aW.Cell 1 (λx=> .int .i64 x.2.1):=cZ (pF (cS))
theorem CU:aW.Cell 2 (λx=> .int .i64 x.2.2.1):=cZ (cZ (pF (cS)))
theorem CV:aW.Cell 3 (λx=> .int .i64 x.2.2.2.1):=cZ (cZ (cZ (pF (cS))))
theorem CW:aW.Cell 4 (λx=> .int .i64 x.2.2.2.2.1):=cZ (cZ (cZ (cZ (pF (cS)))))
theorem CX:aW.Cell 5 (λx=> .int .i64 x.2.2.2.2.2):=cZ (cZ (cZ (cZ (cZ (cS)))))
abbrev bS:eK iO:=eK.pair cM (cM)
abbrev aO:fH iO:=fH.pair bN (bN)
theorem bB:bS.Fits aO:=oK cU (cU)
theorem oM:aO.Cell 0 (λx=> .int .i64 x.1):=pF (cS)
theorem Ch:aO.Cell 1 (λx=> .int .i64 x.2):=cZ (cS)
abbrev rH:fH (Int×(Value×b_)):=fH.pair bN ((fH.sl aO))
theorem JQ:rH.All 2 (λx=>[Value.int .i64 (x.1),x.2.1]):=(Li (OS cU) (OT aO))
theorem CO:rH.Deep aO (λx=>x.2):=DO (Dc aO)
abbrev aM:fH (ByteArray×(Value×b_)×(Value×List (Int×(Value×b_)))):=fH.pair RSt (fH.pair (fH.sl aO) ((fH.sl rH)))
theorem Am:aM.Cell 1 (λx=>x.2.1.1):=cZ (pF (fH.sl_cell aO))
theorem Ao:aM.Deep aO (λx=>x.2.1):=DO (RX (Dc aO))
theorem An:aM.Cell 2 (λx=>x.2.2.1):=cZ (cZ (fH.sl_cell rH))
theorem gJ:aM.Deep rH (λx=>x.2.2):=DO (DO (Dc rH))
abbrev EFn:eK Nat:=eK.fn
abbrev RFn:fH Nat:=fH.fn
theorem FFn:EFn.Fits RFn:=Mz
abbrev HO:eK (Int×Nat):=eK.pair cM (EFn)
abbrev WY:fH (Int×Nat):=fH.pair bN (RFn)
theorem Bb:HO.Fits WY:=oK cU (FFn)
abbrev EBo:eK Bool:=eK.bool
abbrev kF:eK Int:=eK.int .u32
abbrev Ci:fH Int:=fH.int .u32
theorem lX:kF.Fits Ci:=Fo .u32
theorem Gr:Ci.Cell 0 (λx=> .int .u32 x):=Fu .u32
abbrev JO:eK Int:=eK.int .u8
def Oj (x:Int):Value:=Value.int .i64 (x)
def nN (x:eD):Value:=Value.agg #[Value.int .i64 (x.1),Value.int .i64 (x.2)]
theorem YA (x y:eD) (m:Nat) (w:World):(Op.equalIn (m+2) 53 (.agg #[.int .i64 x.1,.int .i64 x.2]) (.agg #[.int .i64 y.1,.int .i64 y.2])).run Tryz.prog w = .ok (decide (x=y)) w:=by
 have c:∀a b:Int,(Op.equalIn (m+1) 3 (.int .i64 a) (.int .i64 b)).run Tryz.prog w = .ok (a==b) w:=by
  intro a b;simp[Op.equalIn]
 unfold Op.equalIn;simp[show List.range' 0 2=[0,1]from rfl,part,isAgg,c];obtain⟨d,e⟩:=x;obtain⟨f,g⟩:=y;by_cases h:d=f<;>by_cases i:e=g<;>simp[h,i,c]
theorem Yb (b:Bool) (k:eD) (w:World):(Instr.checkKey b 10000 53 (nN k)).run Tryz.prog w = .ok () w:=by
 have a:∀m:Nat,(Instr.checkKey b (m+2) 53 (nN k)).run Tryz.prog w = .ok () w:=by
  intro m;simp[Instr.checkKey,nN,part,isAgg,show List.range' 0 2=[0,1]from rfl]
 exact a 9998
theorem Pv:Iw Tryz.prog 53 nN:=ON Tryz.underlying53 Yb (λ_ _=>rfl) (λa b w=>YA a b 9998 w) (λk=>by
 have c:∀m:Nat,Instr.sameBits (m+2) (nN k) (nN k)=true:=λm=>by simp[Instr.sameBits,nN]
 exact c 9998)
theorem pP (b:Value) (c:one b=true) (a:Array Value) (h:a.size=1*1):Instr.fill (λi=>some (i*1,1)) a [(0,b)]=some [b].toArray:=by
 obtain⟨l⟩:=a
 match l,h with
 | [z0],_=>simp[Instr.fill,iL c]
theorem zP (b c:Value) (a:Array Value) (h:a.size=1*2):Instr.fill (λi=>some (i*2,2)) a [(0,.agg #[b,c])]=some [b,c].toArray:=by
 obtain⟨l⟩:=a
 match l,h with
 | [z0,z1],_=>simp[Instr.fill,Value.cells]
theorem UV (b c:Value) (d:one b=true) (e:one c=true) (a:Array Value) (h:a.size=2*1):Instr.fill (λi=>some (i*1,1)) a [(0,b),(1,c)]=some [b,c].toArray:=by
 obtain⟨l⟩:=a
 match l,h with
 | [z0,z1],_=>simp[Instr.fill,iL d,iL e]
theorem Ns (b c d:Value) (e:one b=true) (f:one c=true) (g:one d=true) (a:Array Value) (h:a.size=3*1):Instr.fill (λi=>some (i*1,1)) a [(0,b),(1,c),(2,d)]=some [b,c,d].toArray:=by
 obtain⟨l⟩:=a
 match l,h with
 | [z0,z1,z2],_=>simp[Instr.fill,iL e,iL f,iL g]
theorem UW (b c d e f g:Value) (a:Array Value) (h:a.size=3*2):Instr.fill (λi=>some (i*2,2)) a [(0,.agg #[b,c]),(1,.agg #[d,e]),(2,.agg #[f,g])]=some [b,c,d,e,f,g].toArray:=by
 obtain⟨l⟩:=a
 match l,h with
 | [z0,z1,z2,z3,z4,z5],_=>simp[Instr.fill,Value.cells]
theorem UX (m n o p q r s t u v b c d e f g j k:Value) (a:Array Value) (h:a.size=3*6):Instr.fill (λi=>some (i*6,6)) a [(0,.agg #[m,n,o,p,q,r]),(1,.agg #[s,t,u,v,b,c]),(2,.agg #[d,e,f,g,j,k])]=some [m,n,o,p,q,r,s,t,u,v,b,c,d,e,f,g,j,k].toArray:=by
 obtain⟨l⟩:=a
 match l,h with
 | [z0,z1,z2,z3,z4,z5,z6,z7,z8,z9,z10,z11,z12,z13,z14,z15,z16,z17],_=>simp[Instr.fill,Value.cells]
def zK (a:Int) (b:Bool):Option (Int):=
 if b=true then(some (-1:Int))else(if a<=(17:Int)then(some (0:Int))else(if a<=(29:Int)then(some (1:Int))else(if a<=(42:Int)then(some (2:Int))else(some (3:Int)))))
def xW (U:Nat) (a:Int):Option (Int):=
 if a<(1:Int)then(zK a (true))else(zK a (decide ((43:Int)<a)))
theorem XQ:aQ Tryz.prog 272:=Tryz.call272
theorem Mn (U:Nat) {b:Int} (r:Int) (h:xW U b=some r):
  bA Tryz.prog 272 #[vI (b)] [] (λx:Unit=>vI (r)) (λx l=>l) (λ_ l=>l):=by
 refine bA.of Tryz.func272 Z Tryz.ntmps272 Z λc=>?_;refine aS<|aC Z<|aK<|aI<|aU<|aI<|d_ (λa=>zK b a=some r) (λa d=>[(0,vI (b)),(3,vB (a))]) (λa d=>[]) ?_ ?_
 ·refine aR<|aA Z<|cP Z<|aA Z ?_;refine Cd h Z (λ_ h=>?_) λ_ h=>?_
  ·refine aL Z<|aL Z<|dU Z<|aC Z<|aK ?_;exact iI (true) () h SF Z
  refine eS Z<|aV Z (Ah Z Z) Z<|e_ Z<|aC Z<|aK ?_;exact iI (decide ((43:Int)<b)) () h SF Z
 intro a d h;refine yC h Z (λ_ h=>?_) λ_ h=>?_
 ·refine aS<|aC Z<|aK<|aP<|bO<|aH ?_;cases h;exact kM Z
 refine aS<|aA Z<|aB (BO Z Z) Z<|aC Z<|aK ?_;refine eZ h Z (λh=>?_) λh=>?_
 ·refine aS<|aC Z<|aK<|aP<|bO<|aH ?_;cases h;exact kM Z
 refine aS<|aA Z<|aB (BO Z Z) Z<|aC Z<|aK ?_;refine eZ h Z (λh=>?_) λh=>?_
 ·refine aS<|aC Z<|aK<|aP<|bO<|aH ?_;cases h;exact kM Z
 refine aS<|aA Z<|aB (BO Z Z) Z<|aC Z<|aK ?_;refine eZ h Z (λh=>?_) λh=>?_
 ·refine aS<|aC Z<|aK<|aP<|bO<|aH ?_;cases h;exact kM Z
 refine dJ<|mP<|aS<|aC Z<|aK<|aP ?_;cases h;exact kM Z
def DG  (a:Unit):Option (Int):=
 some (-1:Int)
def lH (U:Nat) (d:b_) (a:eD) (c:iO->Option (Int)):Option (Int):=
 if a.1<(List.length d:Int)then(ck (0<=a.1∧a.1<(List.length d:Int)) (Option.bind (xW U ((at' d a.1).1)) λb=>(if b<(0:Int)then(some (-1:Int))else(if(wI .i64 (a.2+(wI .i64 (b - (1:Int)))))=(0:Int)then(some (wI .i64 (a.1+(1:Int))))else(c ((wI .i64 (a.1+(1:Int))),(wI .i64 (a.2+(wI .i64 (b - (1:Int)))))))))))else(DG  (()))
def Bt (U:Nat) (b:b_) (c:Int) (a:Bool):Option (Int):=
 if a=true then(some (-1:Int))else(bP (lH U b) U (c,(1:Int)))
def Cy (U:Nat) (b:b_) (a:Int):Option (Int):=
 if a<(0:Int)then(Bt U b a (true))else(Bt U b a (decide ((List.length b:Int)<=a)))
theorem XP:aQ Tryz.prog 259:=Tryz.call259
theorem PR (U:Nat) {g:b_} {b:Int} (k:Value) (r:Int) (h:Cy U g b=some r):
  bA Tryz.prog 259 #[k,vI (b)] [Sl aO k g] (λx:Unit=>vI (r)) (λx l=>l) (λ_ l=>l):=by
 refine bA.of Tryz.func259 Z Tryz.ntmps259 Z λc=>?_;refine aS<|aC Z<|aK<|aI<|aI<|d_ (λd=>Bt U g b d=some r) (λd n=>[(0,k),(1,vI (b)),(14,vB (d))]) (λd n=>[]) ?_ ?_
 ·refine aR<|aA Z<|cP Z<|aA Z ?_;refine Cd h Z (λ_ h=>?_) λ_ h=>?_
  ·refine aL Z<|aL Z<|aL Z<|aL Z<|dU Z<|aK ?_;exact iI (true) () h SF Z
  refine eS Z<|eS Z<|aV Z (fG Z (aE.fact 0 Z) Z) Z<|aV Z (wP Z Z) Z<|e_ Z<|aK ?_;exact iI (decide ((List.length g:Int)<=b)) () h SF Z
 intro d n h;refine yC h Z (λ_ h=>?_) λ_ h=>?_
 ·refine aS<|aC Z<|aK<|aP<|aH ?_;cases h;exact kM Z
 refine cE<|aI<|d_ (λj=>DG  j=some r) (λj o=>[]) (λj o=>[]) ?_ ?_
 ·refine aS<|aC Z<|aK<|aU<|eH (lH U g) (λa e=>[(0,k),(1,vI (a.1)),(5,vI (a.2))]) (λa e=>[]) (b,(1:Int)) () h SF (aY.refl _) ?_;intro p a e h;refine aI<|aS<|aA Z<|aA Z<|iH (aE.fact 0 Z) Z<|cP Z<|aK ?_;refine eZ h Z (λh=>?_) λh=>?_
  ·refine cE<|aI<|aU<|aS<|aA Z<|aA Z<|dK h λf h=>aB (aZ Z Z (aE.fact 0 Z) Z Z f) Z<|aB (mC Z Z Z Z Z) Z<|aB (jK Z (aE.fact 0 Z) Z Z Z oM f) Z<|eL h λi m h=>aG (aJ.callQ XQ (Mn U  i m) Z .nil) Z λq=>aC Z<|aK<|aI<|aS<|aA Z<|cP Z<|aK ?_;refine eZ h Z (λh=>?_) λh=>?_
   ·refine aS<|aC Z<|aK<|aP<|aH<|bO<|aH<|aH<|bO<|aH ?_;cases h;exact kM Z
   refine cE<|aS<|aA Z<|aA Z<|aB (mJ Z Z) Z<|cO Z<|aC Z<|aK<|aS<|aA Z<|cC Z<|aK ?_;refine eZ h Z (λh=>?_) λh=>?_
   ·refine aS<|aA Z<|cO Z<|aC Z<|aK<|aP<|bO<|aH<|aH<|bO<|aH ?_;cases h;exact kM Z
   refine dJ<|mP<|aR<|aA Z<|cO Z<|aC Z<|aK ?_;exact Ai ((wI .i64 (a.1+(1:Int))),(wI .i64 (a.2+(wI .i64 (i - (1:Int)))))) () h SF Z
  refine fE ?_;exact iI () (()) h SF Z
 intro j o h;unfold DG at h;refine aS<|aC Z<|aK<|aP ?_;cases h;exact kM Z
def iS (U:Nat) (a:Bool):Option (Int):=
 if a=true then(some (1:Int))else(some (0:Int))
theorem yY:aQ Tryz.prog 290:=Tryz.call290
theorem lA (U:Nat) {a:Bool} (r:Int) (h:iS U a=some r):
  bA Tryz.prog 290 #[vB (a)] [] (λx:Unit=>vI (r)) (λx l=>l) (λ_ l=>l):=by
 refine bA.of Tryz.func290 Z Tryz.ntmps290 Z λc=>?_;refine aS<|aC Z<|aK<|aI<|aS<|aA Z<|aK ?_;refine yC h Z (λ_ h=>?_) λ_ h=>?_
 ·refine aS<|aC Z<|aK<|aP<|aH ?_;cases h;exact kM Z
 refine cE<|aS<|aC Z<|aK<|aP ?_;cases h;exact kM Z
def sM (U:Nat) (a:Te) (d:Int) (b:Int) (c:Int):Option (Int):=
 if d=(6:Int)then(some (List.length a.2.1.1:Int))else(if d=(7:Int)then(some (a.2.2.1))else(if d=(8:Int)then(ck (0<=b∧b<(List.length a.2.1.1:Int)) (some (at' a.2.1.1 b)))else(if d=(9:Int)then(ck (0<=b∧b<(List.length a.2.1.2:Int)) (some (List.length (at' a.2.1.2 b):Int)))else(if d=(10:Int)then(Option.bind (iS U (decide (b=(0:Int)))) λf=>(some (f)))else(if d=(11:Int)then(some (c))else(ck (0<=b∧b<(List.length a.2.1.2:Int)) (ck (0<=c∧c<(List.length (at' a.2.1.2 b):Int)) (if d=(13:Int)then(ck (0<=((at' (at' a.2.1.2 b) c).1)∧((at' (at' a.2.1.2 b) c).1)<(List.length a.2.1.1:Int)) (some (at' a.2.1.1 ((at' (at' a.2.1.2 b) c).1))))else(if d=(14:Int)then(ck (0<=((at' (at' a.2.1.2 b) c).1)∧((at' (at' a.2.1.2 b) c).1)<(List.length a.2.1.2:Int)) (some (List.length (at' a.2.1.2 ((at' (at' a.2.1.2 b) c).1)):Int)))else(if d=(15:Int)then(Option.bind (iS U (decide (((at' (at' a.2.1.2 b) c).1)=(0:Int)))) λe=>(some (e)))else(if d=(16:Int)then(some ((at' (at' a.2.1.2 b) c).2))else(ck (0<=b∧b<(List.length a.2.2.2:Int)) (ck (0<=c∧c<(List.length (at' a.2.2.2 b):Int)) (some (at' (at' a.2.2.2 b) c)))))))))))))))
theorem XU:aQ Tryz.prog 289:=Tryz.call289
theorem Dr (U:Nat) {d:Te} {s:Int} {f:Int} {g:Int} (i:Nat)  (t:Value)  (u:Value)  (v:Value)  (w:Value)  (F:mH)  (y:Value)  (G:wL) (r:Int) (h:sM U d s f g=some r):
  bA Tryz.prog 289 #[vP i,vI (s),vI (f),vI (g)] [bH i [vS (d.1.1),t,u,v,w,vI (d.2.2.1),y] 212,Sl aW t d.1.2.1,Sl aM u d.1.2.2,Sl bN v d.2.1.1,S2 aO w F d.2.1.2,S2 bN y G d.2.2.2] (λx:Unit=>vI (r)) (λx l=>l) (λ_ l=>l):=by
 refine bA.of Tryz.func289 Z Tryz.ntmps289 Z λc=>?_;refine aS<|aC Z<|aK<|aI<|aS<|aA Z<|aK<|aU<|aS<|cC Z<|aC Z<|aK ?_;refine eZ h Z (λh=>?_) λh=>?_
 ·refine aS<|aA Z<|aB (bZ Z) Z<|bX Z<|bX Z<|aB (dC Z (aE.fact 0 Z) Z Z Z) Z<|iH (aE.fact 3 Z) Z<|aC Z<|aK<|aP<|bO<|aH ?_;cases h;exact kM Z
 refine aS<|cC Z<|aC Z<|aK ?_;refine eZ h Z (λh=>?_) λh=>?_
 ·refine aS<|aA Z<|aB (bZ Z) Z<|bX Z<|aB (dC Z (aE.fact 0 Z) Z Z Z) Z<|aC Z<|aK<|aP<|bO<|aH ?_;cases h;exact kM Z
 refine aS<|cC Z<|aC Z<|aK ?_;refine eZ h Z (λh=>?_) λh=>?_
 ·refine aS<|aA Z<|aB (bZ Z) Z<|bX Z<|bX Z<|aB (dC Z (aE.fact 0 Z) Z Z Z) Z<|aA Z<|dK h λq h=>aB (aZ Z Z (aE.fact 3 Z) Z Z q) Z<|aB (bU Z (aE.fact 3 Z) Z Z Z cS q) Z<|aC Z<|aK<|aP<|bO<|aH ?_;cases h;exact kM Z
 refine aS<|cC Z<|aC Z<|aK ?_;refine eZ h Z (λh=>?_) λh=>?_
 ·refine aS<|aA Z<|aB (bZ Z) Z<|bX Z<|bX Z<|aB (dC Z (aE.fact 0 Z) Z Z Z) Z<|aA Z<|dK h λn h=>aB (cQ Z Z (aE.fact 4 Z) Z Z n) Z<|aB (cL Z (aE.fact 4 Z) Z Z n) Z<|aB (fG Z (aE.el (aE.fact 4 Z) n.1 n.2) Z) Z<|aC Z<|aK<|aP<|bO<|aH ?_;cases h;exact kM Z
 refine aS<|cC Z<|aC Z<|aK ?_;refine eZ h Z (λh=>?_) λh=>?_
 ·refine aS<|aA Z<|cC Z<|eL h λB C h=>aG (aJ.callQ yY (lA U  B C) Z .nil) Z λD=>aC Z<|aK<|aP<|bO<|aH ?_;cases h;exact kM Z
 refine aS<|cC Z<|aC Z<|aK ?_;refine eZ h Z (λh=>?_) λh=>?_
 ·refine aS<|aA Z<|aC Z<|aK<|aP<|bO<|aH ?_;cases h;exact kM Z
 refine dJ<|mP<|aS<|aA Z<|aB (bZ Z) Z<|bX Z<|bX Z<|aB (dC Z (aE.fact 0 Z) Z Z Z) Z<|aA Z<|dK h λa h=>aB (cQ Z Z (aE.fact 4 Z) Z Z a) Z<|aB (cL Z (aE.fact 4 Z) Z Z a) Z<|aA Z<|dK h λj h=>aB (aZ Z Z (aE.el (aE.fact 4 Z) a.1 a.2) Z Z j) Z<|aB (c_ (cs:=[vI ((at' (at' d.2.1.2 f) g).1),vI ((at' (at' d.2.1.2 f) g).2)]) Z (aE.el (aE.fact 4 Z) a.1 a.2) bB Z Z Z Z j) Z<|aG (aJ.alloc (cs:=Ms) Z Z) Z λA=>bR 0 (vs:=[vI ((at' (at' d.2.1.2 f) g).1),vI ((at' (at' d.2.1.2 f) g).2)]) Z Z Z Z Z Z<|aK<|aI<|aS<|aA Z<|aK<|aU<|aS<|cC Z<|aC Z<|aK ?_;refine eZ h Z (λh=>?_) λh=>?_
 ·refine aI ?_;refine JR.start [0,1,3,7,15,0,32,127,255,511] 7 mixedOrders (by decide +kernel) ?_;refine JR.open (by exact rfl) ?_;refine bE Z<|fY Z (bZ Z)<|cN Z<|cN Z<|bI Z .nil (h_ 0 Z) (dC Z (aE.fact 0 Z) Z Z Z) aN.z<|cN Z<|dY 0 Z<|bK 7 Z Z<|dK h λk h=>aB (aZ Z Z (aE.fact 3 Z) Z Z k) Z<|aB (bU Z (aE.fact 3 Z) Z Z Z cS k) Z<|aC Z<|aK<|aP<|bO<|aH ?_;cases h;exact sV Z
 refine aS<|cC Z<|aC Z<|aK ?_;refine eZ h Z (λh=>?_) λh=>?_
 ·refine aI ?_;refine JR.start [0,1,3,7,15,0,32,127,255,511,1023] 7 mixedOrders (by decide +kernel) ?_;refine JR.open (by exact rfl) ?_;refine bE Z<|fY Z (bZ Z)<|cN Z<|cN Z<|bI Z .nil (h_ 0 Z) (dC Z (aE.fact 0 Z) Z Z Z) aN.z<|cN Z<|dY 0 Z<|bK 7 Z Z<|dK h λe h=>aB (cQ Z Z (aE.fact 4 Z) Z Z e) Z<|aB (cL Z (aE.fact 4 Z) Z Z e) Z<|aB (fG Z (aE.el (aE.fact 4 Z) e.1 e.2) Z) Z<|aC Z<|aK<|aP<|bO<|aH ?_;cases h;exact sV Z
 refine aS<|cC Z<|aC Z<|aK ?_;refine eZ h Z (λh=>?_) λh=>?_
 ·refine aS<|bX Z<|cJ 0 Z<|cC Z<|eL h λo p h=>aG (aJ.callQ yY (lA U  o p) Z .nil) Z λE=>aC Z<|aK<|aP<|bO<|aH ?_;cases h;exact sV Z
 refine aS<|cC Z<|aC Z<|aK ?_;refine eZ h Z (λh=>?_) λh=>?_
 ·refine aS<|bX Z<|cJ 0 Z<|aC Z<|aK<|aP<|bO<|aH ?_;cases h;exact sV Z
 refine dJ<|mP<|aS<|aA Z<|aB (bZ Z) Z<|bX Z<|aB (dC Z (aE.fact 0 Z) Z Z Z) Z<|aA Z<|dK h λb h=>aB (cQ Z Z (aE.fact 5 Z) Z Z b) Z<|aB (cL Z (aE.fact 5 Z) Z Z b) Z<|aA Z<|dK h λm h=>aB (aZ Z Z (aE.el (aE.fact 5 Z) b.1 b.2) Z Z m) Z<|aB (bU Z (aE.el (aE.fact 5 Z) b.1 b.2) Z Z Z cS m) Z<|aC Z<|aK<|aP ?_;cases h;exact sV Z
def lW (U:Nat) (a:Mq) (b:eD) (c:Int):Option (Int):=
 if b.1=(1:Int)then(some (b.2))else(if b.1=(2:Int)then(some (1:Int))else(if b.1=(3:Int)then(some (0:Int))else(if b.1=(4:Int)then(some (-1:Int))else(if b.1=(5:Int)then(ck (0<=a.2.2.1∧a.2.2.1<(List.length a.2.1:Int)) (ck (0<=b.2∧b.2<(List.length (at' a.2.1 a.2.2.1):Int)) (some (at' (at' a.2.1 a.2.2.1) b.2))))else(if b.1=(12:Int)then(ck (0<=a.2.2.1∧a.2.2.1<(List.length a.1.2.1.2:Int)) (ck (0<=c∧c<(List.length (at' a.1.2.1.2 a.2.2.1):Int)) (ck (0<=((at' (at' a.1.2.1.2 a.2.2.1) c).1)∧((at' (at' a.1.2.1.2 a.2.2.1) c).1)<(List.length a.2.1:Int)) (ck (0<=b.2∧b.2<(List.length (at' a.2.1 ((at' (at' a.1.2.1.2 a.2.2.1) c).1)):Int)) (some (at' (at' a.2.1 ((at' (at' a.1.2.1.2 a.2.2.1) c).1)) b.2))))))else(Option.bind (sM U ((((a.1.1.1,a.1.1.2.1,a.1.1.2.2)),((a.1.2.1.1,a.1.2.1.2)),a.1.2.2.1,a.1.2.2.2)) b.1 a.2.2.1 c) λd=>(some (d))))))))
theorem XR:aQ Tryz.prog 280:=Tryz.call280
theorem En (U:Nat) {d:Mq} {k:eD} {y:Int} (g:Nat)  (e:Nat)  (o:Value)  (p:Value)  (q:Value)  (s:Value)  (B:mH)  (t:Value)  (C:wL)  (A:Value)  (v:wL)  (m:Value) (r:Int) (h:lW U d k y=some r):
  bA Tryz.prog 280 #[vP g,Value.agg #[vI (k.1),vI (k.2)],vI (y)] [bH g [vP e,A,vI (d.2.2.1),m] 255,bH e [vS (d.1.1.1),o,p,q,s,vI (d.1.2.2.1),t] 212,Sl aW o d.1.1.2.1,Sl aM p d.1.1.2.2,Sl bN q d.1.2.1.1,S2 aO s B d.1.2.1.2,S2 bN t C d.1.2.2.2,S2 bN A v d.2.1,Sl aO m d.2.2.2] (λx:Unit=>vI (r)) (λx l=>l) (λ_ l=>l):=by
 refine bA.of Tryz.func280 Z Tryz.ntmps280 Z λc=>?_;refine aS<|aG (aJ.box (cs:=[vI (k.1),vI (k.2)]) Z Z) Z λE=>aC Z<|aK<|aI<|aS<|bX Z<|cJ 0 Z<|aK<|aU<|aS<|cC Z<|aC Z<|aK ?_;refine eZ h Z (λh=>?_) λh=>?_
 ·refine aS<|bX Z<|cJ 0 Z<|aC Z<|aK<|aP<|bO<|aH ?_;cases h;exact sV Z
 refine aS<|cC Z<|aC Z<|aK ?_;refine eZ h Z (λh=>?_) λh=>?_
 ·refine aS<|aC Z<|aK<|aP<|bO<|aH ?_;cases h;exact sV Z
 refine aS<|cC Z<|aC Z<|aK ?_;refine eZ h Z (λh=>?_) λh=>?_
 ·refine aS<|aC Z<|aK<|aP<|bO<|aH ?_;cases h;exact sV Z
 refine aS<|cC Z<|aC Z<|aK ?_;refine eZ h Z (λh=>?_) λh=>?_
 ·refine aS<|aC Z<|aK<|aP<|bO<|aH ?_;cases h;exact sV Z
 refine aS<|cC Z<|aC Z<|aK ?_;refine eZ h Z (λh=>?_) λh=>?_
 ·refine aI ?_;refine JR.start [0,1,3,7,0,16,48,112,255,511,0,1024,4095,8191,16383] 12 mixedOrders (by decide +kernel) ?_;refine JR.open (by exact rfl) ?_;refine bE Z<|fY Z (bZ Z)<|cN Z<|bI Z .nil (h_ 0 Z) (dC Z (aE.fact 0 Z) Z Z Z) aN.z<|bE Z<|fY Z (bZ Z)<|cN Z<|bI Z .nil (h_ 0 Z) (dC Z (aE.fact 0 Z) Z Z Z) aN.z<|dK h λf h=>bI Z .nil (h_ 7 Z) (cQ Z Z (aE.fact 0 Z) Z Z f) aN.z<|bI Z .nil (h_ 7 Z) (cL Z (aE.fact 0 Z) Z Z f) aN.z<|cN Z<|dY 0 Z<|bK 12 Z Z<|dK h λw h=>aB (aZ Z Z (aE.el (aE.fact 7 Z) f.1 f.2) Z Z w) Z<|aB (bU Z (aE.el (aE.fact 7 Z) f.1 f.2) Z Z Z cS w) Z<|aC Z<|aK<|aP<|bO<|aH ?_;cases h;exact sV Z
 refine aS<|cC Z<|aC Z<|aK ?_;refine eZ h Z (λh=>?_) λh=>?_
 ·refine aI ?_;refine JR.start [0,1,3,7,0,16,48,112,240,496,1008,2032,0,4096,12288,28672,65520,131056,0,524272,1048560,2097136,4194303,8388607,0,16777216,67108863,134217727,268435455] 26 mixedOrders (by decide +kernel) ?_;refine JR.open (by exact rfl) ?_;refine bE Z<|fY Z (bZ Z)<|cN Z<|bI Z .nil (h_ 0 Z) (dC Z (aE.fact 0 Z) Z Z Z) aN.z<|bE Z<|fY Z (bZ Z)<|cN Z<|bI Z .nil (h_ 0 Z) (dC Z (aE.fact 0 Z) Z Z Z) aN.z<|fY Z (bZ Z)<|cN Z<|cN Z<|bI Z .nil (h_ 1 Z) (dC Z (aE.fact 0 Z) Z Z Z) aN.z<|bE Z<|fY Z (bZ Z)<|cN Z<|bI Z .nil (h_ 0 Z) (dC Z (aE.fact 0 Z) Z Z Z) aN.z<|dK h λa h=>bI Z .nil (h_ 5 Z) (cQ Z Z (aE.fact 0 Z) Z Z a) aN.z<|bI Z .nil (h_ 5 Z) (cL Z (aE.fact 0 Z) Z Z a) aN.z<|bE Z<|dK h λi h=>bI Z .nil (h_ 5 Z) (aZ Z Z (aE.el (aE.fact 0 Z) a.1 a.2) Z Z i) aN.z<|fY Z (mC Z Z Z Z Z)<|bI Z .nil (h_ 5 Z) (jK Z (aE.el (aE.fact 0 Z) a.1 a.2) Z Z Z oM i) aN.z<|dK h λb h=>bI Z .nil (h_ 7 Z) (cQ Z Z (aE.fact 0 Z) Z Z b) aN.z<|bI Z .nil (h_ 7 Z) (cL Z (aE.fact 0 Z) Z Z b) aN.z<|cN Z<|dY 0 Z<|bK 26 Z Z<|dK h λj h=>aB (aZ Z Z (aE.el (aE.fact 7 Z) b.1 b.2) Z Z j) Z<|aB (bU Z (aE.el (aE.fact 7 Z) b.1 b.2) Z Z Z cS j) Z<|aC Z<|aK<|aP<|bO<|aH ?_;cases h;exact sV Z
 refine dJ<|mP<|aI ?_;refine JR.start [0,1,3,7,0,16,0,64,192,448,0,2047,4095] 11 mixedOrders (by decide +kernel) ?_;refine JR.open (by exact rfl) ?_;refine bE Z<|fY Z (bZ Z)<|cN Z<|bI Z .nil (h_ 0 Z) (dC Z (aE.fact 0 Z) Z Z Z) aN.z<|cN Z<|dY 0 Z<|bE Z<|fY Z (bZ Z)<|cN Z<|bI Z .nil (h_ 0 Z) (dC Z (aE.fact 0 Z) Z Z Z) aN.z<|bE Z<|bK 11 Z Z<|eL h λn u h=>aG (aJ.callQ XU (Dr U e o p q s B t C n u) Z (lJ [1,2,3,4,5,6] Z)) Z λD=>aC Z<|aK<|aP ?_;cases h;exact sV Z
def Au (U:Nat) (b:Int) (a:Int):Option (Int):=
 if b=(18:Int)then(some (wI .i64 (0 - a)))else(Option.bind (iS U (decide (a=(0:Int)))) λc=>(some (c)))
theorem XS:aQ Tryz.prog 281:=Tryz.call281
theorem Mj (U:Nat) {a:Int} {b:Int} (r:Int) (h:Au U a b=some r):
  bA Tryz.prog 281 #[vI (a),vI (b)] [] (λx:Unit=>vI (r)) (λx l=>l) (λ_ l=>l):=by
 refine bA.of Tryz.func281 Z Tryz.ntmps281 Z λc=>?_;refine aS<|aC Z<|aK<|aI<|aS<|aA Z<|cC Z<|aK ?_;refine eZ h Z (λh=>?_) λh=>?_
 ·refine aS<|aA Z<|aB (Qf Z) Z<|aC Z<|aK<|aP<|aH ?_;cases h;exact kM Z
 refine cE<|aS<|aA Z<|cC Z<|eL h λd e h=>aG (aJ.callQ yY (lA U  d e) Z .nil) Z λf=>aC Z<|aK<|aP ?_;cases h;exact kM Z
def jG (U:Nat) (a:Int):Option (Int):=
 some (max (-1073741824:Int) (min a (1073741824:Int)))
theorem DT:aQ Tryz.prog 292:=Tryz.call292
theorem mG (U:Nat) {a:Int} (r:Int) (h:jG U a=some r):
  bA Tryz.prog 292 #[vI (a)] [] (λx:Unit=>vI (r)) (λx l=>l) (λ_ l=>l):=by
 refine bA.of Tryz.func292 Z Tryz.ntmps292 Z λc=>?_;unfold jG at h;refine aS<|aC Z<|aK<|aS<|aA Z<|aB (Ub Z Z) Z<|aB (Nc Z Z) Z<|aC Z<|aK<|aP ?_;cases h;exact kM Z
def pO  (a:Int):Option (Int):=
 some (a)
def tB (a:Int) (b:Int) (c:Bool):Option (Int):=
 if c=true then(pO  (wI .i64 ((wI .i64 (Int.tdiv a b)) - (1:Int))))else(pO  (wI .i64 (Int.tdiv a b)))
def qY (U:Nat) (b:Int) (a:Int):Option (Int):=
 if a=(0:Int)then(some (0:Int))else(ck (a≠0) (ck (a≠0) (if(Int.tmod b a)≠(0:Int)then(tB b a (((decide (b<(0:Int))) != (decide (a<(0:Int))))))else(tB b a (false)))))
theorem QC:aQ Tryz.prog 293:=Tryz.call293
theorem CR (U:Nat) {a:Int} {b:Int} (r:Int) (h:qY U a b=some r):
  bA Tryz.prog 293 #[vI (a),vI (b)] [] (λx:Unit=>vI (r)) (λx l=>l) (λ_ l=>l):=by
 refine bA.of Tryz.func293 Z Tryz.ntmps293 Z λc=>?_;refine aS<|aC Z<|aK<|aI<|aS<|aA Z<|cC Z<|aK ?_;refine eZ h Z (λh=>?_) λh=>?_
 ·refine aS<|aC Z<|aK<|aP<|aH ?_;cases h;exact kM Z
 refine cE<|aS<|aA Z<|aA Z<|dK h λj h=>aB (Ud Z Z j) Z<|aC Z<|aK<|aI<|d_ (λd=>pO  d=some r) (λd g=>[(5,vI (d))]) (λd g=>[]) ?_ ?_
 ·refine aI<|d_ (λe=>tB a b e=some r) (λe i=>[(5,vI (wI .i64 (Int.tdiv a b))),(21,vB (e))]) (λe i=>[]) ?_ ?_
  ·refine aR<|aA Z<|aA Z<|dK h λf h=>aB (Nf Z Z f) Z<|oT Z<|aA Z ?_;refine Cd h Z (λ_ h=>?_) λ_ h=>?_
   ·refine eS Z<|aV Z (Hj Z Z) Z<|eS Z<|aV Z (Hj Z Z) Z<|aV Z (ZQ Z Z Z) Z<|dU Z<|aK ?_;exact iI (((decide (a<(0:Int))) != (decide (b<(0:Int))))) () h SF Z
   refine aL Z<|aL Z<|aL Z<|aL Z<|aL Z<|e_ Z<|aK ?_;exact iI (false) () h SF Z
  intro e i h;refine yC h Z (λ_ h=>?_) λ_ h=>?_
  ·refine aR<|aA Z<|aB (mJ Z Z) Z<|aC Z<|aK ?_;exact iI (wI .i64 ((wI .i64 (Int.tdiv a b)) - (1:Int))) () h SF Z
  refine cE ?_;exact iI (wI .i64 (Int.tdiv a b)) () h SF Z
 intro d g h;unfold pO at h;refine aS<|aA Z<|aC Z<|aK<|aP ?_;cases h;exact kM Z
def vA (U:Nat) (c:Int) (a:Int) (b:Int):Option (Bool):=
 if c=(35:Int)then(some (decide (a=b)))else(if c=(36:Int)then(some (decide (a≠b)))else(if c=(37:Int)then(some (decide (a<b)))else(if c=(38:Int)then(some (decide (a<=b)))else(if c=(39:Int)then(some (decide (b<a)))else(some (decide (b<=a)))))))
theorem XW:aQ Tryz.prog 294:=Tryz.call294
theorem HJ (U:Nat) {a:Int} {b:Int} {d:Int} (r:Bool) (h:vA U a b d=some r):
  bA Tryz.prog 294 #[vI (a),vI (b),vI (d)] [] (λx:Unit=>vB (r)) (λx l=>l) (λ_ l=>l):=by
 refine bA.of Tryz.func294 Z Tryz.ntmps294 Z λc=>?_;refine aS<|aC Z<|aK<|aI<|aS<|aA Z<|aK<|aU<|aS<|cC Z<|aC Z<|aK ?_;refine eZ h Z (λh=>?_) λh=>?_
 ·refine aS<|aA Z<|aA Z<|cC Z<|aC Z<|aK<|aP<|bO<|aH ?_;cases h;exact kM Z
 refine aS<|cC Z<|aC Z<|aK ?_;refine eZ h Z (λh=>?_) λh=>?_
 ·refine aS<|aA Z<|aA Z<|oT Z<|aC Z<|aK<|aP<|bO<|aH ?_;cases h;exact kM Z
 refine aS<|cC Z<|aC Z<|aK ?_;refine eZ h Z (λh=>?_) λh=>?_
 ·refine aS<|aA Z<|aA Z<|cP Z<|aC Z<|aK<|aP<|bO<|aH ?_;cases h;exact kM Z
 refine aS<|cC Z<|aC Z<|aK ?_;refine eZ h Z (λh=>?_) λh=>?_
 ·refine aS<|aA Z<|aA Z<|aB (BO Z Z) Z<|aC Z<|aK<|aP<|bO<|aH ?_;cases h;exact kM Z
 refine aS<|cC Z<|aC Z<|aK ?_;refine eZ h Z (λh=>?_) λh=>?_
 ·refine aS<|aA Z<|aA Z<|aB (Ah Z Z) Z<|aC Z<|aK<|aP<|bO<|aH ?_;cases h;exact kM Z
 refine dJ<|mP<|aS<|aA Z<|aA Z<|aB (wP Z Z) Z<|aC Z<|aK<|aP ?_;cases h;exact kM Z
def pM  (a:Int):Option (Int):=
 some (a)
def pN  (a:Int):Option (Int):=
 some (a)
def zA (U:Nat) (c:Int) (b:Int) (a:Int):Option (Int):=
 if c=(30:Int)then(Option.bind (jG U (wI .i64 (b*a))) λn=>(some (n)))else(if c=(31:Int)then(Option.bind (qY U b a) λo=>(Option.bind (jG U o) λp=>(some (p))))else(if c=(32:Int)then(if a=(0:Int)then(some (0:Int))else(Option.bind (qY U b a) λd=>(Option.bind (jG U (wI .i64 (b - (wI .i64 (a*d))))) λe=>(some (e)))))else(if c=(33:Int)then(Option.bind (jG U (wI .i64 (b+a))) λf=>(some (f)))else(if c=(34:Int)then(Option.bind (jG U (wI .i64 (b - a))) λg=>(some (g)))else(if c=(41:Int)then(if b≠(0:Int)then(Option.bind (iS U (decide (a≠(0:Int)))) λh=>(pM  (h)))else(Option.bind (iS U false) λi=>(pM  (i))))else(if c=(42:Int)then(if b≠(0:Int)then(Option.bind (iS U true) λj=>(pN  (j)))else(Option.bind (iS U (decide (a≠(0:Int)))) λk=>(pN  (k))))else(Option.bind (vA U c b a) λl=>(Option.bind (iS U l) λm=>(some (m))))))))))
theorem XT:aQ Tryz.prog 283:=Tryz.call283
theorem JZ (U:Nat) {E:Int} {F:Int} {G:Int} (r:Int) (h:zA U E F G=some r):
  bA Tryz.prog 283 #[vI (E),vI (F),vI (G)] [] (λx:Unit=>vI (r)) (λx l=>l) (λ_ l=>l):=by
 refine bA.of Tryz.func283 Z Tryz.ntmps283 Z λc=>?_;refine aS<|aC Z<|aK<|aI<|aS<|aA Z<|aK<|aU<|aS<|cC Z<|aC Z<|aK ?_;refine eZ h Z (λh=>?_) λh=>?_
 ·refine aS<|aA Z<|aA Z<|aB (tQ Z Z) Z<|eL h λH K h=>aG (aJ.callQ DT (mG U  H K) Z .nil) Z λY=>aC Z<|aK<|aP<|bO<|aH ?_;cases h;exact kM Z
 refine aS<|cC Z<|aC Z<|aK ?_;refine eZ h Z (λh=>?_) λh=>?_
 ·refine aS<|aA Z<|aA Z<|eL h λI L h=>aG (aJ.callQ QC (CR U  I L) Z .nil) Z λx8=>eL h λJ s h=>aG (aJ.callQ DT (mG U  J s) Z .nil) Z λM=>aC Z<|aK<|aP<|bO<|aH ?_;cases h;exact kM Z
 refine aS<|cC Z<|aC Z<|aK ?_;refine eZ h Z (λh=>?_) λh=>?_
 ·refine aI<|aS<|aA Z<|cC Z<|aK ?_;refine eZ h Z (λh=>?_) λh=>?_
  ·refine aS<|aC Z<|aK<|aP<|aH<|bO<|aH ?_;cases h;exact kM Z
  refine cE<|aS<|aA Z<|aA Z<|aA Z<|aA Z<|eL h λk t h=>aG (aJ.callQ QC (CR U  k t) Z .nil) Z λN=>aB (tQ Z Z) Z<|aB (mJ Z Z) Z<|eL h λm u h=>aG (aJ.callQ DT (mG U  m u) Z .nil) Z λO=>aC Z<|aK<|aP<|bO<|aH ?_;cases h;exact kM Z
 refine aS<|cC Z<|aC Z<|aK ?_;refine eZ h Z (λh=>?_) λh=>?_
 ·refine aS<|aA Z<|aA Z<|cO Z<|eL h λn v h=>aG (aJ.callQ DT (mG U  n v) Z .nil) Z λP=>aC Z<|aK<|aP<|bO<|aH ?_;cases h;exact kM Z
 refine aS<|cC Z<|aC Z<|aK ?_;refine eZ h Z (λh=>?_) λh=>?_
 ·refine aS<|aA Z<|aA Z<|aB (mJ Z Z) Z<|eL h λo w h=>aG (aJ.callQ DT (mG U  o w) Z .nil) Z λQ=>aC Z<|aK<|aP<|bO<|aH ?_;cases h;exact kM Z
 refine aS<|cC Z<|aC Z<|aK ?_;refine eZ h Z (λh=>?_) λh=>?_
 ·refine aI<|d_ (λa=>pM  a=some r) (λa d=>[(6,vI (a))]) (λa d=>[]) ?_ ?_
  ·refine aR<|aA Z<|oT Z<|aA Z ?_;refine Cd h Z (λ_ h=>?_) λ_ h=>?_
   ·refine eS Z<|aV Z (Bh Z Z) Z<|dU Z<|eL h λf y h=>aG (aJ.callQ yY (lA U  f y) Z .nil) Z λR=>aC Z<|aK ?_;exact iI (f) () h SF Z
   refine aL Z<|aL Z<|e_ Z<|eL h λg z h=>aG (aJ.callQ yY (lA U  g z) Z .nil) Z λS=>aC Z<|aK ?_;exact iI (g) () h SF Z
  intro a d h;unfold pM at h;refine aP<|bO<|aH ?_;cases h;exact kM Z
 refine aS<|cC Z<|aC Z<|aK ?_;refine eZ h Z (λh=>?_) λh=>?_
 ·refine aI<|d_ (λb=>pN  b=some r) (λb e=>[(6,vI (b))]) (λb e=>[]) ?_ ?_
  ·refine aR<|aA Z<|oT Z<|aA Z ?_;refine Cd h Z (λ_ h=>?_) λ_ h=>?_
   ·refine aL Z<|aL Z<|dU Z<|eL h λi A h=>aG (aJ.callQ yY (lA U  i A) Z .nil) Z λT=>aC Z<|aK ?_;exact iI (i) () h SF Z
   refine eS Z<|aV Z (Bh Z Z) Z<|e_ Z<|eL h λj B h=>aG (aJ.callQ yY (lA U  j B) Z .nil) Z λV=>aC Z<|aK ?_;exact iI (j) () h SF Z
  intro b e h;unfold pN at h;refine aP<|bO<|aH ?_;cases h;exact kM Z
 refine dJ<|mP<|aS<|aA Z<|aA Z<|aA Z<|eL h λp C h=>aG (aJ.callQ XW (HJ U  p C) Z .nil) Z λW=>eL h λq D h=>aG (aJ.callQ yY (lA U  q D) Z .nil) Z λX=>aC Z<|aK<|aP ?_;cases h;exact kM Z
def yZ  (a:Int):Option (Int):=
 some (a)
def tZ (c:eD) (b:iO->Option (Int)) (a:Int):Option (Int):=
 b (a,(wI .i64 (c.2+(1:Int))))
def rI (c:aT) (a:eD) (b:iO->Option (Int)):Option (Int):=
 if a.2<(List.length c:Int)then(ck (0<=a.2∧a.2<(List.length c:Int)) (if(at' c a.2)≠(0:Int)then(tZ a b (wI .i64 (a.1+(1:Int))))else(tZ a b (a.1))))else(yZ  (a.1))
def qK (U:Nat) (a:aT):Option (Int):=
 bP (rI a) U ((0:Int),(0:Int))
theorem Lr:aQ Tryz.prog 298:=Tryz.call298
theorem CK (U:Nat) {d:aT} (i:Value) (r:Int) (h:qK U d=some r):
  bA Tryz.prog 298 #[i] [Sl bN i d] (λx:Unit=>vI (r)) (λx l=>l) (λ_ l=>l):=by
 refine bA.of Tryz.func298 Z Tryz.ntmps298 Z λc=>?_;unfold qK at h;refine aS<|aC Z<|aK<|aS<|aC Z<|aK<|aI<|d_ (λe=>yZ  e=some r) (λe j=>[(3,vI (e))]) (λe j=>[]) ?_ ?_
 ·refine aS<|aA Z<|iH (aE.fact 0 Z) Z<|aA Z<|aK<|aU<|eH (rI d) (λb k=>[(3,vI (b.1)),(6,i),(7,vI (List.length d:Int)),(8,vI (b.2))]) (λb k=>[]) ((0:Int),(0:Int)) () h SF (aY.refl _) ?_;intro m b k h;refine aS<|cP Z<|aK<|aI ?_;refine eZ h Z (λh=>?_) λh=>?_
  ·refine cE<|aI<|d_ (λa=>tZ b (bP (rI d) m) a=some r) (λa f=>[(3,vI (a)),(6,i),(7,vI (List.length d:Int)),(8,vI (b.2))]) (λa f=>[]) ?_ ?_
   ·refine aU<|aS<|dK h λg h=>aB (aZ Z Z (aE.fact 0 Z) Z Z g) Z<|aB (bU Z (aE.fact 0 Z) Z Z Z cS g) Z<|aC Z<|aK<|aS<|aA Z<|oT Z<|aK ?_;refine eZ h Z (λh=>?_) λh=>?_
    ·refine aR<|aA Z<|cO Z<|aC Z<|fF<|mP ?_;exact iI (wI .i64 (b.1+(1:Int))) () h SF Z
    refine dJ<|mP ?_;exact iI (b.1) () h SF Z
   intro a f h;unfold tZ at h;refine aR<|cO Z<|aA Z<|aK ?_;exact Ai (a,(wI .i64 (b.2+(1:Int)))) () h SF Z
  refine fE ?_;exact iI (b.1) () h SF Z
 intro e j h;unfold yZ at h;refine aS<|aA Z<|aC Z<|aK<|aP ?_;cases h;exact kM Z
def pD  (a:Unit):Option (Int):=
 some (-1:Int)
def gC (c:aT) (e:Int->Option Bool) (a:Int) (b:(Int)->Option (Int)):Option (Int):=
 if a<(List.length c:Int)then(ck (0<=a∧a<(List.length c:Int)) (Option.bind (e (at' c a)) λd=>(if d=true then(some (a))else(b (wI .i64 (a+(1:Int)))))))else(pD  (()))
def nD (U:Nat) (b:aT) (a:Int->Option Bool):Option (Int):=
 bP (gC b a) U (0:Int)
theorem XX:aQ Tryz.prog 299:=Tryz.call299
theorem Fh (U:Nat) {b:aT} {o:Int->Option Bool} (k:FuncId) (a:iP) (j:List bD) (e:aQ Tryz.prog k) (f:∀(t:Int) (r:Bool),o t=some r->bA Tryz.prog k ([vI (t)]++a).toArray j (λ_:Unit=>vB (r)) (λ_ l=>l) (λ_ l=>l)) (i:Value) (r:Int) (h:nD U b o=some r):
  bA Tryz.prog 299 #[i,Value.func (.func k) #[] (a).toArray] ([Sl bN i b]++j) (λx:Unit=>vI (r)) (λx l=>l) (λ_ l=>l):=by
 refine bA.of Tryz.func299 Z Tryz.ntmps299 Z λc=>?_;unfold nD at h;refine aS<|aC Z<|aK<|aI<|EM (B:=Unit) (λg=>pD  g=some r) (λg m=>[]) (λg m=>[]) (λg m=>([Sl bN i b]++j)) ?_ ?_
 ·refine aS<|aA Z<|iH (aE.fact 0 Z) Z<|aA Z<|aK<|aU<|HQ (B:=Unit) (gC b o) (λd n=>[(0,i),(1,Value.func (.func k) #[] (a).toArray),(7,vI (List.length b:Int)),(8,vI (d))]) (λd n=>[]) (λd n=>([Sl bN i b]++j)) (0:Int) () h SF (aY.refl _) (aD.refl _ _) ?_;intro v d n h;refine aS<|cP Z<|aK<|aI ?_;refine eZ h Z (λh=>?_) λh=>?_
  ·refine cE<|aI<|aU<|aS<|aA Z<|aC Z<|aK<|aS<|aA Z<|aA Z<|aA Z<|dK h λs h=>aB (aZ Z Z (aE.fact 0 Z) Z Z s) Z<|aB (bU Z (aE.fact 0 Z) Z Z Z cS s) Z<|eL h λp q h=>aG (fQ (vs:=[vI (at' b d)]) (cs:=a) e Z (f (at' b d) p q) Z (aD.tail _) (λ_ _=>rfl)) Z λu=>aK ?_;refine yC h Z (λ_ h=>?_) λ_ h=>?_
   ·refine aS<|aA Z<|aC Z<|aK<|aP<|bO<|aH<|aH<|bO<|aH ?_;cases h;exact kM Z
   refine dJ<|mP<|aR<|cO Z<|aA Z<|aK ?_;exact Ai (wI .i64 (d+(1:Int))) () h SF Z
  refine fE ?_;exact iI () (()) h SF Z
 intro g m h;unfold pD at h;refine aS<|aC Z<|aK<|aP ?_;cases h;exact kM Z
def oO (U:Nat) (a:Int):Option (Bool):=
 some (decide (a≠(0:Int)))
theorem XY:aQ Tryz.prog 300:=Tryz.call300
theorem J_ (U:Nat) {a:Int} (r:Bool) (h:oO U a=some r):
  bA Tryz.prog 300 #[vI (a)] [] (λx:Unit=>vB (r)) (λx l=>l) (λ_ l=>l):=by
 refine bA.of Tryz.func300 Z Tryz.ntmps300 Z λc=>?_;unfold oO at h;refine aS<|aC Z<|aK<|aS<|aA Z<|oT Z<|aC Z<|aK<|aP ?_;cases h;exact kM Z
def tT  (a:eD):Option iO:=
 some (a.1,a.2)
def o_ (c:Int×Int×Int) (b:(Int×Int×Int)->Option iO) (a:eD):Option iO:=
 b (a.1,a.2,(wI .i64 (c.2.2+(1:Int))))
def tU (c:aT) (a:Int×Int×Int) (b:(Int×Int×Int)->Option iO):Option iO:=
 if a.2.2<(List.length c:Int)then(ck (0<=a.2.2∧a.2.2<(List.length c:Int)) (if a.1<(at' c a.2.2)then(o_ a b ((at' c a.2.2),a.1))else(o_ a b (a.1,(max a.2.1 (at' c a.2.2))))))else(tT  (a.1,a.2.1))
def qL (U:Nat) (a:aT):Option iO:=
 bP (tU a) U ((-1073741824:Int),(-1073741824:Int),(0:Int))
theorem QD:aQ Tryz.prog 301:=Tryz.call301
theorem AT (U:Nat) {d:aT} (j:Value) (r:eD) (h:qL U d=some r):
  bA Tryz.prog 301 #[j] [Sl bN j d] (λx:Unit=>Value.tuple #[vI (r.1),vI (r.2)]) (λx l=>l) (λ_ l=>l):=by
 refine bA.of Tryz.func301 Z Tryz.ntmps301 Z λc=>?_;unfold qL at h;refine aS<|aC Z<|aC Z<|aK<|aS<|aC Z<|aC Z<|aK<|aI<|d_ (λe=>tT  e=some r) (λe m=>[(2,vI (e.1)),(3,vI (e.2))]) (λe m=>[]) ?_ ?_
 ·refine aS<|aA Z<|iH (aE.fact 0 Z) Z<|aA Z<|aK<|aU<|eH (tU d) (λb f=>[(2,vI (b.1)),(3,vI (b.2.1)),(6,j),(7,vI (List.length d:Int)),(8,vI (b.2.2))]) (λb f=>[]) ((-1073741824:Int),(-1073741824:Int),(0:Int)) () h SF (aY.refl _) ?_;intro k b f h;refine aS<|cP Z<|aK<|aI ?_;refine eZ h Z (λh=>?_) λh=>?_
  ·refine cE<|aI<|d_ (λa=>o_ b (bP (tU d) k) a=some r) (λa g=>[(2,vI (a.1)),(3,vI (a.2)),(6,j),(7,vI (List.length d:Int)),(8,vI (b.2.2))]) (λa g=>[]) ?_ ?_
   ·refine aU<|aS<|dK h λi h=>aB (aZ Z Z (aE.fact 0 Z) Z Z i) Z<|aB (bU Z (aE.fact 0 Z) Z Z Z cS i) Z<|aC Z<|aK<|aS<|aA Z<|aA Z<|aB (Ah Z Z) Z<|aK ?_;refine eZ h Z (λh=>?_) λh=>?_
    ·refine aR<|aA Z<|aA Z<|aC Z<|aC Z<|fF<|mP ?_;exact iI ((at' d b.2.2),b.1) () h SF Z
    refine aR<|aA Z<|aA Z<|aB (Nc Z Z) Z<|aC Z<|fF<|mP ?_;exact iI (b.1,(max b.2.1 (at' d b.2.2))) () h SF Z
   intro a g h;unfold o_ at h;refine aR<|cO Z<|aA Z<|aK ?_;exact Ai (a.1,a.2,(wI .i64 (b.2.2+(1:Int)))) () h SF Z
  refine fE ?_;exact iI (b.1,b.2.1) () h SF Z
 intro e m h;unfold tT at h;refine aS<|aA Z<|aA Z<|aC Z<|aC Z<|aK<|aP ?_;cases h;exact gZ () Z Z (RV.tmp Z) (RV.tmp Z) (aY.refl _) aD.nil
def vG  (a:Unit):Option (Int):=
 some (-1:Int)
def fX (c:aT) (d:Int) (a:Int) (b:(Int)->Option (Int)):Option (Int):=
 if a<(List.length c:Int)then(ck (0<=a∧a<(List.length c:Int)) (if d=(at' c a)then(some (a))else(b (wI .i64 (a+(1:Int))))))else(vG  (()))
def jN (U:Nat) (a:aT) (b:Int):Option (Int):=
 bP (fX a b) U (0:Int)
theorem Qo:aQ Tryz.prog 113:=Tryz.call113
theorem DF (U:Nat) {d:aT} {e:Int} (f:Value) (r:Int) (h:jN U d e=some r):
  bA Tryz.prog 113 #[f,vI (e)] [Sl bN f d] (λx:Unit=>vI (r)) (λx l=>l) (λ_ l=>l):=by
 refine bA.of Tryz.func113 Z Tryz.ntmps113 Z λc=>?_;unfold jN at h;refine aS<|aC Z<|aK<|aI<|d_ (λa=>vG  a=some r) (λa g=>[]) (λa g=>[]) ?_ ?_
 ·refine aS<|aA Z<|iH (aE.fact 0 Z) Z<|aA Z<|aK<|aU<|eH (fX d e) (λb i=>[(0,f),(1,vI (e)),(7,vI (List.length d:Int)),(8,vI (b))]) (λb i=>[]) (0:Int) () h SF (aY.refl _) ?_;intro k b i h;refine aS<|cP Z<|aK<|aI ?_;refine eZ h Z (λh=>?_) λh=>?_
  ·refine cE<|aI<|aU<|aS<|aA Z<|aC Z<|aK<|aS<|aA Z<|aA Z<|aA Z<|dK h λj h=>aB (aZ Z Z (aE.fact 0 Z) Z Z j) Z<|aB (bU Z (aE.fact 0 Z) Z Z Z cS j) Z<|cC Z<|aK ?_;refine eZ h Z (λh=>?_) λh=>?_
   ·refine aS<|aA Z<|aC Z<|aK<|aP<|bO<|aH<|aH<|bO<|aH ?_;cases h;exact kM Z
   refine dJ<|mP<|aR<|cO Z<|aA Z<|aK ?_;exact Ai (wI .i64 (b+(1:Int))) () h SF Z
  refine fE ?_;exact iI () (()) h SF Z
 intro a g h;unfold vG at h;refine aS<|aC Z<|aK<|aP ?_;cases h;exact kM Z
def rY (U:Nat) (a:aT) (b:Int):Option (Bool):=
 Option.bind (jN U a b) λc=>(some (decide ((0:Int)<=c)))
theorem X_:aQ Tryz.prog 306:=Tryz.call306
theorem Ge (U:Nat) {b:aT} {d:Int} (a:Value) (r:Bool) (h:rY U b d=some r):
  bA Tryz.prog 306 #[a,vI (d)] [Sl bN a b] (λx:Unit=>vB (r)) (λx l=>l) (λ_ l=>l):=by
 refine bA.of Tryz.func306 Z Tryz.ntmps306 Z λc=>?_;refine aS<|aC Z<|aK<|aS<|aA Z<|aA Z<|eL h λe f h=>aG (aJ.callQ Qo (DF U a e f) Z (lJ [0] Z)) Z λg=>aB (wP Z Z) Z<|aC Z<|aK<|aP ?_;cases h;exact kM Z
def Bj  (a:Int):Option (Int):=
 some (a)
def zO (U:Nat) (c:aT) (a:Int) (b:(Int)->Option (Int)):Option (Int):=
 Option.bind (rY U c a) λd=>(if d=true then(b (wI .i64 (a+(1:Int))))else(Bj  (a)))
def AK (U:Nat) (a:aT):Option (Int):=
 bP (zO U a) U (0:Int)
theorem XZ:aQ Tryz.prog 302:=Tryz.call302
theorem PQ (U:Nat) {e:aT} (d:Value) (r:Int) (h:AK U e=some r):
  bA Tryz.prog 302 #[d] [Sl bN d e] (λx:Unit=>vI (r)) (λx l=>l) (λ_ l=>l):=by
 refine bA.of Tryz.func302 Z Tryz.ntmps302 Z λc=>?_;unfold AK at h;refine aS<|aC Z<|aK<|aS<|aC Z<|aK<|aI<|d_ (λa=>Bj  a=some r) (λa g=>[(3,vI (a))]) (λa g=>[]) ?_ ?_
 ·refine aU<|eH (zO U e) (λb i=>[(0,d),(3,vI (b))]) (λb i=>[]) (0:Int) () h SF (aY.refl _) ?_;intro m b i h;refine aI<|aS<|aA Z<|aA Z<|eL h λj f h=>aG (aJ.callQ X_ (Ge U d j f) Z (lJ [0] Z)) Z λk=>aK ?_;refine yC h Z (λ_ h=>?_) λ_ h=>?_
  ·refine cE<|aU<|aR<|aA Z<|cO Z<|aC Z<|fF<|mP ?_;exact Ai (wI .i64 (b+(1:Int))) () h SF Z
  refine fE ?_;exact iI (b) () h SF Z
 intro a g h;unfold Bj at h;refine aS<|aA Z<|aC Z<|aK<|aP ?_;cases h;exact kM Z
def As  (a:Int):Option (Int):=
 some (a)
def s_ (c:aT) (a:eD) (b:iO->Option (Int)):Option (Int):=
 if a.2<(List.length c:Int)then(ck (0<=a.2∧a.2<(List.length c:Int)) (b ((min a.1 (at' c a.2)),(wI .i64 (a.2+(1:Int))))))else(As  (a.1))
def Cr (U:Nat) (a:Int):Option (Int):=
 Option.bind (jG U a) λb=>(some (b))
def tA (U:Nat) (c:aT) (a:eD) (b:iO->Option (Int)):Option (Int):=
 if a.2<(List.length c:Int)then(ck (0<=a.2∧a.2<(List.length c:Int)) (b ((wI .i64 (a.1+(at' c a.2))),(wI .i64 (a.2+(1:Int))))))else(Cr U (a.1))
def Bn (U:Nat) (b:Int) (a:aT):Option (Int):=
 if b=(20:Int)then(Option.bind (qK U a) λi=>(Option.bind (iS U (decide (i=(List.length a:Int)))) λj=>(some (j))))else(if b=(21:Int)then(Option.bind (qK U a) λk=>(Option.bind (iS U (decide ((0:Int)<k))) λc=>(some (c))))else(if b=(22:Int)then(Option.bind (qK U a) λd=>(some (d)))else(if b=(23:Int)then(Option.bind (nD U a (λl=>oO U l)) λe=>(some (e)))else(if b=(24:Int)then(bP (s_ a) U ((1073741824:Int),(0:Int)))else(if b=(25:Int)then(Option.bind (qL U a) λf=>(some (f.1)))else(if b=(26:Int)then(bP (tA U a) U ((0:Int),(0:Int)))else(if b=(27:Int)then(Option.bind (AK U a) λg=>(some (g)))else(if b=(28:Int)then(Option.bind (qL U a) λh=>(some (h.2)))else(if(List.length a:Int)=(0:Int)then(some (0:Int))else(ck (0<=(0:Int)∧(0:Int)<(List.length a:Int)) (some (at' a (0:Int)))))))))))))
theorem XV:aQ Tryz.prog 291:=Tryz.call291
theorem Oa (U:Nat) {H:Int} {g:aT} (f:Value) (r:Int) (h:Bn U H g=some r):
  bA Tryz.prog 291 #[vI (H),f] [Sl bN f g] (λx:Unit=>vI (r)) (λx l=>l) (λ_ l=>l):=by
 refine bA.of Tryz.func291 Z Tryz.ntmps291 Z λc=>?_;refine aS<|aC Z<|aK<|aI<|aS<|aA Z<|aK<|aU<|aS<|cC Z<|aC Z<|aK ?_;refine eZ h Z (λh=>?_) λh=>?_
 ·refine aS<|aA Z<|eL h λK N h=>aG (aJ.callQ Lr (CK U f K N) Z (lJ [0] Z)) Z λY=>aA Z<|iH (aE.fact 0 Z) Z<|cC Z<|eL h λL O h=>aG (aJ.callQ yY (lA U  L O) Z .nil) Z λx7=>aC Z<|aK<|aP<|bO<|aH ?_;cases h;exact kM Z
 refine aS<|cC Z<|aC Z<|aK ?_;refine eZ h Z (λh=>?_) λh=>?_
 ·refine aS<|aA Z<|eL h λM z h=>aG (aJ.callQ Lr (CK U f M z) Z (lJ [0] Z)) Z λP=>aB (Ah Z Z) Z<|eL h λq A h=>aG (aJ.callQ yY (lA U  q A) Z .nil) Z λQ=>aC Z<|aK<|aP<|bO<|aH ?_;cases h;exact kM Z
 refine aS<|cC Z<|aC Z<|aK ?_;refine eZ h Z (λh=>?_) λh=>?_
 ·refine aS<|aA Z<|eL h λs B h=>aG (aJ.callQ Lr (CK U f s B) Z (lJ [0] Z)) Z λR=>aC Z<|aK<|aP<|bO<|aH ?_;cases h;exact kM Z
 refine aS<|cC Z<|aC Z<|aK ?_;refine eZ h Z (λh=>?_) λh=>?_
 ·refine aS<|aA Z<|eL h λt C h=>aG (aJ.callQ XX (Fh U 300 [] [] XY (λy0 r h=>J_ U  r h) f t C) Z (lJ [0] Z)) Z λS=>aC Z<|aK<|aP<|bO<|aH ?_;cases h;exact kM Z
 refine aS<|cC Z<|aC Z<|aK ?_;refine eZ h Z (λh=>?_) λh=>?_
 ·refine aS<|aC Z<|aK<|aI<|d_ (λd=>As  d=some r) (λd i=>[(5,vI (d))]) (λd i=>[]) ?_ ?_
  ·refine aS<|aA Z<|iH (aE.fact 0 Z) Z<|aA Z<|aK<|aU<|eH (s_ g) (λa j=>[(5,vI (a.1)),(40,f),(41,vI (List.length g:Int)),(42,vI (a.2))]) (λa j=>[]) ((1073741824:Int),(0:Int)) () h SF (aY.refl _) ?_;intro I a j h;refine aS<|cP Z<|aK<|aI ?_;refine eZ h Z (λh=>?_) λh=>?_
   ·refine cE<|aI<|aU<|aS<|dK h λn h=>aB (aZ Z Z (aE.fact 0 Z) Z Z n) Z<|aB (bU Z (aE.fact 0 Z) Z Z Z cS n) Z<|aC Z<|aK<|aR<|aA Z<|aA Z<|aB (Ub Z Z) Z<|aC Z<|fF<|mP<|aR<|cO Z<|aA Z<|aK ?_;exact Ai ((min a.1 (at' g a.2)),(wI .i64 (a.2+(1:Int)))) () h SF Z
   refine fE ?_;exact iI (a.1) () h SF Z
  intro d i h;unfold As at h;refine aS<|aA Z<|aC Z<|aK<|aP<|bO<|aH ?_;cases h;exact kM Z
 refine aS<|cC Z<|aC Z<|aK ?_;refine eZ h Z (λh=>?_) λh=>?_
 ·refine aS<|aA Z<|eL h λu D h=>aG (aJ.callQ QD (AT U f u D) Z (lJ [0] Z)) Z λT=>aA Z<|iG Z<|iG Z<|aC Z<|aC Z<|aK<|aS<|aA Z<|aC Z<|aK<|aP<|bO<|aH ?_;cases h;exact kM Z
 refine aS<|cC Z<|aC Z<|aK ?_;refine eZ h Z (λh=>?_) λh=>?_
 ·refine aS<|aC Z<|aK<|aI<|d_ (λe=>Cr U e=some r) (λe k=>[(10,vI (e))]) (λe k=>[]) ?_ ?_
  ·refine aS<|aA Z<|iH (aE.fact 0 Z) Z<|aA Z<|aK<|aU<|eH (tA U g) (λb m=>[(10,vI (b.1)),(61,f),(62,vI (List.length g:Int)),(63,vI (b.2))]) (λb m=>[]) ((0:Int),(0:Int)) () h SF (aY.refl _) ?_;intro J b m h;refine aS<|cP Z<|aK<|aI ?_;refine eZ h Z (λh=>?_) λh=>?_
   ·refine cE<|aI<|aU<|aS<|dK h λo h=>aB (aZ Z Z (aE.fact 0 Z) Z Z o) Z<|aB (bU Z (aE.fact 0 Z) Z Z Z cS o) Z<|aC Z<|aK<|aR<|aA Z<|aA Z<|cO Z<|aC Z<|fF<|mP<|aR<|cO Z<|aA Z<|aK ?_;exact Ai ((wI .i64 (b.1+(at' g b.2))),(wI .i64 (b.2+(1:Int)))) () h SF Z
   refine fE ?_;exact iI (b.1) () h SF Z
  intro e k h;refine aS<|aA Z<|eL h λv E h=>aG (aJ.callQ DT (mG U  v E) Z .nil) Z λV=>aC Z<|aK<|aP<|bO<|aH ?_;cases h;exact kM Z
 refine aS<|cC Z<|aC Z<|aK ?_;refine eZ h Z (λh=>?_) λh=>?_
 ·refine aS<|aA Z<|eL h λw F h=>aG (aJ.callQ XZ (PQ U f w F) Z (lJ [0] Z)) Z λW=>aC Z<|aK<|aP<|bO<|aH ?_;cases h;exact kM Z
 refine aS<|cC Z<|aC Z<|aK ?_;refine eZ h Z (λh=>?_) λh=>?_
 ·refine aS<|aA Z<|eL h λy G h=>aG (aJ.callQ QD (AT U f y G) Z (lJ [0] Z)) Z λX=>aA Z<|iG Z<|iG Z<|aC Z<|aC Z<|aK<|aS<|aA Z<|aC Z<|aK<|aP<|bO<|aH ?_;cases h;exact kM Z
 refine dJ<|mP<|aI<|aS<|aA Z<|iH (aE.fact 0 Z) Z<|cC Z<|aK ?_;refine eZ h Z (λh=>?_) λh=>?_
 ·refine aS<|aC Z<|aK<|aP<|aH ?_;cases h;exact kM Z
 refine cE<|aS<|aA Z<|dK h λp h=>aB (aZ Z Z (aE.fact 0 Z) Z Z p) Z<|aB (bU Z (aE.fact 0 Z) Z Z Z cS p) Z<|aC Z<|aK<|aP ?_;cases h;exact kM Z
def nO  (a:eD):Option iO:=
 some (a.1,a.2)
def kG (U:Nat) (a:Mq) (e:Int) (b:Bu) (c:Int):Option iO:=
 ck (0<=(List.length (at' a.1.2.1.2 a.2.2.1):Int)∧(List.length (at' a.1.2.1.2 a.2.2.1):Int)<=((24:Nat):Int)∧(List.length (at' a.1.2.1.2 a.2.2.1):Int)<=(List.length b.2:Int)) (Option.bind (Bn U ((at' a.2.2.2 e).1) (List.take (Int.toNat (List.length (at' a.1.2.1.2 a.2.2.1):Int)) b.2)) λd=>(nO  (d,c)))
def rP (U:Nat) (b:Mq) (c:Int) (a:Bu):Option iO:=
 if(List.length (at' b.1.2.1.2 b.2.2.1):Int)=(0:Int)then(Option.bind (Cy U b.2.2.2 c) λd=>(kG U b c a (d)))else(kG U b c a (a.1))
def kH (U:Nat) (b:Mq) (e:Int) (f:Zc->Int->Int->Option iO) (a:Int×Int×aT) (c:(Int×Int×aT)->Option iO):Option iO:=
 if a.2.1<(List.length (at' b.1.2.1.2 b.2.2.1):Int)then(Option.bind (f ((((((b.1.1.1,b.1.1.2.1,b.1.1.2.2)),((b.1.2.1.1,b.1.2.1.2)),b.1.2.2.1,b.1.2.2.2)),b.2.1,b.2.2.1,b.2.2.2)) (wI .i64 (e+(1:Int))) a.2.1) λd=>(ck ((0<=a.2.1∧a.2.1<((24:Nat):Int))∧List.length a.2.2=24) (c (d.2,(wI .i64 (a.2.1+(1:Int))),(List.set a.2.2 (Int.toNat a.2.1) d.1)))))else(rP U b e (a.1,a.2.2))
def dD (e:Zc->Int->Int->Option iO) (U:Nat) (a:Mq) (b:Int) (c:Int):Option iO:=
 ck (0<=b∧b<(List.length a.2.2.2:Int)) (if((at' a.2.2.2 b).1)<=(17:Int)then(Option.bind (lW U ((((((a.1.1.1,a.1.1.2.1,a.1.1.2.2)),((a.1.2.1.1,a.1.2.1.2)),a.1.2.2.1,a.1.2.2.2)),a.2.1,a.2.2.1,a.2.2.2)) ((((at' a.2.2.2 b).1),((at' a.2.2.2 b).2))) c) λm=>(some (m,(wI .i64 (b+(1:Int))))))else(if((at' a.2.2.2 b).1)<=(19:Int)then(Option.bind (e ((((((a.1.1.1,a.1.1.2.1,a.1.1.2.2)),((a.1.2.1.1,a.1.2.1.2)),a.1.2.2.1,a.1.2.2.2)),a.2.1,a.2.2.1,a.2.2.2)) (wI .i64 (b+(1:Int))) c) λl=>(Option.bind (Au U ((at' a.2.2.2 b).1) l.1) λj=>(some (j,l.2))))else(if((at' a.2.2.2 b).1)<=(29:Int)then(ck (0<=a.2.2.1∧a.2.2.1<(List.length a.1.2.1.2:Int)) (bP (kH U a b e) U ((0:Int),(0:Int),(List.replicate 24 (0:Int)))))else(if((at' a.2.2.2 b).1)<=(42:Int)then(Option.bind (e ((((((a.1.1.1,a.1.1.2.1,a.1.1.2.2)),((a.1.2.1.1,a.1.2.1.2)),a.1.2.2.1,a.1.2.2.2)),a.2.1,a.2.2.1,a.2.2.2)) (wI .i64 (b+(1:Int))) c) λf=>(Option.bind (e ((((((a.1.1.1,a.1.1.2.1,a.1.1.2.2)),((a.1.2.1.1,a.1.2.1.2)),a.1.2.2.1,a.1.2.2.2)),a.2.1,a.2.2.1,a.2.2.2)) f.2 c) λg=>(Option.bind (zA U ((at' a.2.2.2 b).1) f.1 g.1) λk=>(some (k,g.2)))))else(Option.bind (e ((((((a.1.1.1,a.1.1.2.1,a.1.1.2.2)),((a.1.2.1.1,a.1.2.1.2)),a.1.2.2.1,a.1.2.2.2)),a.2.1,a.2.2.1,a.2.2.2)) (wI .i64 (b+(1:Int))) c) λh=>(Option.bind (e ((((((a.1.1.1,a.1.1.2.1,a.1.1.2.2)),((a.1.2.1.1,a.1.2.1.2)),a.1.2.2.1,a.1.2.2.2)),a.2.1,a.2.2.1,a.2.2.2)) h.2 c) λi=>(Option.bind (e ((((((a.1.1.1,a.1.1.2.1,a.1.1.2.2)),((a.1.2.1.1,a.1.2.1.2)),a.1.2.2.1,a.1.2.2.2)),a.2.1,a.2.2.1,a.2.2.2)) i.2 c) λd=>(if h.1≠(0:Int)then(some (i.1,d.2))else(some (d.1,d.2))))))))))
def bV:Nat->Zc->Int->Int->Option iO
 |0,_,_,_=>none
 |U+1,p0,p1,p2=>dD (bV U) U p0 p1 p2
theorem Bi:aQ Tryz.prog 264:=Tryz.call264
theorem CJ (X:Zc->Int->Int->Option iO) (U:Nat) (p:∀{a:Mq} {m:Int} {M:Int} (b:Nat)  (f:Nat)  (q:Value)  (s:Value)  (t:Value)  (u:Value)  (C:mH)  (v:Value)  (D:wL)  (w:Value)  (g:wL)  (d:Value) (r:eD),X a m M=some r->bA Tryz.prog 264 #[vP b,vI (m),vI (M)] [bH b [vP f,w,vI (a.2.2.1),d] 255,bH f [vS (a.1.1.1),q,s,t,u,vI (a.1.2.2.1),v] 212,Sl aW q a.1.1.2.1,Sl aM s a.1.1.2.2,Sl bN t a.1.2.1.1,S2 aO u C a.1.2.1.2,S2 bN v D a.1.2.2.2,S2 bN w g a.2.1,Sl aO d a.2.2.2] (λx:Unit=>Value.tuple #[vI (r.1),vI (r.2)]) (λx l=>l) (λ_ l=>l)) {a:Mq} {m:Int} {M:Int} (b:Nat)  (f:Nat)  (q:Value)  (s:Value)  (t:Value)  (u:Value)  (C:mH)  (v:Value)  (D:wL)  (w:Value)  (g:wL)  (d:Value) (r:eD) (h:dD X U a m M=some r):
  bA Tryz.prog 264 #[vP b,vI (m),vI (M)] [bH b [vP f,w,vI (a.2.2.1),d] 255,bH f [vS (a.1.1.1),q,s,t,u,vI (a.1.2.2.1),v] 212,Sl aW q a.1.1.2.1,Sl aM s a.1.1.2.2,Sl bN t a.1.2.1.1,S2 aO u C a.1.2.1.2,S2 bN v D a.1.2.2.2,S2 bN w g a.2.1,Sl aO d a.2.2.2] (λx:Unit=>Value.tuple #[vI (r.1),vI (r.2)]) (λx l=>l) (λ_ l=>l):=by
 refine bA.of Tryz.func264 Z Tryz.ntmps264 Z λc=>?_;refine aS<|aC Z<|aC Z<|aK<|aS<|aA Z<|aB (bZ Z) Z<|bX Z<|aB (dC Z (aE.fact 0 Z) Z Z Z) Z<|aA Z<|dK h λj1 h=>aB (aZ Z Z (aE.fact 8 Z) Z Z j1) Z<|aB (c_ (cs:=[vI ((at' a.2.2.2 m).1),vI ((at' a.2.2.2 m).2)]) Z (aE.fact 8 Z) bB Z Z Z Z j1) Z<|aG (aJ.alloc (cs:=Ms) Z Z) Z λb2=>bR 0 (vs:=[vI ((at' a.2.2.2 m).1),vI ((at' a.2.2.2 m).2)]) Z Z Z Z Z Z<|aK<|aI<|aU<|aS<|bX Z<|cJ 0 Z<|aB (BO Z Z) Z<|aC Z<|aK ?_;refine eZ h Z (λh=>?_) λh=>?_
 ·refine aS<|aA Z<|dM 0 Z<|aA Z<|eL h λr4 w5 h=>aG (aJ.callQ XR (En U b f q s t u C v D w g d r4 w5) Z (lJ [0,1,2,3,4,5,6,7,8] Z)) Z λx6=>aA Z<|cO Z<|aC Z<|aC Z<|aK<|aP<|bO<|aH ?_;cases h;exact gZ () Z Z (RV.tmp Z) (RV.tmp Z) .nil aD.nil
 refine aS<|bX Z<|cJ 0 Z<|aB (BO Z Z) Z<|aC Z<|aK ?_;refine eZ h Z (λh=>?_) λh=>?_
 ·refine aS<|aA Z<|aA Z<|cO Z<|aA Z<|eL h λr8 w9 h=>aG (aJ.callQ Bi (p b f q s t u C v D w g d r8 w9) Z (lJ [0,1,2,3,4,5,6,7,8] Z)) Z λak=>aA Z<|iG Z<|iG Z<|aC Z<|aC Z<|aK<|aS<|bX Z<|cJ 0 Z<|aA Z<|eL h λP Y h=>aG (aJ.callQ XS (Mj U  P Y) Z .nil) Z λal=>aA Z<|aC Z<|aC Z<|aK<|aP<|bO<|aH ?_;cases h;exact gZ () Z Z (RV.tmp Z) (RV.tmp Z) .nil aD.nil
 refine aS<|bX Z<|cJ 0 Z<|aB (BO Z Z) Z<|aC Z<|aK ?_;refine eZ h Z (λh=>?_) λh=>?_
 ·refine aS<|aA Z<|bX Z<|cJ 0 Z<|aA Z<|gE (A:=eD) (B:=Unit) (vs:=[vP b,vI ((at' a.2.2.2 m).1),vI (m)]) (λn=>nO  n=some r) (λn G=>Value.tuple #[vI (n.1),vI (n.2)]) (λn G=>[]) (λn G=>[bH b [vP f,w,vI (a.2.2.1),d] 255,bH f [vS (a.1.1.1),q,s,t,u,vI (a.1.2.2.1),v] 212,Sl aW q a.1.1.2.1,Sl aM s a.1.1.2.2,Sl bN t a.1.2.1.1,S2 aO u C a.1.2.1.2,S2 bN v D a.1.2.2.2,S2 bN w g a.2.1,Sl aO d a.2.2.2]) (fU.fn (show aQ Tryz.prog 282 from Tryz.call282) Z) Tryz.func282 Z Tryz.ntmps282 Z Z ?_ ?_
  ·refine aS<|aC Z<|aC Z<|aK<|aS ?_;refine aG (aJ.alloc (cs:=cellsOf cM (List.replicate 24 (0:Int))) Z (by kernel_rfl)) Z λo=>?_;refine aK<|aI ?_;refine JR.start [0,1,3,7,15,31,63,127,0,256,768,1792,4095,8191,16383,32767] 12 mixedOrders (by decide +kernel) ?_;refine JR.open (by exact rfl) ?_;refine bE Z<|fY Z (bZ Z)<|cN Z<|bI Z .nil (h_ 0 Z) (dC Z (aE.fact 0 Z) Z Z Z) aN.z<|fY Z (bZ Z)<|cN Z<|cN Z<|bI Z .nil (h_ 1 Z) (dC Z (aE.fact 0 Z) Z Z Z) aN.z<|bE Z<|fY Z (bZ Z)<|cN Z<|bI Z .nil (h_ 0 Z) (dC Z (aE.fact 0 Z) Z Z Z) aN.z<|bK 12 Z Z<|dK h λE h=>aB (cQ Z Z (aE.fact 5 Z) Z Z E) Z<|aB (cL Z (aE.fact 5 Z) Z Z E) Z<|aB (fG Z (aE.el (aE.fact 5 Z) E.1 E.2) Z) Z<|aC Z<|aK<|aI<|d_ (λk=>rP U a m k=some r) (λk H=>[(0,vP b),(1,vI ((at' a.2.2.2 m).1)),(2,vI (m)),(7,vI (k.1)),(8,vP o),(9,vI (List.length (at' a.1.2.1.2 a.2.2.1):Int))]) (λk H=>[bH o (cellsOf cM k.2) 160]) ?_ ?_
   ·refine aS<|aA Z<|aA Z<|aK<|aU<|eH (kH U a m X) (λj J=>[(0,vP b),(1,vI ((at' a.2.2.2 m).1)),(2,vI (m)),(7,vI (j.1)),(8,vP o),(9,vI (List.length (at' a.1.2.1.2 a.2.2.1):Int)),(26,vI (List.length (at' a.1.2.1.2 a.2.2.1):Int)),(27,vI (j.2.1))]) (λj J=>[bH o (cellsOf cM j.2.2) 160]) ((0:Int),(0:Int),(List.replicate 24 (0:Int))) () h SF (aY.ix [0] Z Z) ?_;intro aj j J h;refine aS<|cP Z<|aK<|aI ?_;refine eZ h Z (λh=>?_) λh=>?_
    ·refine cE<|aI<|aU<|aS<|aA Z<|aC Z<|aK<|aR<|aA Z<|aA Z<|aA Z<|cO Z<|aA Z<|eL h λF ac h=>aG (aJ.callQ Bi (p b f q s t u C v D w g d F ac) Z (lJ [0,1,2,3,4,5,6,7,8] Z)) Z λao=>aA Z<|iG Z<|iG Z<|dK h λL h=>aB (iV Z Z Z Z Z L.1) Z<|Iv 0 (e:=cM) F.1 L Z Z Z Z Z Z Z<|aC Z<|fF<|mP<|aR<|cO Z<|aA Z<|aK ?_;exact Ai (F.2,(wI .i64 (j.2.1+(1:Int))),(List.set j.2.2 (Int.toNat j.2.1) F.1)) () h SF Z
    refine fE ?_;exact iI (j.1,j.2.2) () h SF Z
   intro k H h;refine aI<|d_ (λy=>kG U a m k y=some r) (λy I=>[(1,vI ((at' a.2.2.2 m).1)),(7,vI (y)),(8,vP o),(9,vI (List.length (at' a.1.2.1.2 a.2.2.1):Int))]) (λy I=>[bH o (cellsOf cM k.2) 160]) ?_ ?_
   ·refine aS<|aA Z<|cC Z<|aK ?_;refine eZ h Z (λh=>?_) λh=>?_
    ·refine aR<|aA Z<|aB (bZ Z) Z<|bX Z<|aB (dC Z (aE.fact 0 Z) Z Z Z) Z<|aA Z<|eL h λO ab h=>aG (aJ.callQ XP (PR U d O ab) Z (lJ [8] Z)) Z λan=>aC Z<|aK ?_;exact iI (O) () h SF Z
    refine cE ?_;exact iI (k.1) () h SF Z
   intro y I h;refine aS<|aA Z<|aA Z<|dK h λK h=>aB (OX Z Z Z Z K) Z<|eL h λN aa h=>aG (aJ.callQ XV (Oa U (Value.slice (some ⟨o,0,none⟩) (Int.toNat (List.length (at' a.1.2.1.2 a.2.2.1):Int)) 24) N aa) Z (aD.cons (TK (i:=0) Z cU K (by decide)) .nil)) Z λam=>?_;refine aA Z<|aC Z<|aC Z<|aK<|aP ?_;exact dO (N,y) () h (.inl Z) (uO.r2 Z (RV.tmp Z) (RV.tmp Z)) Z .nil (aD.refl _ _)
  intro n G h;unfold nO at h;refine iG Z<|iG Z<|aC Z<|aC Z<|aK<|aP<|bO<|aH ?_;cases h;exact gZ () Z Z (RV.tmp Z) (RV.tmp Z) (aY.refl _) aD.nil
 refine aS<|bX Z<|cJ 0 Z<|aB (BO Z Z) Z<|aC Z<|aK ?_;refine eZ h Z (λh=>?_) λh=>?_
 ·refine aS<|aA Z<|aA Z<|cO Z<|aA Z<|eL h λQ ad h=>aG (aJ.callQ Bi (p b f q s t u C v D w g d Q ad) Z (lJ [0,1,2,3,4,5,6,7,8] Z)) Z λap=>aA Z<|iG Z<|iG Z<|aC Z<|aC Z<|aK<|aS<|aA Z<|aA Z<|aA Z<|eL h λR ae h=>aG (aJ.callQ Bi (p b f q s t u C v D w g d R ae) Z (lJ [0,1,2,3,4,5,6,7,8] Z)) Z λaq=>aA Z<|iG Z<|iG Z<|aC Z<|aC Z<|aK<|aS<|bX Z<|cJ 0 Z<|aA Z<|aA Z<|eL h λS af h=>aG (aJ.callQ XT (JZ U  S af) Z .nil) Z λar=>aA Z<|aC Z<|aC Z<|aK<|aP<|bO<|aH ?_;cases h;exact gZ () Z Z (RV.tmp Z) (RV.tmp Z) .nil aD.nil
 refine dJ<|mP<|aS<|aA Z<|aA Z<|cO Z<|aA Z<|eL h λT ag h=>aG (aJ.callQ Bi (p b f q s t u C v D w g d T ag) Z (lJ [0,1,2,3,4,5,6,7,8] Z)) Z λau=>aA Z<|iG Z<|iG Z<|aC Z<|aC Z<|aK<|aS<|aA Z<|aA Z<|aA Z<|eL h λV ah h=>aG (aJ.callQ Bi (p b f q s t u C v D w g d V ah) Z (lJ [0,1,2,3,4,5,6,7,8] Z)) Z λav=>aA Z<|iG Z<|iG Z<|aC Z<|aC Z<|aK<|aS<|aA Z<|aA Z<|aA Z<|eL h λW ai h=>aG (aJ.callQ Bi (p b f q s t u C v D w g d W ai) Z (lJ [0,1,2,3,4,5,6,7,8] Z)) Z λaw=>aA Z<|iG Z<|iG Z<|aC Z<|aC Z<|aK<|aI<|aS<|aA Z<|oT Z<|aK ?_;refine eZ h Z (λh=>?_) λh=>?_
 ·refine aS<|aA Z<|aA Z<|aC Z<|aC Z<|aK<|aP<|aH ?_;cases h;exact gZ () Z Z (RV.tmp Z) (RV.tmp Z) .nil aD.nil
 refine cE<|aS<|aA Z<|aA Z<|aC Z<|aC Z<|aK<|aP ?_;cases h;exact gZ () Z Z (RV.tmp Z) (RV.tmp Z) .nil aD.nil
theorem Dt (U:Nat):∀{a:Mq} {p:Int} {q:Int} (b:Nat)  (c:Nat)  (f:Value)  (g:Value)  (i:Value)  (j:Value)  (n:mH)  (k:Value)  (o:wL)  (m:Value)  (e:wL)  (d:Value) (r:eD),bV U a p q=some r->
  bA Tryz.prog 264 #[vP b,vI (p),vI (q)] [bH b [vP c,m,vI (a.2.2.1),d] 255,bH c [vS (a.1.1.1),f,g,i,j,vI (a.1.2.2.1),k] 212,Sl aW f a.1.1.2.1,Sl aM g a.1.1.2.2,Sl bN i a.1.2.1.1,S2 aO j n a.1.2.1.2,S2 bN k o a.1.2.2.2,S2 bN m e a.2.1,Sl aO d a.2.2.2] (λx:Unit=>Value.tuple #[vI (r.1),vI (r.2)]) (λx l=>l) (λ_ l=>l):=by
 induction U with
 |zero=>intros;rename_i h;cases h
 |succ U s=>exact λb c f g i j n k o m e d r h=>CJ (bV U) U s b c f g i j n k o m e d r h
end Go.Proofs.YtjkjpdonlpdcaaaGreatDoor