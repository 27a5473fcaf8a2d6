/- Models and proofs. Conditions: none. -/
import Derived.Test.YtmdlcmbplnhdnaaGreatDoorZROn1
import Derived.Maps.RangeRun
set_option linter.unusedVariables false
set_option linter.unusedSimpArgs false
set_option maxHeartbeats 4000000
set_option maxRecDepth 20000
namespace Go.Sx
open Go.RowKit
section
variable {P:Program} {rd:Option Nat} {c:sR} {n:Sz} {σ:Fr} {M L M' L':List aX} {Q:Exit->Act->World->Prop} {ops:Array Oper} {rest:List Oper} {K:Act->World->Prop}
variable {d:Option Tmp} {D:Nat} {ty:TypeId} {pos:String} {aft:Array Edge} {g:Option (Nat×Bool)}
variable {α β:Type} {e:cO α} {r:eD α}
theorem aK.b {A:Nat->Bool} {f a M L:List aX} {j:Nat} {H:List (Nat×List aX×List aX)} (h:A j=true) (k:aK A f a H):aK A f a ((j,M,L)::H):=⟨.inl h,k⟩
theorem aK.h {A:Nat->Bool} {b a M L:List aX} {j:Nat} {H:List (Nat×List aX×List aX)} (h:aZ M b) (f:yZ L a) (k:aK A b a H):aK A b a ((j,M,L)::H):=⟨.inr ⟨h,f⟩,k⟩
theorem aK.z {A:Nat->Bool} {b a:List aX}:aK A b a []:=trivial
theorem yV.b {A:Nat->Bool} {f a M L:List aX} {j:Nat} {H:List (Nat×List aX×List aX)} (h:A j=true) (k:yV A M L H):yV A M L ((j,f,a)::H):=⟨.inl h,k⟩
theorem yV.h {A:Nat->Bool} {b a M L:List aX} {j:Nat} {H:List (Nat×List aX×List aX)} (h:aZ M b) (f:yZ L a) (k:yV A M L H):yV A M L ((j,b,a)::H):=⟨.inr ⟨h,f⟩,k⟩
theorem yV.z {A:Nat->Bool} {M L:List aX}:yV A M L []:=trivial
theorem kR {v:Value} {vs:List Value} (h:one v=true) (k:vs.all one=true):(v::vs).all one=true:=by simp[h,k]
theorem eL (k:IntKind) (x:Int):(Value.int k x).cells = #[.int k x]:=rfl
theorem dU (b:Bool):(Value.bool b).cells = #[.bool b]:=rfl
theorem dC (a:Option Addr) (l k:Nat):(Value.slice a l k).cells = #[.slice a l k]:=rfl
theorem eM (a:Option Addr):(Value.pointer a).cells = #[.pointer a]:=rfl
theorem eN (a:ByteArray):(Value.string a).cells = #[.string a]:=rfl
theorem dV (f:Fn) (a b:Array Value):(Value.func f a b).cells = #[.func f a b]:=rfl
theorem AB (q:Nat) {vs:List Value} {a:List (List α)} {k:Int} {u:Value} (s:M[q]? = some (kN e (vs.set k.toNat u) a)) (h:0<=k∧k<a.length):∀c w,St c M L w->Go.Sx.one u=true:=λc w t=>by
 obtain⟨S,p,x,m,_⟩:=t.res s;have f:k.toNat<vs.length:=by simp at p;omega
 obtain⟨_,_,o⟩:=m k.toNat u _ (by rw[List.getElem?_set_self f]) (List.getElem?_eq_getElem (by omega));rcases o with⟨i,_⟩|⟨b,v,j,T,l,i,_⟩<;>(rw[i];rfl)
theorem TA [cE P] [Inhabited α] {T o:TypeId} {C:Nat} {z:Value} {l:TypeDesc} {x:Operand} {b k:Nat} {i:Int} {f:List α} {u:Value} (m:ev σ x=some (.pointer (some ⟨b,i.toNat*1,none⟩)))
  (q:aE M L (bV b (cellsOf e f) o)) (v:cE.tab P T=some ⟨l,1,C,z⟩) (y:wS l=false) (A:e.sz=1) (B:(e.enc (at' f i))=[u]) (h:(0<=i∧i<(k:Int))∧f.length=k):
  Y P c n σ M L ⟨d,.load T x,ty,pos,aft,g⟩ u:=λa w s t=>by
 obtain⟨F,p⟩:=q.st t;have j:=uO e f i.toNat (at' f i) (gG h.1.1 (by omega)) 0 u (by rw[B];rfl);rw[A,Nat.add_zero]at j;rw[Nat.mul_one]at m j;simp[execOp,s.eval m,xA (cE.ok v) y (bV.cell p j)]
theorem IF [cE P] (q:Nat) {T j:TypeId} {B:Nat} {z:Value} {p:TypeDesc} {x y:Operand} {b k:Nat} {i:Int} {a:List α} {u:Value} (o:α) (h:(0<=i∧i<(k:Int))∧a.length=k) (m:ev σ x=some (.pointer (some ⟨b,i.toNat*1,none⟩))) (A:ev σ y=some u)
  (s:M[q]? = some (bV b (cellsOf e a) j)) (w:e.enc o=[u]) (f:one u=true) (t:cE.tab P T=some ⟨p,1,B,z⟩) (l:e.sz=1)
  (v:J c n σ (M.set q (bV b (cellsOf e (a.set i.toNat o)) j)) L (wpList P ops Q rest)):
  J c n σ M L (wpList P ops Q (⟨none,.store T x y,ty,pos,aft,none⟩::rest)):=by
 rw[Nat.mul_one]at m;refine gY q m A f s t ?_ ?_
 ·have:=dN e a;rw[l]at this;rw[Nat.blt_eq];omega
 ·rw[<-vD l w];exact v
end
end Go.Sx
namespace Go.Sx
section
abbrev vI (x:Int):Value:= .int .i64 x
abbrev vU (x:Int):Value:= .int .u32 x
abbrev vP (b:Nat):Value:= .pointer (some ⟨b,0,none⟩)
open Go.RowKit
variable {P:Program} {rd:Option Nat} {c:sR} {n:Sz} {σ:Fr} {M L:List aX} {Q:Exit->Act->World->Prop} {ops:Array Oper} {rest:List Oper} {d:Nat} {ty:TypeId} {pos:String} {aft:Array Edge} {x y:Operand} {v:Value} {K:Act->World->Prop}
theorem aA (h:(ev σ x,Nat.blt d n.sz)=(some v,true)) (k:J c n ((d,v)::σ) M L (wpList P ops Q rest)):J c n σ M L (wpList P ops Q (⟨some d,.move x,ty,pos,aft,none⟩::rest)):=aC (fZ (Prod.mk.inj h).1) (Prod.mk.inj h).2 k
theorem aD (h:(ev σ x,Nat.blt d n.sz)=(some v,true)) (k:J c n ((d,v)::σ) M L (wpList P ops Q rest)):J c n σ M L (wpList P ops Q (⟨some d,.assign x,ty,pos,aft,none⟩::rest)):=aC (lJ (Prod.mk.inj h).1) (Prod.mk.inj h).2 k
theorem bU [cE P] {T:TypeId} {r s i t:Nat} {z w:Value} {e:Array Field} {p u q:String} {m:Bool} {g a j:Nat} {l:TypeDesc} {b o f:Nat} (h:(ev σ x,cE.tab P T,e[f]?,cE.tab P g,i==0,Nat.blt d n.sz)=(some (.pointer (some ⟨b,o,none⟩)),some ⟨.struct e,r,s,z⟩,some ⟨p,g,a,m,u,q,j⟩,some ⟨l,i,t,w⟩,false,true)) (k:J c n ((d,.pointer (some ⟨b,o+a,none⟩))::σ) M L (wpList P ops Q rest)):J c n σ M L (wpList P ops Q (⟨some d,.fieldAddr T x f,ty,pos,aft,none⟩::rest)):=by
  simp only[Prod.mk.injEq]at h;exact aC (eT h.1 h.2.1 h.2.2.1 h.2.2.2.1 h.2.2.2.2.1) h.2.2.2.2.2 k
theorem dL [cE P] (i:Nat) {T e:TypeId} {f g:Nat} {z:Value} {a:TypeDesc} {b o:Nat} {cs:List Value} (h:(ev σ x,M[i]?,cE.tab P T,wS a,cs[o]?,Nat.blt d n.sz)=(some (.pointer (some ⟨b,o,none⟩)),some (bV b cs e),some ⟨a,f,g,z⟩,false,some v,true)) (k:J c n ((d,v)::σ) M L (wpList P ops Q rest)):J c n σ M L (wpList P ops Q (⟨some d,.load T x,ty,pos,aft,none⟩::rest)):=by
  simp only[Prod.mk.injEq]at h;exact aC (gV i h.1 h.2.1 h.2.2.1 h.2.2.2.1 h.2.2.2.2.1) h.2.2.2.2.2 k
theorem fG [cE P] (i:Nat) {T e:TypeId} {f:Nat} {z:Value} {a:TypeDesc} {b:Nat} {cs:List Value} (h:(ev σ x,M[i]?,cE.tab P T,wS a,Nat.blt d n.sz)=(some (.pointer (some ⟨b,0,none⟩)),some (bV b cs e),some ⟨a,cs.length,f,z⟩,true,true)) (k:J c n ((d,.agg cs.toArray)::σ) M L (wpList P ops Q rest)):J c n σ M L (wpList P ops Q (⟨some d,.load T x,ty,pos,aft,none⟩::rest)):=by
  simp only[Prod.mk.injEq]at h;exact aC (hZ i h.1 h.2.1 h.2.2.1 h.2.2.2.1) h.2.2.2.2 k
theorem aN {e:Op} {j:Nat} {b a:Bool} (h:(gv ops σ j,a==b,Nat.blt d n.sz)=(some a,false,true)) (k:J c n ((d,undef)::σ) M L (wpList P ops Q rest)):J c n σ M L (wpList P ops Q (⟨some d,e,ty,pos,aft,some (j,b)⟩::rest)):=by
  simp only[Prod.mk.injEq]at h;exact UO h.1 h.2.1 h.2.2 k
theorem eX {j:Nat} {b:Bool} (h:(gv ops σ j,ev σ x,Nat.blt d n.sz)=(some b,some v,true)) (k:J c n ((d,v)::σ) M L (wpList P ops Q rest)):J c n σ M L (wpList P ops Q (⟨some d,.move x,ty,pos,aft,some (j,b)⟩::rest)):=by
  simp only[Prod.mk.injEq]at h;exact aW h.1 (fZ h.2.1) h.2.2 k
theorem cX {t a:TypeId} {i:IntKind} {p q:Int} (h:(ev σ x,ev σ y,Nat.blt d n.sz)=(some (.int i p),some (.int i q),true)) (k:J c n ((d,.bool (decide (p<q)))::σ) M L (wpList P ops Q rest)):J c n σ M L (wpList P ops Q (⟨some d,.binOp .lss t x y a,ty,pos,aft,none⟩::rest)):=by
  simp only[Prod.mk.injEq]at h;exact aC (Kz h.1 h.2.1) h.2.2 k
theorem cN {t a:TypeId} {i:IntKind} {p q:Int} (h:(ev σ x,ev σ y,Nat.blt d n.sz)=(some (.int i p),some (.int i q),true)) (k:J c n ((d,.bool (decide (p=q)))::σ) M L (wpList P ops Q rest)):J c n σ M L (wpList P ops Q (⟨some d,.binOp .eql t x y a,ty,pos,aft,none⟩::rest)):=by
  simp only[Prod.mk.injEq]at h;exact aC (Vm h.1 h.2.1) h.2.2 k
theorem cP {t a:TypeId} {i:IntKind} {p q:Int} (h:(ev σ x,ev σ y,Nat.blt d n.sz)=(some (.int i p),some (.int i q),true)) (k:J c n ((d,.int i (wI i (p+q)))::σ) M L (wpList P ops Q rest)):J c n σ M L (wpList P ops Q (⟨some d,.binOp .add t x y a,ty,pos,aft,none⟩::rest)):=by
  simp only[Prod.mk.injEq]at h;exact aC (uD h.1 h.2.1) h.2.2 k
theorem cdI {e b:Code} {p:Prop} {_:Decidable p} {f:Type} {u w:Option f} {r:f} (h:(if p then u else w)=some r) (j:ev σ x=some (.bool (decide p))) (i:p->u=some r->J c n σ M L (e.wpr rd P Q)) (g:¬p->w=some r->J c n σ M L (b.wpr rd P Q)):J c n σ M L ((Code.cond x e b).wpr rd P Q):=YC j (λa=>i a (QJ a h)) (λa=>g a (ifN a h))
theorem fC {b a:Code} {p:Prop} {_:Decidable p} {e:Type} {u w:Option e} {r:e} (h:(if p then u else w)=some r) (i:ev σ x=some (.bool (decide p))) (g:u=some r->J c n σ M L (b.wpr rd P Q)) (f:w=some r->J c n σ M L (a.wpr rd P Q)):J c n σ M L ((Code.cond x b a).wpr rd P Q):=cdI h i (λ_=>g) (λ_=>f)
theorem Bm {f e:Code} {b:Bool} {g:Type} {u w:Option g} {r:g} (h:(if b=true then u else w)=some r) (k:ev σ x=some (.bool b)) (j:b=true->u=some r->J c n σ M L (f.wpr rd P Q)) (i:b=false->w=some r->J c n σ M L (e.wpr rd P Q)):J c n σ M L ((Code.cond x f e).wpr rd P Q):=LE k (λa=>j a (QJ a h)) (λa=>i a (Od a h))
theorem EN {d:Option Tmp} {f:Op} {j e:Nat} {p:Prop} {_:Decidable p} {b:Bool} {i:Type} {u w:Option i} {r:i} (h:(if p then u else w)=some r) (g:((ops[j]?).bind (·.dst),lk σ e)=(some e,some (.bool (decide p)))) (l:p->u=some r->J c n ((e,.bool true)::σ) M L (wpList P ops Q (⟨d,f,ty,pos,aft,some (j,b)⟩::rest))) (k:¬p->w=some r->J c n ((e,.bool false)::σ) M L (wpList P ops Q (⟨d,f,ty,pos,aft,some (j,b)⟩::rest))):J c n σ M L (wpList P ops Q (⟨d,f,ty,pos,aft,some (j,b)⟩::rest)):=UN (Prod.mk.inj g).1 (Prod.mk.inj g).2 (λa=>l a (QJ a h)) (λa=>k a (ifN a h))
theorem aM {ops:Array Oper} (h:J c n σ M L K):J c n σ M L (wpList P ops (Exit.then K Q) []):=h
theorem aU {id:Nat} {l:List Oper} {z:Code} (h:J c n σ M L (wpList P l.toArray (Exit.then (z.wpr rd P Q) Q) l)) (a:l.all jB=true:=by rfl):J c n σ M L ((Code.seq (Code.region id l.toArray false) z).wpr rd P Q):=aJ (aR h a)
variable {A B:Type} {ret:Unit->Value} {MO LO:Unit->List aX->List aX} {fn:Func} {C:A->Prop} {σI:A->B->Fr} {MI LI:A->B->List aX}
theorem lI {t:Tmp} (h:(ret (),fn.results,lk σ t,MO () [],LO () [],n.ds)=(v,#[.tmp t],some v,M,[],[])):J c n σ M L (fU P fn (LK c ret MO LO) .ret):=by
  simp only[Prod.mk.injEq]at h;exact iI () h.1 h.2.1 (RV.tmp h.2.2.1) (h.2.2.2.1▸aZ.refl _) (by rw[h.2.2.2.2.1];exact aF.nil) h.2.2.2.2.2
theorem vZ {t:Tmp} (h:(ret (),fn.results,lk σ t,MO () [],LO () [],n.ds)=(v,#[.tmp t],some v,[],[],[])):J c n σ M L (fU P fn (LK c ret MO LO) .ret):=by
  simp only[Prod.mk.injEq]at h;exact iI () h.1 h.2.1 (RV.tmp h.2.2.1) (by rw[h.2.2.2.1];exact aZ.nil) (by rw[h.2.2.2.2.1];exact aF.nil) h.2.2.2.2.2
theorem Ei {x:Code} (C:A->Prop) (σI:A->B->Fr) (MI:A->B->List aX) (e:J c n σ M L (x.wpr rd P (Exit.then (Va c n C σI MI (λ_ _=>L)) Q))) (f:∀a b,C a->J c n (σI a b) (MI a b) L K):J c n σ M L (x.wpr rd P (Exit.then K Q)):=By C σI MI (λ_ _=>L) e f
theorem e_ {R:Type} {f:Code} (e:A->(A->Option R)->Option R) {r:R} {U:Nat} (σI:A->B->Fr) (MI:A->B->List aX) (i:A) (j:B) (h:bK e U i=some r) (m:xU σ (σI i j)) (l:aZ M (MI i j)) (g:∀k a b,e a (bK e k)=some r->J c n (σI a b) (MI a b) L (f.wpr rd P (Exit.then (Yz c n e r σI MI (λ_ _=>L) k) Q))):J c n σ M L ((Code.loop f).wpr rd P Q):=Fg e σI MI (λ_ _=>L) i j h m l (aF.refl _ _) g
theorem fF {x:Code} (C:A->Prop) (σI:A->Unit->Fr) (MI:A->Unit->List aX) (e:J c n σ M L (x.wpr rd P (Exit.then (Va c n C σI MI (λ_ _=>L)) Q))) (f:∀a b,C a->J c n (σI a b) (MI a b) L K):J c n σ M L (x.wpr rd P (Exit.then K Q)):=Ei C σI MI e f
theorem cV (h:J c n σ M L K):J c n σ M L (Code.skip.wpr rd P (Exit.then K Q)):=dX h
theorem o_ {id:Nat} (h:J c n σ M L K):J c n σ M L (Exit.inBlock id (Exit.then K Q) .normal):=h
theorem gK {id:Nat} {a b:Act->World->Prop} (h:J c n σ M L K):J c n σ M L ((Code.exit id).wpr rd P (Exit.then a (Exit.then b (Exit.inBlock id (Exit.then K Q))))):=u_ (gU (gU (Az (AA h))))
theorem jP (x:A) (y:B) (a:C x) (b:xU σ (σI x y)) (h:(MI x y,LI x y)=(M,L)):J c n σ M L (Va c n C σI MI LI):=cU x y a b ((Prod.mk.inj h).1▸aZ.refl _) ((Prod.mk.inj h).2▸aF.refl _ _)
theorem AT {R:Type} {a:A->(A->Option R)->Option R} {r:R} {k:Nat} (x:A) (y:B) (h:bK a k x=some r) (b:xU σ (σI x y)) (e:(MI x y,LI x y)=(M,L)):J c n σ M L (Yz c n a r σI MI LI k):=nM x y h b ((Prod.mk.inj e).1▸aZ.refl _) ((Prod.mk.inj e).2▸aF.refl _ _)
theorem aL.callQ {A:Type} {ret:A->Value} {MO:A->List aX->List aX} {f:FuncId} {h:List Operand} {vs:List Value} {a:Array TypeId} {e:List aX} {d:Option Tmp} {g:Option (Nat×Bool)} (j:aT P f) (k:aY P f vs.toArray e ret MO (λ_ l=>l)) (m:h.map (ev σ)=vs.map some) (i:aF M L e) (b:∀x l,MO x l=MO x []++l:=by exact λ_ _=>rfl):aL P c n σ M L ⟨d,.call ⟨.value (.func f),h.toArray,a⟩,ty,pos,aft,g⟩ ret (λx=>MO x M) (λ_=>L):=PX j k m i b
variable {l:List Oper} {m:List Nat} {k0:Nat} {Bs:List (Nat×List aX×List aX)} {rs:List Nat} {i:Nat}
theorem bG (h:(l[i]?,ev σ x,Nat.blt i k0,Nat.blt d n.sz)=(some ⟨some d,.move x,ty,pos,aft,none⟩,some v,true,true)) (k:JR c n ((d,v)::σ) M L [] ((i,[],[])::Bs) (RW P l.toArray Q (before m) (cH l) k0 rs)):JR c n σ M L [] Bs (RW P l.toArray Q (before m) (cH l) k0 (i::rs)):=by
  simp only[Prod.mk.injEq]at h;exact bJ h.1 aZ.nil yZ.nil (fZ h.2.1) aK.z k h.2.2.1 Z h.2.2.2
theorem cY [cE P] {T:TypeId} {u w j D:Nat} {z F:Value} {e:Array Field} {s E t:String} {r:Bool} {g a p:Nat} {q:TypeDesc} {b o f:Nat} (h:(l[i]?,ev σ x,cE.tab P T,e[f]?,cE.tab P g,j==0,Nat.blt i k0,Nat.blt d n.sz)=(some ⟨some d,.fieldAddr T x f,ty,pos,aft,none⟩,some (.pointer (some ⟨b,o,none⟩)),some ⟨.struct e,u,w,z⟩,some ⟨s,g,a,r,E,t,p⟩,some ⟨q,j,D,F⟩,false,true,true)) (k:JR c n ((d,.pointer (some ⟨b,o+a,none⟩))::σ) M L [] ((i,[],[])::Bs) (RW P l.toArray Q (before m) (cH l) k0 rs)):JR c n σ M L [] Bs (RW P l.toArray Q (before m) (cH l) k0 (i::rs)):=by
  simp only[Prod.mk.injEq]at h;exact bJ h.1 aZ.nil yZ.nil (eT h.2.1 h.2.2.1 h.2.2.2.1 h.2.2.2.2.1 h.2.2.2.2.2.1) aK.z k h.2.2.2.2.2.2.1 Z h.2.2.2.2.2.2.2
theorem jO [cE P] (p:Nat) {T a:TypeId} {f g:Nat} {z:Value} {e:TypeDesc} {b o:Nat} {cs:List Value} (h:(l[i]?,ev σ x,M[p]?,cE.tab P T,wS e,cs[o]?,Nat.blt i k0,Nat.blt d n.sz)=(some ⟨some d,.load T x,ty,pos,aft,none⟩,some (.pointer (some ⟨b,o,none⟩)),some (bV b cs a),some ⟨e,f,g,z⟩,false,some v,true,true)) (k:JR c n ((d,v)::σ) M L [] ((i,[bV b cs a],[])::Bs) (RW P l.toArray Q (before m) (cH l) k0 rs)):JR c n σ M L [] Bs (RW P l.toArray Q (before m) (cH l) k0 (i::rs)):=by
  simp only[Prod.mk.injEq]at h;exact bJ h.1 (aZ.cons p h.2.2.1 aZ.nil) yZ.nil (gV 0 h.2.1 Z h.2.2.2.1 h.2.2.2.2.1 h.2.2.2.2.2.1) aK.z k h.2.2.2.2.2.2.1 Z h.2.2.2.2.2.2.2
theorem pG [cE P] (p:Nat) {T a:TypeId} {f:Nat} {z:Value} {e:TypeDesc} {b:Nat} {cs:List Value} (h:(l[i]?,ev σ x,M[p]?,cE.tab P T,wS e,Nat.blt i k0,Nat.blt d n.sz)=(some ⟨some d,.load T x,ty,pos,aft,none⟩,some (.pointer (some ⟨b,0,none⟩)),some (bV b cs a),some ⟨e,cs.length,f,z⟩,true,true,true)) (k:JR c n ((d,.agg cs.toArray)::σ) M L [] ((i,[bV b cs a],[])::Bs) (RW P l.toArray Q (before m) (cH l) k0 rs)):JR c n σ M L [] Bs (RW P l.toArray Q (before m) (cH l) k0 (i::rs)):=by
  simp only[Prod.mk.injEq]at h;exact bJ h.1 (aZ.cons p h.2.2.1 aZ.nil) yZ.nil (hZ 0 h.2.1 Z h.2.2.2.1 h.2.2.2.2.1) aK.z k h.2.2.2.2.2.1 Z h.2.2.2.2.2.2
end
theorem zD {X R:Type} {b:X->(X->Option R)->Option R} {r:R} (I:X->Prop) (e:X->Nat)
  (h:∀x f,I x->(∀c,I c->e c<e x->f c=some r)->b x f=some r):∀(a:Nat) (x:X),I x->e x<a->bK b a x=some r:=by
 intro a
 induction a with
 |zero=>intro x _ j;omega
 |succ k l=>
  intro x g j;exact h x _ g λc d i=>l c d (by omega)
def OK {R:Type} (Q:R->Prop) (o:Option R):Prop:=∃r,o=some r∧Q r
theorem xE {X R:Type} {step:X->(X->Option R)->Option R} {Q:R->Prop} (I:X->Prop) (d:X->Nat)
  (h:∀x e,I x->(∀b,I b->d b<d x->OK Q (e b))->OK Q (step x e)):∀(a:Nat) (x:X),I x->d x<a->OK Q (bK step a x):=by
 intro a
 induction a with
 |zero=>intro x _ i;omega
 |succ k j=>
  intro x f i;exact h x _ f λb c g=>j b c (by omega)
theorem cC {b:Type} {p:Prop} [Decidable p] (a:p) (x:Option b):ck p x=x:=if_pos a
theorem wr {x:Int} (a : -9223372036854775808<=x) (b:x<=9223372036854775807):wI .i64 x=x:=if_pos ⟨a,b⟩
theorem bF {a b:Type} {x:Option a} {y:a} {f:a->Option b} (h:x=some y):x.bind f=f y:=by rw[h];rfl
theorem adz {a:Type} (l r:List a) (x y:a) (i:Nat) (h:l.length=i):(l++x::r).set i y=l++y::r:=by
 rw[List.set_append_right _ _ (by omega)];simp[<-h]
theorem TG {a:Type} [Inhabited a] (l r:List a) (x:a) (i:Nat) (h:l.length=i):at' (l++x::r) (i:Int)=x:=by
 rw[fT,List.getD_eq_getElem?_getD,List.getElem?_append_right (by omega)];simp[<-h]
theorem eO {X R:Type} {step:X->(X->Option R)->Option R} {K:Option R} (N:Nat) (F:Nat->X) (c:∀(k:Nat) g,k<N->step (F k) g=g (F (k+1))) (e:∀g,step (F N) g=K):∀b,N<b->bK step b (F 0)=K:=by
 have i:∀(d a b:Nat),a+d=N->d<b->bK step b (F a)=K:=by
  intro d
  induction d with
  |zero=>
   intro a b j h;obtain rfl:a=N:=by omega
   obtain⟨f,rfl⟩:∃f,b=f+1:=⟨b - 1,by omega⟩
   exact e _
  |succ d l=>
   intro a b j h;obtain⟨f,rfl⟩:∃f,b=f+1:=⟨b - 1,by omega⟩
   show step (F a) (bK step f)=K;rw[c a _ (by omega)];exact l (a+1) f (by omega) (by omega)
 exact λb h=>i N 0 b (by omega) h
theorem wW {X R:Type} {step:X->(X->Option R)->Option R} {K bad:Option R} (N:Nat) (p:Nat->Prop) (F:Nat->X) (r:∀(k:Nat) c,k<N->p k->step (F k) c=c (F (k+1))) (i:∀(k:Nat) c,k<N->¬p k->step (F k) c=bad) (j:∀c,step (F N) c=K):
  ∀b,N<b->((∀k,k<N->p k)->bK step b (F 0)=K)∧(¬(∀k,k<N->p k)->bK step b (F 0)=bad):=by
 have s:∀(d a b:Nat),a+d=N->d<b->((∀k,a<=k->k<N->p k)->bK step b (F a)=K)∧(¬(∀k,a<=k->k<N->p k)->bK step b (F a)=bad):=by
  intro d
  induction d with
  |zero=>
   intro a b t q;obtain rfl:a=N:=by omega
   obtain⟨f,rfl⟩:∃f,b=f+1:=⟨b - 1,by omega⟩
   exact⟨λ_=>j _,λh=>absurd (λk m g=>by omega) h⟩
  | succ d ih =>
   intro a b t q;obtain⟨f,rfl⟩:∃f,b=f+1:=⟨b - 1,by omega⟩
   obtain⟨u,v⟩:=ih (a+1) f (by omega) (by omega);have e:bK step (f+1) (F a)=step (F a) (bK step f):=rfl;rw[e];by_cases n:p a
   ·rw[r a _ (by omega) n];refine⟨λh=>u λk m g=>h k (by omega) g,λh=>v λo=>h λk m g=> ?_⟩
    by_cases l:k=a
    ·subst l;exact n
    ·exact o k (by omega) g
   ·exact⟨λh=>absurd (h a (Nat.le_refl _) (by omega)) n,λ_=>i a _ (by omega) n⟩
 intro b q;obtain⟨m,g⟩:=s N 0 b (by omega) q;exact⟨λh=>m λk _ l=>h k l,λh=>g λo=>h λk l=>o k (by omega) l⟩
theorem zT {X R:Type} {step:X->(X->Option R)->Option R} {K:X->Option R} (N:Nat) (I:Nat->X->Prop) (e:∀(k:Nat) x i,k<N->I k x->∃c,I (k+1) c∧step x i=i c) (h:∀x i,I N x->step x i=K x):∀b x,I 0 x->N<b->∃c,I N c∧bK step b x=K c:=by
 have m:∀(d a b:Nat) (x:X),a+d=N->d<b->I a x->∃c,I N c∧bK step b x=K c:=by
  intro d
  induction d with
  |zero=>
   intro a b x p l g;obtain rfl:a=N:=by omega
   obtain⟨f,rfl⟩:∃f,b=f+1:=⟨b - 1,by omega⟩
   exact⟨x,g,h _ _ g⟩
  |succ d r=>
   intro a b x p l g;obtain⟨f,rfl⟩:∃f,b=f+1:=⟨b - 1,by omega⟩
   obtain⟨c,j,q⟩:=e a x (bK step f) (by omega) g;obtain⟨s,n,o⟩:=r (a+1) f c (by omega) (by omega) j;exact⟨s,n,by rw[<-o];exact q⟩
 exact λb x g l=>m N 0 b x (by omega) l g
def YZ (q:Nat->Bool):Nat->Bool
 |0=>false
 |k+1=>YZ q k||q k
theorem Vs {q:Nat->Bool}:∀{k:Nat},YZ q k=true↔∃i,i<k∧q i=true
 |0=>by simp[YZ]
 | k + 1 => by
  simp only[YZ,Bool.or_eq_true,Vs (k:=k)];constructor
  ·rintro(⟨i,b,a⟩|h)
   ·exact⟨i,by omega,a⟩
   ·exact⟨k,by omega,h⟩
  ·rintro⟨i,b,a⟩;by_cases e:i=k
   ·subst e;exact .inr a
   ·exact .inl ⟨i,by omega,a⟩
def AL (p:Nat->Bool):Nat->Nat
 |0=>0
 |k+1=>if p k then AL p k ||| 2^k else AL p k
theorem Ol (p:Nat->Bool):∀k,AL p k<2^k
 |0=>by simp[AL]
 |k+1=>by
  have h:=Ol p k;simp only[AL];split
  ·exact Nat.or_lt_two_pow (by omega) (Nat.pow_lt_pow_right (by omega) (by omega))
  ·omega
theorem KW (p:Nat->Bool) (j:Nat):∀k,(AL p k).testBit j=(decide (j<k)&&p j)
 |0=>by simp[AL]
 | k + 1 => by
  have h:=KW p j k;simp only[AL];by_cases e:j=k
  ·subst e;cases c:p j<;>simp[h,c]
  ·have a:decide (j<k+1)=decide (j<k):=decide_eq_decide.2 (by omega);have b:¬k=j:=λh=>e h.symm;split
   ·rw[Nat.testBit_or,h,Nat.testBit_two_pow,a];simp[b]
   ·rw[h,a]
end Go.Sx
section
set_option linter.unusedSectionVars false
namespace Go.Sx
open Go.RowKit
section defs
variable {κ ν:Type} [DecidableEq κ]
def Dg (a:κ->Value) (b:ν->Value):Nat->List (κ×ν)->List MapEntry
 |_,[]=>[]
 |i,x::xs=>⟨a x.1,b x.2,i⟩::Dg a b (i+1) xs
def lV (k:κ):List (κ×ν)->Option ν
 | []=>none
 |x::xs=>if k=x.1 then some x.2 else lV k xs
def BZ (k:κ) (v:ν):List (κ×ν)->List (κ×ν)
 | []=>[(k,v)]
 |x::xs=>if k=x.1 then(k,v)::xs else x::BZ k v xs
def TX (a:ν->Value) (k:κ):Nat->List (κ×ν)->Option (Nat×Value)
 |_,[]=>none
 |i,x::xs=>if k=x.1 then some (i,a x.2)else TX a k (i+1) xs
theorem Mm (a:ν->Value) (k:κ):∀(i:Nat) (l:List (κ×ν)),(TX a k i l).map (·.2)=(lV k l).map a
 |_,[]=>rfl
 |i,x::xs=>by
  simp only[TX,lV];split
  ·rfl
  ·exact Mm a k (i+1) xs
theorem JF (a:κ->Value) (b:ν->Value):∀(i:Nat) (l:List (κ×ν)) (x:κ×ν),Dg a b i (l++[x])=Dg a b i l++[⟨a x.1,b x.2,i+l.length⟩]
 |i,[],x=>rfl
 |i,y::ys,x=>by
  simp only[List.cons_append,Dg,JF a b (i+1) ys x,List.length_cons];rw[show i+1+ys.length=i+(ys.length+1) by omega]
theorem GT (k:κ) (v:ν):∀l:List (κ×ν),lV k l=none->BZ k v l=l++[(k,v)]
 | [],_=>rfl
 | x :: xs, h => by
  simp only[lV]at h;split at h
  ·cases h
  ·rename_i a;simp only[BZ,if_neg a,GT k v xs h,List.cons_append]
theorem Sj (a:κ->Value) (b:ν->Value) (k:κ) (v:ν):∀(i0 i:Nat) (l:List (κ×ν)) (j:Nat) (u:Value),TX b k i l=some (j,u)->
  i<=j∧((Dg a b i l)[j - i]?).map (·.key)=some (a k)∧Dg a b i (BZ k v l)=(Dg a b i l).modify (j - i) (λe=>{e with key:=a k,val:=b v})∧(BZ k v l).length=l.length
 |_,i,[],j,u,h=>by simp[TX]at h
 | i0, i, x :: xs, j, u, h => by
  simp only[TX]at h;split at h
  ·rename_i n;simp only[Option.some.injEq,Prod.mk.injEq]at h;obtain⟨rfl,_⟩:=h;simp[Dg,BZ,n]
  ·rename_i c;obtain⟨o,f,g,m⟩:=Sj a b k v i0 (i+1) xs j u h;have d:j - i=(j - (i+1))+1:=by omega
   refine⟨by omega,?_,?_,?_⟩
   ·rw[d];simpa [Dg]using f
   ·simp only[BZ,if_neg c,Dg];rw[d,List.modify_succ_cons,g]
   ·simp[BZ,c,m]
end defs
structure IG (P:Program) (kt:TypeId) {κ:Type} [DecidableEq κ] (ek:κ->Value):Prop where
 chk:∀b k w,(Instr.checkKey b 10000 kt (ek k)).run P w = .ok () w
 find:∀{ν:Type} (ev:ν->Value) (k:κ) (l:List (κ×ν)) w,(Instr.findKey kt (ek k) (Dg ek ev 0 l)).run P w = .ok (TX ev k 0 l) w
 same:∀k,Instr.sameBits 10000 (ek k) (ek k)=true
def Mp {b c:Type} (d:b->Value) (e:c->Value) (r:Nat) (l:List (b×c)):aX where
 p w F:=F r∧w.heap[r]? = some (.map (Dg d e 0 l).toArray l.length)
 mono:=fun⟨f,a⟩ h=>by
  obtain⟨g,i⟩:=h r f (Array.getElem?_eq_some_iff.1 a).1;exact⟨g,by rw[i];exact a⟩
section
variable {P:Program} {rd:Option Nat} {c:sR} {n:Sz} {σ:Fr} {M L:List aX} {Q:Exit->Act->World->Prop} {ops:Array Oper} {rest:List Oper}
variable {d:Option Tmp} {ty:TypeId} {pos:String} {aft:Array Edge} {g:Option (Nat×Bool)}
theorem St.push {w:World} (t:St c M L w) (o:Obj) {m:aX} (z:m.p (w.alloc o) (λk=>k=w.heap.size)):St c (m::M) L (w.alloc o):=by
 have e:LD w (w.alloc o):=(Below.refl _ _).alloc (Nat.le_refl _) _;obtain⟨v,F,b,x⟩:=t;have u:∀k,k<w.heap.size->(w.alloc o).heap[k]? = w.heap[k]? := e.block;refine⟨v.trans e,λi k=>match i with|0=>k=w.heap.size|i+1=>F i k,⟨?_,?_,?_⟩,λf y=> ?_⟩
 ·intro i A a;cases i with
  |zero=>simp at a;subst a;exact z
  |succ i=>exact aX.same (b.res i A (by simpa using a)) (λ_ h=>h) (λk _ s=>u k s)
 ·intro i k q;cases i with
  |zero=>subst q;exact⟨.inl v.size,by simp⟩
  |succ i=>exact⟨(b.rng i k q).1,Nat.lt_of_lt_of_le (b.rng i k q).2 e.size⟩
 ·intro i j k l r;cases i with
  |zero=>
   cases j with
   |zero=>rfl
   |succ j=>have:=(b.rng j k r).2;simp only at l;omega
  |succ i=>
   cases j with
   |zero=>have:=(b.rng i k l).2;simp only at r;omega
   |succ j=>exact congrArg (· + 1) (b.dis i j k l r)
 ·exact f.mono (x f y) λk q s=>⟨⟨q.1,λi l=>by
   cases i with
   |zero=>simp only at l;omega
   |succ i=>exact q.2 i l⟩,u k s⟩
variable {κ ν:Type} [DecidableEq κ] {ek:κ->Value} {ev:ν->Value}
theorem aL.makeMap (ek:κ->Value) (ev:ν->Value) {T:TypeId}:aL P c n σ M L ⟨d,.makeMap T none,ty,pos,aft,g⟩ (λr:Nat=> .map (some r)) (λr=>Mp ek ev r []::M) (λ_=>L):=λa w s t=>by
 have b:(execOp a.eval ⟨d,.makeMap T none,ty,pos,aft,g⟩).run P w = .ok (.value (.map (some w.heap.size))) (w.alloc (.map #[] 0)):=by
  simp[execOp,Instr.makeMap]
 simp only[Oper.wp,b,Oper.upon];exact⟨w.heap.size,rfl,t.push _ ⟨rfl,heap_alloc_new w _⟩⟩
theorem Rh [cE P] {T j m:TypeId} {C D E G:Nat} {z f:Value} {o:TypeDesc} {w:World} {r:Nat} {l:List (κ×ν)} {F:Nat->Prop} (i:IG P j ek) (q:(Mp ek ev r l).p w F)
  (s:cE.tab P T=some ⟨.map j m,C,D,z⟩) (t:cE.tab P m=some ⟨o,E,G,f⟩) (k:κ) (b:Bool):
  (Instr.lookup T (.map (some r)) (ek k) b).run P w = .ok (if b then .tuple #[((lV k l).map ev).getD f,.bool (lV k l).isSome]else((lV k l).map ev).getD f) w:=by
 have y:(getObj r).run P w = .ok (.map (Dg ek ev 0 l).toArray l.length) w:=by
  simp[getObj,Sem.run,q.2]
 have u:=i.find ev k l w;have a:=Mm ev k 0 l;simp only[Instr.lookup];simp[(cE.ok s).run_und w,y,i.chk,u];cases e:TX ev k 0 l with
 |none=>
  rw[e]at a;have:lV k l=none:=by cases h:lV k l<;>simp[h]at a ⊢
  simp[this,(cE.ok t).run_zero w]
 | some x =>
  rw[e]at a;obtain⟨v,A,B⟩:∃v,lV k l=some v∧ev v=x.2:=by
   cases h:lV k l with
   |none=>simp[h]at a
   |some v=>simp[h]at a;exact⟨v,rfl,a.symm⟩
  simp[A,B]
theorem NK [cE P] (j:Nat) {T e f:TypeId} {D E G H:Nat} {z h:Value} {i:TypeDesc} {x y:Operand} {r:Nat} {l:List (κ×ν)} (k:κ) {b:Bool} (v:IG P e ek) (B:Go.Sx.ev σ x=some (.map (some r))) (C:Go.Sx.ev σ y=some (ek k)) (q:M[j]? = some (Mp ek ev r l))
  (o:cE.tab P T=some ⟨.map e f,D,E,z⟩) (p:cE.tab P f=some ⟨i,G,H,h⟩) {u:Value} (A:((lV k l).map ev).getD h=u):
  Y P c n σ M L ⟨d,.lookup T x y b,ty,pos,aft,g⟩ (if b then .tuple #[u,.bool (lV k l).isSome]else u):=λa w s t=>by
 obtain⟨F,m⟩:=t.res q;subst A;simp[execOp,s.eval B,s.eval C,Rh v m o p]
theorem Do {w:World} {r:Nat} {a:Array MapEntry} {k:Nat} (h:w.heap[r]? = some (.map a k)) (o:Obj):(setObj r o).run P w = .ok () {w with heap:=w.heap.setIfInBounds r o}:=by
 simp[setObj,Sem.run,h]
theorem St.setMap {w:World} (t:St c M L w) {j r:Nat} {l b:List (κ×ν)} (f:M[j]? = some (Mp ek ev r l)) (o:Obj) (m:o = .map (Dg ek ev 0 b).toArray b.length):
  St c (M.set j (Mp ek ev r b)) L {w with heap:=w.heap.setIfInBounds r o}:=
 t.upd f Z Z Z (by simp) λF a _=>⟨λk _ i=>by
   rw[Array.getElem?_setIfInBounds_ne (λe=>i (by subst e;exact a.1))],F,⟨a.1,by
    rw[Array.getElem?_setIfInBounds_self_of_lt (Array.getElem?_eq_some_iff.1 a.2).1,m]⟩,λ_ h=> .inl h⟩
theorem Ni [cE P] (j:Nat) {T R vt:TypeId} {s1 s2:Nat} {z:Value} {x y v:Operand} {r:Nat} {l:List (κ×ν)} (k:κ) (f:ν) (C:IG P R ek) (Y:Go.Sx.ev σ x=some (.map (some r))) (hy:Go.Sx.ev σ y=some (ek k)) (X:Go.Sx.ev σ v=some (ev f)) (K:M[j]? = some (Mp ek ev r l))
  (I:cE.tab P T=some ⟨.map R vt,s1,s2,z⟩) (h:J c n σ (M.set j (Mp ek ev r (BZ k f l))) L (wpList P ops Q rest)):
  J c n σ M L (wpList P ops Q (⟨none,.mapUpdate T x y v,ty,pos,aft,none⟩::rest)):=λa w s t=>by
 refine lT Z ?_;obtain⟨F,E⟩:=t.res K;have N:(getObj r).run P w = .ok (.map (Dg ek ev 0 l).toArray l.length) w:=by
  simp[getObj,Sem.run,E.2]
 have b:=C.find ev k l w;have A:=Mm ev k 0 l;have B:∃o:Obj,(execOp a.eval ⟨none,.mapUpdate T x y v,ty,pos,aft,none⟩).run P w = .ok .skip {w with heap:=w.heap.setIfInBounds r o}∧o = .map (Dg ek ev 0 (BZ k f l)).toArray (BZ k f l).length:=by
  simp only[execOp,s.eval Y,s.eval hy,s.eval X,Instr.mapUpdate];cases m:TX ev k 0 l with
  |none=>
   rw[m]at A b;have U:lV k l=none:=by cases h:lV k l<;>simp[h]at A ⊢
   refine⟨.map (Dg ek ev 0 l++[(⟨ek k,ev f,l.length⟩:MapEntry)]).toArray (l.length+1),by simp[(cE.ok I).run_und w,N,C.chk,b,Do E.2],?_⟩
   rw[GT k f l U,JF];simp
  | some q =>
   obtain⟨i,u⟩:=q;rw[m]at b;obtain⟨_,D,H,S⟩:=Sj ek ev k f 0 0 l i u m;rw[Nat.sub_zero]at D H;have O:(((Dg ek ev 0 l).toArray[i]?).map (·.key)).getD (ek k)=ek k:=by
    rw[List.getElem?_toArray,D];rfl
   refine⟨.map ((Dg ek ev 0 l).toArray.modify i λe=>{e with key:=ek k,val:=ev f}) l.length,?_,?_⟩
   ·have G:(Instr.keyThatStays (ek k) (ek k)).run P w = .ok (ek k) w:=by simp[Instr.keyThatStays,C.same k]
    have p:(Option.map (λx=>x.key) (Dg ek ev 0 l)[i]?).getD (ek k)=ek k:=by rw[D];rfl
    simp[(cE.ok I).run_und w,N,C.chk,b,p,G,Do E.2]
   ·rw[H,S];simp
 obtain⟨o,W,V⟩:=B;simp only[Oper.wp,W,Oper.upon];exact h _ _ s (t.setMap K o V)
end
end Go.Sx
end
section
set_option linter.unusedSectionVars false
namespace Go.Sx
open Go.RowKit Go.ChangeMaps
def It (b m a:Nat) (c:List Nat):aX where
 p w F:=F b∧w.heap[b]? = some (.mapIter (some m) a c.toArray a)
 mono:=fun⟨e,d⟩ h=>by
  obtain⟨f,g⟩:=h b e (Array.getElem?_eq_some_iff.1 d).1;exact⟨f,by rw[g];exact d⟩
section
variable {κ ν:Type} [DecidableEq κ] {ek:κ->Value} {ev:ν->Value} {R:Type}
theorem MC (ek:κ->Value) (ev:ν->Value):∀(k:Nat) (l:List (κ×ν)) (e:MapEntry),e∈Dg ek ev k l->∃i a,l[i]? = some a∧e=⟨ek a.1,ev a.2,k+i⟩
 |_,[],e,h=>by simp[Dg]at h
 | k, x :: xs, e, h => by
  rcases List.mem_cons.1 h with rfl|h
  ·exact⟨0,x,rfl,rfl⟩
  ·obtain⟨i,a,b,c⟩:=MC ek ev (k+1) xs e h;exact⟨i+1,a,b,by rw[c,show k+1+i=k+(i+1) by omega]⟩
theorem MA (ek:κ->Value) (ev:ν->Value):∀(k:Nat) (l:List (κ×ν)) (i:Nat) (a:κ×ν),l[i]? = some a->(⟨ek a.1,ev a.2,k+i⟩:MapEntry)∈Dg ek ev k l
 |_,[],i,a,h=>by simp at h
 |k,x::xs,0,a,h=>by simp at h;subst h;exact List.mem_cons_self
 |k,x::xs,i+1,a,h=>by
  have:=MA ek ev (k+1) xs i a (by simpa using h);rw[show k+1+i=k+(i+1) by omega]at this;exact List.mem_cons_of_mem _ this
theorem Ou (ek:κ->Value) (ev:ν->Value):∀(k:Nat) (l:List (κ×ν)),(Dg ek ev k l).map (·.born)=List.range' k l.length
 |_,[]=>rfl
 |k,x::xs=>by simp[Dg,Ou ek ev (k+1) xs,List.range'_succ]
def Kk (a:κ×ν->Option R->Option R) (K:Option R) (l:List (κ×ν)):Option R:=l.foldr a K
def rem (l:List (κ×ν)) (a:List Nat):List (κ×ν):=((List.range l.length).filter (λi=> !a.contains i)).filterMap (λi=>l[i]?)
theorem KZ:∀l:List (κ×ν),(List.range l.length).filterMap (λi=>l[i]?)=l
 | []=>rfl
 |x::xs=>by
  rw[List.length_cons,List.range_succ_eq_map,List.filterMap_cons];simp only[List.getElem?_cons_zero,List.filterMap_map];congr 1;have:=KZ xs;simpa [Function.comp_def]using this
theorem aaB (l:List (κ×ν)):rem l []=l:=by
 unfold rem;rw[List.filter_eq_self.2 (by simp),KZ]
theorem XE {l:List (κ×ν)} {a:List Nat} {i:Nat} {m:κ×ν} (k:l[i]? = some m) (t:i∉a):∃n o,rem l a=n++m::o∧rem l (a++[i])=n++o:=by
 have g:=a_ k;have d:i∈(List.range l.length).filter (λi=> !a.contains i):=by simp[g,t]
 obtain⟨A,B,b⟩:=List.append_of_mem d;have c:((List.range l.length).filter (λi=> !a.contains i)).Nodup:=List.Pairwise.filter _ List.nodup_range;rw[b]at c;have r:i∉A:=λh=>by
  have:=(List.nodup_append.1 c).2.2 i h i List.mem_cons_self;exact this Z
 have s:i∉B:=λh=>by
  have:=(List.nodup_cons.1 (List.nodup_append.1 c).2.1).1;exact this h
 refine⟨A.filterMap (λi=>l[i]?),B.filterMap (λi=>l[i]?),?_,?_⟩
 ·unfold rem;rw[b,List.filterMap_append,List.filterMap_cons,k]
 ·unfold rem;have e:(List.range l.length).filter (λj=> !(a++[i]).contains j)=((List.range l.length).filter (λj=> !a.contains j)).filter (λj=>decide (j≠i)):=by
   rw[List.filter_filter];apply List.filter_congr;intro j _;rw[Bool.eq_iff_iff];simp[and_comm]
  rw[e,b,List.filter_append,List.filter_cons];have p:A.filter (λj=>decide (j≠i))=A:=List.filter_eq_self.2 (λj f=>by simp;rintro rfl;exact r f);have q:B.filter (λj=>decide (j≠i))=B:=List.filter_eq_self.2 (λj f=>by simp;rintro rfl;exact s f);rw[p,q,List.filterMap_append.symm];simp
theorem KY {c:κ×ν->Option R->Option R} (f:∀a b x,c a (c b x)=c b (c a x)) (K:Option R) (d:κ×ν) (e:List (κ×ν)):∀g:List (κ×ν),Kk c K (g++d::e)=c d (Kk c K (g++e))
 | []=>rfl
 |x::xs=>by
  have:=KY f K d e xs;unfold Kk at this ⊢;rw[List.cons_append,List.cons_append,List.foldr_cons,List.foldr_cons,this,f]
end
section
variable {P:Program} {rd:Option Nat} {c:sR} {n:Sz} {σ σ':Fr} {M L M' L':List aX} {Q:Exit->Act->World->Prop} {ops:Array Oper} {rest:List Oper}
variable {d:Option Tmp} {ty:TypeId} {pos:String} {aft:Array Edge} {g:Option (Nat×Bool)}
variable {κ ν:Type} [DecidableEq κ] {ek:κ->Value} {ev:ν->Value} {R:Type}
theorem aL.range [cE P] (j:Nat) {T f h:TypeId} {q r:Nat} {z:Value} {x:Operand} {m:Nat} {l:List (κ×ν)} (p:Go.Sx.ev σ x=some (.map (some m))) (o:M[j]? = some (Mp ek ev m l)) (k:cE.tab P T=some ⟨.map f h,q,r,z⟩):
  aL P c n σ M L ⟨d,.range T x,ty,pos,aft,g⟩ (λb:Nat=> .pointer (some ⟨b,0,none⟩)) (λb=>It b m l.length []::M) (λ_=>L):=λa w s t=>by
 obtain⟨F,i⟩:=t.res o;have e:(execOp a.eval ⟨d,.range T x,ty,pos,aft,g⟩).run P w = .ok (.value (.pointer (some ⟨w.heap.size,0,none⟩))) (w.alloc (.mapIter (some m) l.length #[] l.length)):=by
  simp[execOp,s.eval p,run_range_map w T f h m _ _ (cE.ok k).und i.2]
 simp only[Oper.wp,e,Oper.upon];exact⟨w.heap.size,rfl,t.push _ ⟨rfl,heap_alloc_new w _⟩⟩
def FL (ek:κ->Value) (ev:ν->Value) (l:List (κ×ν)):Option Nat->Value
 |none=> .tuple #[.bool false]
 |some i=>match l[i]? with
  |some a=> .tuple #[.bool true,ek a.1,ev a.2]
  |none=>undef
def adm (b:Nat) (a:List Nat):Option Nat->Prop
 |none=>∀i,i<b->i∈a
 |some i=>i<b∧i∉a
def SE (M:List aX) (f b m e:Nat) (a:List Nat):Option Nat->List aX
 |none=>M
 |some i=>M.set f (It b m e (a++[i]))
theorem St.pureL {w:World} {p:Prop} (hp:p) (t:St c M L w):St c M (abI p::L) w:=by
 obtain⟨ho,F,hF,hL⟩:=t;refine⟨ho,F,hF,λf hf=> ?_⟩
 rcases List.mem_cons.1 hf with rfl|hf
 ·exact hp
 ·exact hL f hf
theorem aL.next (jm ji:Nat) {x:Operand} {b m:Nat} {l:List (κ×ν)} {seen:List Nat} (hx:Go.Sx.ev σ x=some (.pointer (some ⟨b,0,none⟩))) (hf:M[jm]? = some (Mp ek ev m l)) (hi:M[ji]? = some (It b m l.length seen)):
  aL P c n σ M L ⟨d,.next x false,ty,pos,aft,g⟩ (FL ek ev l) (SE M ji b m l.length seen) (λo=>abI (adm l.length seen o)::L):=λa w s t=>by
 obtain⟨F,hF⟩:=t.res hf;obtain⟨G,hG⟩:=t.res hi;have hold:∀e∈(Dg ek ev 0 l).toArray.toList,e.born<l.length:=λe he=>by
  obtain⟨i,kv,h1,h2⟩:=MC ek ev 0 l e (by simpa using he);rw[h2];have:=a_ h1;simp;omega
 rcases run_next_at (P:=P) w ty b m l.length l.length seen.toArray (Dg ek ev 0 l).toArray l.length hG.2 hF.2 hold (Nat.le_refl _)with⟨h0,hr⟩|⟨e,he,w1,hw1,hr⟩
 ·have hrun:(execOp a.eval ⟨d,.next x false,ty,pos,aft,g⟩).run P w = .ok (.value (.tuple #[.bool false])) w:=by
   simp[execOp,s.eval hx,hr]
  simp only[Oper.wp,hrun,Oper.upon];refine⟨none,rfl,t.pureL λi hi'=> ?_⟩
  obtain⟨kv,hkv⟩:∃kv,l[i]? = some kv:=⟨_,List.getElem?_eq_getElem hi'⟩
  have:=all_seen _ _ h0 _ (by simpa using MA ek ev 0 l i kv hkv);simpa using this
 ·have hml:=_root_.Go.mem_left he;obtain⟨i,kv,h1,h2⟩:=MC ek ev 0 l e (by simpa using hml.1);subst h2;rw[Nat.zero_add]at hr hml;have hrun:(execOp a.eval ⟨d,.next x false,ty,pos,aft,g⟩).run P w = .ok (.value (.tuple #[.bool true,ek kv.1,ev kv.2])) (setBlock w1 b (.mapIter (some m) l.length (seen.toArray.push i) l.length)):=by
   simp[execOp,s.eval hx,hr]
  simp only[Oper.wp,hrun,Oper.upon];have t1:St c M L w1:=by
   rcases hw1 with rfl|rfl
   ·exact t
   ·exact t.ext ((Below.refl _ _).drew)
  refine⟨some i,by simp[FL,h1],St.pureL ⟨a_ h1,by simpa using hml.2⟩ ?_⟩
  refine t1.upd hi Z Z Z (by simp[setBlock]) λF hF _=>⟨λk _ hk=> ?_,F,⟨hF.1,?_⟩,λ_ h=> .inl h⟩
  ·simp only[setBlock];rw[Array.getElem?_setIfInBounds_ne (λe=>hk (by subst e;exact hF.1))]
  ·simp only[setBlock];rw[Array.getElem?_setIfInBounds_self_of_lt (Array.getElem?_eq_some_iff.1 hF.2).1];simp
theorem aL.entry (A z:Nat) {x:Operand} {b m i:Nat} {l:List (κ×ν)} {f:List Nat} {e:κ×ν} (j:l[i]? = some e) (y:Go.Sx.ev σ x=some (.pointer (some ⟨b,0,none⟩))) (q:M[A]? = some (Mp ek ev m l)) (r:M[z]? = some (It b m l.length (f++[i]))):
  aL P c n σ M L ⟨d,.entry x,ty,pos,aft,g⟩ (λ_:Unit=> .tuple #[ek e.1,ev e.2]) (λ_=>M) (λ_=>L):=λa w s t=>by
 obtain⟨F,o⟩:=t.res q;obtain⟨G,p⟩:=t.res r;have k:=MA ek ev 0 l i e j;rw[Nat.zero_add]at k;have u:((Dg ek ev 0 l).toArray.toList.map (·.born)).Nodup:=by
  simp only[Ou];exact List.nodup_range'
 have v:=run_entry_at (P:=P) w b m l.length f.toArray (Dg ek ev 0 l).toArray l.length ⟨ek e.1,ev e.2,i⟩ (by rw[p.2];simp) o.2 (by simpa using k) u;have h:(execOp a.eval ⟨d,.entry x,ty,pos,aft,g⟩).run P w = .ok (.value (.tuple #[ek e.1,ev e.2])) w:=by
  simp[execOp,s.eval y,v]
 simp only[Oper.wp,h,Oper.upon];exact⟨(),by first|rfl|trivial,t⟩
theorem YG {G:Act->World->Prop} (σ':Fr) (M' L':List aX) (f:xU σ σ') (e:aZ M M') (b:aF [] L L') (h:J c n σ' M' L' G):J c n σ M L G:=λa w s t=>h a w (s.weak f) (t.weakE e b)
theorem PW {e:TypeId} {d:TypeDesc} (p:P.underlying e=some d) (m:∀b k w,(Instr.checkKey b 10000 e (ek k)).run P w = .ok () w) (o:∀a b,Instr.sameNow d (ek a) (ek b)=none)
  (r:∀a b w,(Op.equal e (ek a) (ek b)).run P w = .ok (decide (a=b)) w) (f:∀k,Instr.sameBits 10000 (ek k) (ek k)=true):IG P e ek:=by
 refine⟨m,λ{ν'} ev' k l w=> ?_,f⟩
 have j:∀(l:List (κ×ν')) (i:Nat),(Instr.findAsking e (ek k) (Dg ek ev' i l) i).run P w = .ok (TX ev' k i l) w:=by
  intro l
  induction l with
  |nil=>intro i;simp[Dg,TX,Instr.findAsking]
  |cons x q t=>
   intro i;simp only[Dg,TX,Instr.findAsking];simp[r];by_cases h:k=x.1
   ·simp[h]
   ·simp[h,t]
 unfold Instr.findKey;cases l with
 |nil=>simp[Dg,TX,Instr.findNow,run_underlying p w]
 |cons x q=>
  have s:Instr.findNow d (ek k) (Dg ek ev' 0 (x::q)) 0=none:=by simp[Dg,Instr.findNow,o]
  simp[run_underlying p w,s,j]
def U_ {R:Type} (c:sR) (n:Sz) (σ:Fr) (M L:List aX) (x:Option R) (r:R) (a:Act) (w:World):Prop:=x=some r∧EG n σ a∧St c M L w
theorem PU {R:Type} {x:Option R} {r:R} (h:x=some r) (e:xU σ' σ) (b:aZ M' M) (a:aF [] L' L):J c n σ' M' L' (U_ c n σ M L x r):=λ_ _ s t=>⟨h,s.weak e,t.weakE b a⟩
theorem To (p:κ×ν->Option R->Option R) {K:Option R} {r:R} (O s:Nat) {b m:Nat} {l:List (κ×ν)} (hc:∀a b x,p a (p b x)=p b (p a x)) (h:Kk p K l=some r)
  (hf:M[O]? = some (Mp ek ev m l)) (U:M[s]? = some (It b m l.length [])) (af:Nat.beq s O=false) {t0 S T:Tmp} (hx:lk σ t0=some (.pointer (some ⟨b,0,none⟩))) (ab:Nat.blt S n.sz=true) (E:Nat.blt T n.sz=true)
  {id ex:Nat} {y1 y2:TypeId} {q1 q2:String} {f1 f2:Array Edge} {y:Code}
  (C:∀(t:κ×ν) (i:Nat) (k:List Nat) (x:Option R),l[i]? = some t->p t x=some r->
   J c n ((T,.bool true)::(S,.tuple #[.bool true,ek t.1,ev t.2])::σ) (M.set s (It b m l.length (k++[i]))) L (y.wpr rd P (Exit.then (U_ c n σ (M.set s (It b m l.length (k++[i]))) L x r) Q)))
  (V:∀k,K=some r->J c n ((T,.bool false)::(S,.tuple #[.bool false])::σ) (M.set s (It b m l.length k)) L (Q (.exit ex))):
  J c n σ M L ((Code.loop (Code.seq (Code.region id [⟨some S,.next (.tmp t0) false,y1,q1,f1,none⟩,⟨some T,.extract (.tmp S) 0,y2,q2,f2,none⟩].toArray false) (Code.seq (Code.cond (.tmp T) .skip (.exit ex)) y))).wpr rd P Q):=by
 have z:=a_ U;have ae:O≠s:=λe=>by subst e;simp at af
 have H:M.set s (It b m l.length [])=M:=by
  apply List.ext_getElem?;intro q;by_cases eq:q=s
  ·subst eq;rw[List.getElem?_set_self z,U]
  ·rw[List.getElem?_set_ne (Ne.symm eq)]
 refine UQ (X:=List Nat) (λk=>k.Nodup∧(∀i∈k,i<l.length)∧Kk p K (rem l k)=some r) (λ_=>σ) (λk=>M.set s (It b m l.length k)) (λ_=>L) (λk=>l.length - k.length) [] ⟨List.nodup_nil,by simp,by rw[aaB];exact h⟩ (xU.refl _) (by rw[H];exact aZ.refl _) (λ_ h=>h) ?_;rintro k ⟨G,F,v⟩;have ac:(M.set s (It b m l.length k))[O]? = some (Mp ek ev m l):=by rw[List.getElem?_set_ne (Ne.symm ae)];exact hf
 have ad:(M.set s (It b m l.length k))[s]? = some (It b m l.length k):=List.getElem?_set_self z;refine aJ (aR (aG (aL.next O s (x:= .tmp t0) hx ac ad) ab λo=> ?_));refine abE List.mem_cons_self λho=> ?_;refine abG (M':=SE (M.set s (It b m l.length k)) s b m l.length k o) (L':=L) ?_ (xU.refl _) (aZ.refl _) (λf hf=>List.mem_cons_of_mem _ hf);cases o with
 | none =>
  refine aC (lE (vs:=[.bool false]) (by simp[FL,lk,Go.Sx.ev]) Z) E (eR (AA (aJ (HX (by simp[lk,Go.Sx.ev]) (u_ (gU (gU ?_)))))));refine V k ?_;have:rem l k=[]:=by
   unfold rem;rw[List.filter_eq_nil_iff.2 (λi U=>by simpa using ho i (by simpa using U))];rfl
  rw[this]at v;exact v
 | some i =>
  obtain⟨W,Y⟩:=ho;obtain⟨t,A⟩:∃t,l[i]? = some t:=⟨_,List.getElem?_eq_getElem W⟩
  have N:FL ek ev l (some i) = .tuple #[.bool true,ek t.1,ev t.2]:=by simp[FL,A]
  obtain⟨l1,l2,e1,e2⟩:=XE A Y;have B:p t (Kk p K (rem l (k++[i])))=some r:=by
   rw[e2,<-KY hc K t l2 l1,<-e1];exact v
  have aa:SE (M.set s (It b m l.length k)) s b m l.length k (some i)=M.set s (It b m l.length (k++[i])):=by simp[SE]
  rw[N,aa];refine aC (lE (vs:=[.bool true,ek t.1,ev t.2]) (by simp[lk,Go.Sx.ev]) Z) E (eR (AA (aJ (Rz (by simp[lk,Go.Sx.ev]) (dX (AA ?_))))));refine UR (C t i k _ A B) λa w hw=>Gk (λe a' w' q=> ?_) hw;cases e with
  | normal =>
   obtain⟨ai,ag,ah⟩:=q;refine⟨k++[i],⟨?_,?_,ai⟩,?_,ag,ah⟩
   ·rw[List.nodup_append];exact⟨G,by simp,λa ha b D=>by simp at D;subst D;rintro rfl;exact Y ha⟩
   ·intro j u;rcases List.mem_append.1 u with u|u
    ·exact F j u
    ·simp at u;subst u;exact W
   ·have:k.length<l.length:=by
     have I:(k++[i]).length<=(List.range l.length).length:=by
      apply List.Nodup.length_le_of_subset
      ·rw[List.nodup_append];exact⟨G,by simp,λa ha b D=>by simp at D;subst D;rintro rfl;exact Y ha⟩
      ·intro j u;rcases List.mem_append.1 u with u|u
       ·simpa using F j u
       ·simp at u;subst u;simpa using W
     simp at I;omega
    simp;omega
  |exit id=>exact q
  |goto l=>exact q
  |ret=>exact q
  |panic ch=>exact q
  |outgrown=>exact q
end
end Go.Sx
end
namespace Go.Sx
open Go.RowKit
section
variable {P:Program} {rd:Option Nat} {c:sR} {n:Sz} {σ σ':Fr} {M L M' L':List aX} {Q:Exit->Act->World->Prop} {ops:Array Oper} {rest:List Oper} {K:Act->World->Prop} {G:Act->World->Prop}
variable {d:Option Tmp} {D:Nat} {ty:TypeId} {pos:String} {aft:Array Edge} {g:Option (Nat×Bool)}
variable {α β:Type} {e:cO α} {r:eD α}
def EE (P:Program) (f:FuncId) (a:Array Value) (Min L:List aX) {A:Type} (b:A->Value) (h:A->List aX->List aX):Prop:=
 ∀c:sR,St c Min L c.w0->Calls P f a c.w0 λe i=>∃x:A,e = .returned (b x)∧St c (h x []) [] i
theorem EE.of {A:Type} {b:A->Value} {q:A->List aX->List aX} {f:FuncId} {i:Func} {a:Code} {vs:List Value} {m:Nat} {Min:List aX}
  (u:P.funcs[f]? = some i) (s:i.body=some a) (x:i.ntmps=m) (w:Nat.ble vs.length m=true)
  (h:∀c:sR,J c ⟨m,[]⟩ (vH 0 vs) Min L (a.wpr none P (fU P i (LK c b q (λ_ l=>l))))):EE P f vs.toArray Min L b q:=λc t=>by
 have o:vs.length<=m:=by simpa using w
 refine rQ u s (h c _ _ ⟨rfl,by simp[x,o],?_⟩ t);intro t v y;obtain⟨_,j⟩:=Dc vs 0 t v y;rw[Nat.sub_zero]at j;have p:t<vs.length:=by
  rcases Nat.lt_or_ge t vs.length with k|k
  ·exact k
  ·rw[List.getElem?_eq_none k]at j;cases j
 rw[Array.getElem?_append_left (by simpa using p)];simpa using j
theorem Vj {w S:World} {l H v:List aX} {F:Nat->Nat->Prop} {U:Nat->Prop} (y:Bh c.O c.w0 w) (o:Own c w (l++H) F) (Y:∀f∈L,f.p w (Cz c F))
  (t:St ⟨w,U,λk=>∃i,i<l.length∧F i k⟩ v [] S):St c (v++H) L S:=by
 obtain⟨s,T,u,_⟩:=t;have C:=s.size;have x:∀k,k<w.heap.size->(∀i,i<l.length->¬F i k)->S.heap[k]? = w.heap[k]? := λk a hn=>s.block k a (fun⟨i,B,o⟩=>hn i B o);have b:∀i k,T i k->w.heap.size<=k∨∃j,j<l.length∧F j k:=λi k a=>(u.rng i k a).1;refine⟨⟨s.os.trans y.os,s.tape.trans y.tape,s.output.trans y.output,Nat.le_trans y.size C,λk a W=> ?_⟩,
  λi k=>(i<v.length∧T i k)∨(v.length<=i∧F (i - v.length+l.length) k),⟨?_,?_,?_⟩,λf hf=> ?_⟩
 ·refine(x k (Nat.lt_of_lt_of_le a y.size) (λi _ I=> ?_)).trans (y.block k a W);rcases(o.rng i k I).1 with h|h
  ·omega
  ·exact W h
 ·intro i m E;by_cases B:i<v.length
  ·rw[List.getElem?_append_left B]at E;exact aX.same (u.res i m E) (λk a=> .inl ⟨B,a⟩) (λ_ _ _=>rfl)
  ·rw[List.getElem?_append_right (by omega)]at E;have R:(l++H)[i - v.length+l.length]? = some m:=by
    rw[List.getElem?_append_right (by omega),Nat.add_sub_cancel];exact E
   exact aX.same (o.res _ m R) (λk a=> .inr ⟨by omega,a⟩) (λk a N=>x k N (λj X J=>by have:=o.dis _ _ k J a;omega))
 ·rintro i k (⟨_,a⟩|⟨_,a⟩)
  ·refine⟨?_,(u.rng i k a).2⟩
   rcases b i k a with h|⟨j,_,h⟩
   ·exact .inl (Nat.le_trans y.size h)
   ·exact(o.rng j k h).1
  ·exact⟨(o.rng _ k a).1,Nat.lt_of_lt_of_le (o.rng _ k a).2 C⟩
 ·rintro i j k (⟨B,z⟩|⟨B,z⟩) (⟨X,A⟩|⟨X,A⟩)
  ·exact u.dis i j k z A
  ·rcases b i k z with h|⟨q,hq,h⟩
   ·have:=(o.rng _ k A).2;omega
   ·have:=o.dis _ _ k h A;omega
  ·rcases b j k A with h|⟨q,hq,h⟩
   ·have:=(o.rng _ k z).2;omega
   ·have:=o.dis _ _ k h z;omega
  ·have:=o.dis _ _ k z A;omega
 ·refine f.mono (Y f hf) λk a N=>⟨⟨a.1,?_⟩,x k N (λi _=>a.2 i)⟩
  rintro i (⟨_,h⟩|⟨_,h⟩)
  ·rcases b i k h with V|⟨q,_,V⟩
   ·omega
   ·exact a.2 q V
  ·exact a.2 _ h
theorem Tz {w:World} {a u t:List aX} {F:Nat->Nat->Prop} (o:Own c w (a++u) F) (y:∀f∈L,f.p w (Cz c F)) (B:aF u L t):
  St ⟨w,λk=>∀i,i<a.length->¬F i k,λk=>∃i,i<a.length∧F i k⟩ a t w:=by
 refine⟨Bh.refl _,λi k=>i<a.length∧F i k,⟨λi m s=> ?_,λi k b=>⟨.inr ⟨i,b⟩,(o.rng i k b.2).2⟩,λi j k v x=>o.dis i j k v.2 x.2⟩,λf z=> ?_⟩
 ·have l:i<a.length:=by
   rcases Nat.lt_or_ge i a.length with q|q
   ·exact q
   ·rw[List.getElem?_eq_none q]at s;cases s
  exact aX.same (o.res i m (by rw[List.getElem?_append_left l];exact s)) (λk b=>⟨l,b⟩) (λ_ _ _=>rfl)
 ·refine B f z w (Cz c F) (λj k=>F (j+a.length) k) _ y (λj m A=> ?_) (λk b=> ?_) (λj k b=> ?_)
  ·exact o.res _ m (by rw[List.getElem?_append_right (by omega),Nat.add_sub_cancel];exact A)
  ·exact⟨.inl λi _=>b.2 i,λi l=>b.2 i l.2⟩
  ·exact⟨.inl λi l h=>by have:=o.dis _ _ k h b;omega,λi l=>by have:=o.dis _ _ k l.2 b;omega⟩
theorem ED {A:Type} {k:A->Value} {m:A->List aX->List aX} {f:FuncId} {p:List Operand} {vs:List Value} {b:Array TypeId} {q Min Mr:List aX} (z:aT P f)
  (C:EE P f vs.toArray Min q k m) (H:p.map (ev σ)=vs.map some) (y:aZ M (Min++Mr)) (v:aF Mr L q) (o:∀x l,m x l=m x []++l):
  aL P c n σ M L ⟨d,.call ⟨.value (.func f),p.toArray,b⟩,ty,pos,aft,g⟩ k (λx=>m x Mr) (λ_=>L):=λa w s t=>by
 have j:(execOp a.eval ⟨d,.call ⟨.value (.func f),p.toArray,b⟩,ty,pos,aft,g⟩).run P w = .ok (.enter f vs.toArray) w:=by
  have e:=evs s H;simp[execOp,resolve,Act.eval,Deferred.ofValue,invoke,z _ w,e]
 simp only[Oper.wp,j,Oper.upon];obtain⟨B,F,u,i⟩:=t.weak (L':=L) y (λ_ h=>h);refine(C _ (Tz u i v)).mono ?_;rintro e I ⟨x,rfl,E⟩;refine⟨x,rfl,?_⟩
 rw[o];exact Vj B u i E
def Vb {A B:Type} (c:sR) (C:A->Prop) (a:A->B->Value) (f b:A->B->List aX) (e:Ending) (w:World):Prop:=∃x y,C x∧e = .returned (a x y)∧St c (f x y) (b x y) w
theorem Jp {j:Func} {a:List Value} {m:Nat} (l:j.ntmps=m) (k:Nat.ble a.length m=true):EG ⟨m,[]⟩ (vH 0 a) {tmps:=a.toArray++Array.replicate (j.ntmps - a.toArray.size) undef,defers:=[]}:=by
 have h:a.length<=m:=by simpa using k
 refine⟨rfl,by simp[l,h],?_⟩
 intro t v o;obtain⟨_,b⟩:=Dc a 0 t v o;rw[Nat.sub_zero]at b;have i:t<a.length:=by
  rcases Nat.lt_or_ge t a.length with f|f
  ·exact f
  ·rw[List.getElem?_eq_none f]at b;cases b
 rw[Array.getElem?_append_left (by simpa using i)];simpa using b
structure sS (P:Program) (c:sR) (n:Sz) (σ:Fr) (M L:List aX) (o:Oper) (f:FuncId) (vs:List Value):Prop where
 run:∀a w,EG n σ a->St c M L w->(execOp a.eval o).run P w = .ok (.enter f vs.toArray) w
theorem sS.fn {f:FuncId} {xs:List Operand} {vs:List Value} {b:Array TypeId} (h:aT P f) (i:xs.map (ev σ)=vs.map some):sS P c n σ M L ⟨d,.call ⟨.value (.func f),xs.toArray,b⟩,ty,pos,aft,g⟩ f vs:=⟨λa w s _=>by
 have e:=evs s i;simp[execOp,resolve,Act.eval,Deferred.ofValue,invoke,h _ w,e]⟩
theorem Gp {f:FuncId} {t:Tmp} {h:List Operand} {us cs vs:List Value} {b:Array TypeId} (j:aT P f) (k:lk σ t=some (.func (.func f) #[] cs.toArray)) (m:h.map (ev σ)=us.map some) (l:us++cs=vs):sS P c n σ M L ⟨d,.call ⟨.value (.tmp t),h.toArray,b⟩,ty,pos,aft,g⟩ f vs:=⟨λa w s _=>by
 have e:=evs s m;have i:a.eval (.tmp t) = .func (.func f) #[] cs.toArray:=s.eval (x:= .tmp t) k;subst l;simp[execOp,resolve,i,Deferred.ofValue,invoke,j _ w,e]⟩
def Gw (P:Program) (c:sR) (n:Sz) (σ:Fr) (M L:List aX) (b:Func) (v:Value):Prop:=∀a w,EG n σ a->St c M L w->(results b a.tmps).run P w = .ok v w
variable {fn:Func}
theorem Gw.r0 (b:fn.results = #[]):Gw P c n σ M L fn (.tuple #[]):=λa w _ _=>by simp[results,b]
theorem Gw.r1 {f:ResultVar} {h:Value} (b:fn.results = #[f]) (i:RV P c n σ M L f h):Gw P c n σ M L fn h:=λa w s t=>by
 have:=i a w s t;simp only[wZ,b];simp[this]
theorem Gw.r2 {i j:ResultVar} {k l:Value} (b:fn.results = #[i,j]) (f:RV P c n σ M L i k) (h:RV P c n σ M L j l):Gw P c n σ M L fn (.tuple #[k,l]):=λa w s t=>by
 have f:=f a w s t;have h:=h a w s t;simp only[wZ,b];simp[f,h]
theorem uC {A B:Type} {m:Sz} {v:Value} {f:Exit} {C:A->Prop} {b:A->B->Value} {k j:A->B->List aX} (x:A) (y:B) (l:C x) (i:f = .ret∨f = .normal) (q:Gw P c m σ' M L fn v) (u:v=b x y) (p:aZ M (k x y)) (o:aF [] L (j x y)) (h:m.ds=[]:=by rfl):
  J c m σ' M L (fU P fn (Vb c C b k j) f):=λa w s t=>by
 exact body_end i (s.defers.trans h) (q a w s t) ⟨x,y,l,by rw[u],t.weakE p o⟩
end
section
variable {P:Program} {rd:Option Nat} {c:sR} {n:Sz} {σ σ':Fr} {M L M' L':List aX} {Q:Exit->Act->World->Prop} {ops:Array Oper} {rest:List Oper} {K:Act->World->Prop} {G:Act->World->Prop}
variable {d:Option Tmp} {D:Nat} {ty:TypeId} {pos:String} {aft:Array Edge} {g:Option (Nat×Bool)}
variable {α β:Type} {e:cO α} {r:eD α}
def alM (v:Value) (m:Nat):Prop:=match v with
 | .slice _ _ cap=>m<=cap
 |_=>False
theorem Vp [cE P] {T E:TypeId} {R U u V:Nat} {z W:Value} {A:TypeDesc} {x p o q:Operand} {v:Value} {i k m:Int} {y:List α} (O:ev σ x=some v) (j:ev σ p=some (.int .i64 i)) (f:ev σ o=some (.int .i64 k)) (l:ev σ q=some (.int .i64 m)) (J:aE M L (Sl r v y))
  (I:cE.tab P T=some ⟨.slice E,R,U,z⟩) (H:cE.tab P E=some ⟨A,u,V,W⟩) (h:0<=i∧i<=k∧k<=m∧m<=y.length):Y P c n σ M L ⟨d,.slice T x (some p) (some o) (some q),ty,pos,aft,g⟩
   (match v with|.slice a _ _=> .slice (if m.toNat=i.toNat then a else a.map (·.add (i.toNat*u))) (k.toNat - i.toNat) (m.toNat - i.toNat)|v=>v):=λa w s t=>by
 obtain⟨S,X,b,N,hb,_⟩:=J.st t;subst N;have B:0<=m∧m<=(b:Int):=by omega
 have C:0<=k∧k<=((m.toNat:Nat):Int):=by omega
 have F:0<=i∧i<=((k.toNat:Nat):Int):=by omega
 simp[execOp,s.eval O,s.eval j,s.eval f,s.eval l,Instr.sliceAt,Instr.slice,(cE.ok I).run_und w,Instr.sliceBounds,Instr.sliceBound,asIntOf,(cE.ok H).run_size w,B,C,F];rw[if_pos (by omega),if_pos (by omega)]
theorem NF (i:Nat) {k:Int} {vs:List Value} {xss:List (List α)} (E:M[i]? = some (kN e vs xss)) (h:0<=k∧k<xss.length):
  nO M L (Ar e (at' vs k) (at' xss k)::M.set i (kN e (vs.set k.toNat (.slice none 0 0)) (xss.set k.toNat []))) L:=λc w t=>by
 obtain⟨X,F,s,W⟩:=t;obtain⟨A,G,U,u,O⟩:=s.res i _ E;have R:k.toNat<vs.length:=by omega
 have S:i<M.length:=(List.getElem?_eq_some_iff.1 E).1;have B:=U k.toNat _ _ (gG h.1 (by omega)) (gG h.1 h.2);refine⟨X,λj q=>match j with|0=>G k.toNat q|j+1=>(j=i∧∃p,p≠k.toNat∧G p q)∨(j≠i∧F j q),⟨?_,?_,?_⟩,λf E=> ?_⟩
 ·intro j m y;cases j with
  |zero=>simp at y;subst y;exact B
  | succ j =>
   rw[List.getElem?_cons_succ]at y;by_cases N:j=i
   ·subst N;rw[List.getElem?_set_self S]at y;cases y;refine⟨by simp[A],λp q=>p≠k.toNat∧G p q,λp v V H I=> ?_,λp q a=> .inl ⟨rfl,p,a⟩,λT C q b l=>O _ _ q b.2 l.2⟩
    by_cases x:p=k.toNat
    ·subst x;rw[List.getElem?_set_self R]at H;rw[List.getElem?_set_self (by omega)]at I;cases H;cases I;exact⟨by simp,rfl,.inl ⟨rfl,rfl⟩⟩
    ·rw[List.getElem?_set_ne (Ne.symm x)]at H I;exact aX.same (f:=Ar e v V) (U p v V H I) (λq a=>⟨x,a⟩) (λ_ _ _=>rfl)
   ·rw[List.getElem?_set_ne (Ne.symm N)]at y;exact aX.same (s.res j m y) (λq a=> .inr ⟨N,a⟩) (λ_ _ _=>rfl)
 ·intro j q a;cases j with
  |zero=>exact s.rng i q (u _ q a)
  |succ j=>
   rcases a with⟨_,p,_,a⟩|⟨_,a⟩
   ·exact s.rng i q (u _ q a)
   ·exact s.rng j q a
 ·intro T C q b l;cases T with
  | zero =>
   cases C with
   |zero=>rfl
   |succ C=>
    rcases l with⟨_,p,o,l⟩|⟨o,l⟩
    ·exact absurd (O _ _ q l b) o
    ·exact absurd (s.dis _ _ q l (u _ q b)) o
  | succ T =>
   cases C with
   |zero=>
    rcases b with⟨_,p,o,b⟩|⟨o,b⟩
    ·exact absurd (O _ _ q b l) o
    ·exact absurd (s.dis _ _ q b (u _ q l)) o
   |succ C=>
    congr 1;rcases b with⟨J,p,_,b⟩|⟨J,b⟩<;>rcases l with⟨x,Y,_,l⟩|⟨x,l⟩
    ·rw[J,x]
    ·exact absurd (s.dis _ _ q l (u _ q b)) x
    ·exact absurd (s.dis _ _ q b (u _ q l)) J
    ·exact s.dis _ _ q b l
 ·refine aX.same (W f E) (λq a=>⟨a.1,λj z=> ?_⟩) (λ_ _ _=>rfl);cases j with
  |zero=>exact a.2 i (u _ q z)
  |succ j=>
   rcases z with⟨_,p,_,z⟩|⟨_,z⟩
   ·exact a.2 i (u _ q z)
   ·exact a.2 j z
theorem NA (i j:Nat) {u:Value} {k:Int} {vs:List Value} {xss:List (List α)} {ys:List α} (a:Nat.beq i j=false) (b:M[i]? = some (kN e (vs.set k.toNat (.slice none 0 0)) (xss.set k.toNat []))) (f:M[j]? = some (Ar e u ys)) (h:0<=k∧k<(xss.set k.toNat []).length):
  nO M L ((M.set i (kN e (vs.set k.toNat u) (xss.set k.toNat ys))).eraseIdx j) L:=by
 have:=wP (L:=L) i j a b f h;rwa[List.set_set,List.set_set]at this
theorem KB {α:Type} [Inhabited α] (l:List α) {j k:Int} (y:α) (h:j.toNat≠k.toNat):at' (l.set j.toNat y) k=at' l k:=by
 rw[at',at',List.getD_eq_getElem?_getD,List.getD_eq_getElem?_getD,List.getElem?_set_ne h]
theorem yB [cE P] (i:Nat) {r:eD α} (f:e.Fits r) {x y:Operand} {u o:Value} {k j:Int} {vs:List Value} {a:List (List α)} {l b:List α} {T E:TypeId} {S U m s:Nat} {z t:Value} {v:TypeDesc} (N:ev σ x=some (at' vs k)) (O:ev σ y=some u) (H:M[i]? = some (kN e (vs.set j.toNat o) (a.set j.toNat b))) (I:aE M L (Sl r u l))
  (F:cE.tab P T=some ⟨.slice E,S,U,z⟩) (C:cE.tab P E=some ⟨v,m,s,t⟩) (A:e.sz=m) (B:Nat.ble s 1024=true) (w:0<=k∧k<a.length) (J:((at' a k).length:Int)+l.length<=1099511627) (R:t.cells.size=m) (h:j.toNat≠k.toNat):
  aL P c n σ M L ⟨d,.call ⟨.builtin .append,#[x,y],#[T,T]⟩,ty,pos,aft,g⟩ (λp:Value=>p) (λp=>M.set i (kN e ((vs.set j.toNat o).set k.toNat p) ((a.set j.toNat b).set k.toNat (at' a k++l)))) (λ_=>L):=by
 have q:at' (a.set j.toNat b) k=at' a k:=KB _ _ h;have:=pX (P:=P) (c:=c) (n:=n) (σ:=σ) (M:=M) (L:=L) (d:=d) (ty:=ty) (pos:=pos) (aft:=aft) (g:=g) (x:=x) (y:=y) (u:=u) (k:=k) (vs:=vs.set j.toNat o) (xss:=a.set j.toNat b) (ys:=l) i f (by rw[KB _ _ h];exact N) O H I F C A B (by simpa using w) (by rw[q];exact J) R;rwa[q]at this
theorem Bz (q:Nat) {vs:List Value} {a:List (List α)} {k j:Int} {u z:Value} (x:M[q]? = some (kN e ((vs.set k.toNat u).set j.toNat z) a)) (i:k.toNat≠j.toNat) (h:0<=k∧k<a.length):∀c w,St c M L w->Go.Sx.one u=true:=λc w t=>by
 obtain⟨S,v,A,p,_⟩:=t.res x;have f:k.toNat<vs.length:=by simp at v;omega
 obtain⟨_,_,s⟩:=p k.toNat u _ (by rw[List.getElem?_set_ne (Ne.symm i),List.getElem?_set_self f]) (List.getElem?_eq_getElem (by omega));rcases s with⟨l,_⟩|⟨b,y,m,T,o,l,_⟩<;>(rw[l];rfl)
theorem LF {A:Type} {b:A->Value} {M' L':A->List aX} {f:Op} (j:aL P c n σ M L ⟨none,f,ty,pos,aft,none⟩ b M' L') (h:∀x,J c n σ (M' x) (L' x) (wpList P ops Q rest)):
  J c n σ M L (wpList P ops Q (⟨none,f,ty,pos,aft,none⟩::rest)):=λa w s t=>
 lT Z (JI (mO (λm l ⟨x,i,k⟩=>by subst i;exact h x _ l s k) (j a w s t)))
end
section
variable {P:Program} {rd:Option Nat} {c:sR} {n:Sz} {σ σ':Fr} {M L M' L':List aX} {Q:Exit->Act->World->Prop} {ops:Array Oper} {rest:List Oper} {K:Act->World->Prop} {G:Act->World->Prop}
variable {d:Option Tmp} {D:Nat} {ty:TypeId} {pos:String} {aft:Array Edge} {g:Option (Nat×Bool)}
variable {α β:Type} {e:cO α} {r:eD α}
theorem Np [cE P] (j:Nat) {T:TypeId} {s2:Nat} {z:Value} {dT:TypeDesc} {x y:Operand} {v u:Value} {i:Int} {m:List α} (yv:α) (hx:ev σ x=some (Db v (i.toNat*1))) (hy:ev σ y=some u) (hu:e.enc yv=[u]) (B:one u=true)
  (X:M[j]? = some (Ar e v m)) (hT:cE.tab P T=some ⟨dT,1,s2,z⟩) (N:e.sz=1) (h0:0<=i) (W:i<m.length):
  aL P c n σ M L ⟨none,.store T x y,ty,pos,aft,none⟩ (λ_:Unit=>undef) (λ_=>M.set j (Ar e v (m.set i.toNat yv))) (λ_=>L):=λa w s t=>by
 obtain⟨F,J⟩:=t.res X;have Y:i.toNat<m.length:=by omega
 have E:m[i.toNat]? = some m[i.toNat]:=List.getElem?_eq_getElem Y;have H:m≠[]:=by intro e;subst e;simp at Y
 obtain⟨p,hp⟩:∃p,e.enc m[i.toNat]=[p]:=List.length_eq_one_iff.1 ((e.len _).trans N);have f:=Cy.cell J E (j:=0) (u:=p) (by rw[hp];rfl);rw[N,Nat.add_zero,Nat.mul_one]at f;rw[Nat.mul_one]at hx;have o:=Nf J H i.toNat;have I:(execOp a.eval ⟨none,.store T x y,ty,pos,aft,none⟩).run P w = .ok .skip (w.setCell (Jh v i.toNat) u):=by
  simp only[execOp,s.eval hx,s.eval hy,Db];simp[Ci (cE.ok hT) Z B f o]
 simp only[Oper.wp,I,Oper.upon];refine⟨(),trivial,t.upd X Z Z Z (by simp[World.setCell]) λF J _=> ?_⟩
 obtain⟨hl,W,S⟩:=J;rcases S with⟨_,S⟩|⟨b,l,A,T',O,hv,C,hb,hk,hc,ht⟩
 ·exact absurd S H
 ·subst hv;have ha:Jh (.slice (some ⟨b,l,none⟩) m.length A) i.toNat=⟨b,l+i.toNat,none⟩:=by simp[Jh,dM]
  rw[ha];refine⟨λk _ U=>Below.heap_setCell _ _ _ _ (λe=>U (by simp only at e;subst e;exact C)),F,⟨by simpa using hl,?_,.inr ⟨b,l,A,T',O.setIfInBounds (l+i.toNat) u,by simp,C,?_,by simpa using hk,by simpa using hc,?_⟩⟩,λ_ h=> .inl h⟩
  ·rw[vD N hu,List.all_eq_true];intro q V;rcases List.mem_or_eq_of_mem_set V with R|R
   ·exact List.all_eq_true.1 W q R
   ·rw[R];exact B
  ·simp[World.setCell,Array.getElem?_modify,hb]
  ·rw[vD N hu,<-ht,Array.toList_setIfInBounds,List.length_set,<-take_set];congr 1;rw[List.drop_set,if_neg (by omega),Nat.add_sub_cancel_left]
theorem No [cE P] (i:Nat) {T j:TypeId} {C:Nat} {z:Value} {m:TypeDesc} {x y:Operand} {b o:Nat} {cs:List Value} {v:Value} (A:ev σ x=some (.pointer (some ⟨b,o,none⟩)))
  (B:ev σ y=some v) (u:one v=true) (l:M[i]? = some (bV b cs j)) (p:cE.tab P T=some ⟨m,1,C,z⟩) (q:Nat.blt o cs.length=true):
  aL P c n σ M L ⟨none,.store T x y,ty,pos,aft,none⟩ (λ_:Unit=>undef) (λ_=>M.set i (bV b (cs.set o v) j)) (λ_=>L):=λa w s t=>by
 obtain⟨F,k⟩:=t.res l;have h:o<cs.length:=by simpa [Nat.blt_eq]using q
 have f:(execOp a.eval ⟨none,.store T x y,ty,pos,aft,none⟩).run P w = .ok .skip (w.setCell ⟨b,o,none⟩ v):=by
  simp[execOp,s.eval A,s.eval B,Ci (cE.ok p) Z u (bV.cell k (List.getElem?_eq_getElem h)) (Ng k o)]
 simp only[Oper.wp,f,Oper.upon];exact⟨(),trivial,t.store l v⟩
theorem AR [cE P] (j q:Nat) {T:TypeId} {E:Nat} {z:Value} {m:TypeDesc} {x y:Operand} {v u:Value} {i:Int} {vs b:List Value} {f:List (List α)} (h:0<=i∧i<f.length) (B:ev σ x=some (Db v (i.toNat*1))) (C:ev σ y=some u)
  (p:M[j]? = some (Ar cO.raw v vs)) (A:M[q]? = some (kN e b f)) (F:b.length=vs.length) (k:one u=true) (o:cE.tab P T=some ⟨m,1,E,z⟩):
  aL P c n σ M L ⟨none,.store T x y,ty,pos,aft,none⟩ (λ_:Unit=>undef) (λ_=>M.set j (Ar cO.raw v (vs.set i.toNat u))) (λ_=>L):=λa w s t=>by
 have l:b.length=f.length:=by obtain⟨_,h⟩:=t.res A;exact h.1
 exact Np j u B C Z k p o Z h.1 (by omega) a w s t
section
variable {l:List Oper} {m:List Nat} {k0:Nat} {H Bs:List (Nat×List aX×List aX)} {rs:List Nat}
theorem CO {A:Type} {j:A->Value} {M' L':A->List aX} {i:Nat} {b:Op}
  (o:l[i]? = some ⟨none,b,ty,pos,aft,none⟩) (v:Nat.blt i k0=true) (y:dO b=true) (z:aL P c n σ M L ⟨none,b,ty,pos,aft,none⟩ j M' L')
  (q:∀x,yV (before m i) (M' x) (L' x) Bs) (h:∀x,JR c n σ (M' x) (L' x) ((i,M,L)::H) Bs (RW P l.toArray Q (before m) (cH l) k0 rs)):
  JR c n σ M L H Bs (RW P l.toArray Q (before m) (cH l) k0 (i::rs)):=λa w X Y s t u k=>by
 have f:l.toArray[i]? = some ⟨none,b,ty,pos,aft,none⟩:=by simpa using o
 simp only[RW,f];rw[if_pos (by simp[Region.wanted])];refine .inr (.inr ⟨by simpa [Nat.blt_eq]using v,by simp[cH,o,y],mO ?_ (z a w s t)⟩);rintro C B ⟨x,rfl,p⟩;exact⟨(q x).use p k,h x _ B _ Y s p ⟨rfl,t,u⟩ k⟩
end
theorem Gu {A B:Type} {f:FuncId} {j:Func} {b:Code} {k:List Value} {m:Nat} {q:Op} (C:A->Prop) (i:A->B->Value) (o l:A->B->List aX) (E:sS P c n σ M L ⟨d,q,ty,pos,aft,g⟩ f k) (F:P.funcs[f]? = some j) (z:j.body=some b) (I:j.ntmps=m) (H:Nat.ble k.length m=true)
  (u:J c ⟨m,[]⟩ (vH 0 k) M L (b.wpr none P (fU P j (Vb c C i o l)))):
  aL P c n σ M L ⟨d,q,ty,pos,aft,g⟩ (λx:{p:A×B // C p.1}=>i x.1.1 x.1.2) (λx=>o x.1.1 x.1.2) (λx=>l x.1.1 x.1.2):=λa w s t=>by
 have h:=E.run a w s t;simp only[Oper.wp,h,Oper.upon];refine(rQ F z (u _ w (Jp I H) t)).mono ?_;rintro e O ⟨x,y,v,rfl,N⟩;exact⟨⟨(x,y),v⟩,rfl,N⟩
theorem AQ {A B:Type} {f:FuncId} {j:Func} {h:Code} {vs:List Value} {m:Nat} {o:Op} (C:A->Prop) (i:A->B->Value) (l k:A->B->List aX) (v:sS P c n σ M L ⟨some D,o,ty,pos,aft,none⟩ f vs) (w:P.funcs[f]? = some j) (u:j.body=some h) (y:j.ntmps=m) (x:Nat.ble vs.length m=true) (t:Nat.blt D n.sz=true)
  (p:J c ⟨m,[]⟩ (vH 0 vs) M L (h.wpr none P (fU P j (Vb c C i l k)))) (q:∀a b,C a->J c n ((D,i a b)::σ) (l a b) (k a b) (wpList P ops Q rest)):J c n σ M L (wpList P ops Q (⟨some D,o,ty,pos,aft,none⟩::rest)):=
 aG (Gu C i l k v w u y x p) t fun⟨⟨a,b⟩,s⟩=>q a b s
section
variable {l:List Oper} {mm:List Nat} {k0:Nat} {H Bs:List (Nat×List aX×List aX)} {rs:List Nat}
theorem RA {A B:Type} {i:Nat} {f:FuncId} {p:Func} {h:Code} {vs:List Value} {m:Nat} {q:Op} (C:A->Prop) (j:A->B->Value) (o k:A->B->List aX) (E:l[i]? = some ⟨some D,q,ty,pos,aft,none⟩) (F:Nat.blt i k0=true) (I:dO q=true) (y:sS P c n σ M L ⟨some D,q,ty,pos,aft,none⟩ f vs) (z:P.funcs[f]? = some p) (x:p.body=some h) (O:p.ntmps=m) (N:Nat.ble vs.length m=true) (w:Nat.blt D n.sz=true)
  (u:∀a b,yV (before mm i) (o a b) (k a b) Bs) (s:J c ⟨m,[]⟩ (vH 0 vs) M L (h.wpr none P (fU P p (Vb c C j o k)))) (t:∀a b,C a->JR c n ((D,j a b)::σ) (o a b) (k a b) ((i,M,L)::H) Bs (RW P l.toArray Q (before mm) (cH l) k0 rs)):
  JR c n σ M L H Bs (RW P l.toArray Q (before mm) (cH l) k0 (i::rs)):=
 JR.loud E F I (Gu C j o k y z x O N s) w (λ_=>u _ _) fun⟨⟨a,b⟩,v⟩=>t a b v
theorem UV {A B:Type} {i j:Nat} {s:Bool} {f:FuncId} {q:Func} {h:Code} {vs:List Value} {m:Nat} {t:Op} (C:A->Prop) (k:A->B->Value) (p o:A->B->List aX) (N:l[i]? = some ⟨some D,t,ty,pos,aft,some (j,s)⟩) (O:Nat.blt i k0=true) (R:dO t=true) (I:gv l.toArray σ j=some s) (E:sS P c n σ M L ⟨some D,t,ty,pos,aft,some (j,s)⟩ f vs) (F:P.funcs[f]? = some q) (z:q.body=some h) (T:q.ntmps=m) (S:Nat.ble vs.length m=true) (y:Nat.blt D n.sz=true)
  (w:∀a b,yV (before mm i) (p a b) (o a b) Bs) (u:J c ⟨m,[]⟩ (vH 0 vs) M L (h.wpr none P (fU P q (Vb c C k p o)))) (v:∀a b,C a->JR c n ((D,k a b)::σ) (p a b) (o a b) ((i,M,L)::H) Bs (RW P l.toArray Q (before mm) (cH l) k0 rs)):
  JR c n σ M L H Bs (RW P l.toArray Q (before mm) (cH l) k0 (i::rs)):=
 Nl N O R I (Gu C k p o E F z T S u) y (λ_=>w _ _) fun⟨⟨a,b⟩,x⟩=>v a b x
end
theorem DN [cE P] {T E:TypeId} {k q u b A:Nat} {z B:Value} {f:TypeDesc} {x y:Operand} {v:Value} {o:Nat} {i:Int} (m:ev σ x=some (Db v o)) (p:ev σ y=some (.int .i64 i))
  (l:cE.tab P T=some ⟨.array k E,q,u,z⟩) (j:cE.tab P E=some ⟨f,b,A,B⟩) (_h3:(b==0)=false) (h:0<=i∧i<(k:Int)):
  Y P c n σ M L ⟨d,.indexAddr T x y,ty,pos,aft,g⟩ (Db v (o+i.toNat*b)):=λa w s t=>by
 simp[execOp,s.eval m,s.eval p,Instr.indexAt,asIntOf,(cE.ok l).run_und w,h,Instr.sureAddr,Db,(cE.ok j).run_size w,Ih]
theorem bW {x:Operand} {b o:Nat} (f:ev σ x=some (.pointer (some ⟨b,o,none⟩))):Y P c n σ M L ⟨d,.nilCheck x,ty,pos,aft,g⟩ (.pointer (some ⟨b,o,none⟩)):=λa w s t=>by
 simp[execOp,s.eval f]
theorem Nq [cE P] [Inhabited α] (j:Nat) {T:TypeId} {s2 k o q:Nat} {z:Value} {dT:TypeDesc} {x y:Operand} {v u:Value} {C:List Value} {i:Int} {p:List α} (N:α) (h:0<=i∧i<p.length) (hx:ev σ x=some (Db v (i.toNat*q+o))) (hy:ev σ y=some u)
  (hf:M[j]? = some (Ar e v p)) (hq:e.sz=q) (V:u.cells=C.toArray) (hk:C.length=k) (ho:Nat.ble (o+k) q=true) (J:e.enc N=(e.enc (at' p i)).take o++C++(e.enc (at' p i)).drop (o+k)) (X:C.all one=true) (hT:cE.tab P T=some ⟨dT,k,s2,z⟩):
  aL P c n σ M L ⟨none,.store T x y,ty,pos,aft,none⟩ (λ_:Unit=>undef) (λ_=>M.set j (Ar e v (p.set i.toNat N))) (λ_=>L):=λa w s t=>by
 subst hq hk;have ar:o+C.length<=e.sz:=by simpa using ho
 have hi:i.toNat<p.length:=by omega
 have t0:=t;obtain⟨ak,FF,hO,ag⟩:=t0;obtain⟨h0,A,hh⟩:=hO.res j _ hf;rcases hh with⟨_,rfl⟩|⟨b,m,W,T',f,rfl,Y,aa,ab,hc,ht⟩
 ·simp at hi
 -- the parts of the row
 obtain⟨l,B,E,I,hl⟩:∃l B E,p=l++B::E∧l.length=i.toNat:=⟨p.take i.toNat,p[i.toNat],p.drop (i.toNat+1),by rw[List.getElem_cons_drop,List.take_append_drop],by simp;omega⟩
 have ai:at' p i=B:=by
  rw[at',List.getD_eq_getElem?_getD,<-hl,I,List.getElem?_append_right (Nat.le_refl _)];simp
 rw[ai]at J;have eE:=e.len B;have eA:(cellsOf e l).length=i.toNat*e.sz:=by rw[dN,hl]
 have F:cellsOf e p=cellsOf e l++(e.enc B++cellsOf e E):=by rw[I];simp[cellsOf]
 have U:cellsOf e (p.set i.toNat N)=cellsOf e l++(e.enc N++cellsOf e E):=by
  have:p.set i.toNat N=l++N::E:=by rw[I,<-hl,List.set_append_right _ _ (Nat.le_refl _)];simp
  rw[this];simp[cellsOf]
 have ap:p.length*e.sz<=W*e.sz:=Nat.mul_le_mul_right _ ab;obtain⟨O,R,S,hH⟩:∃O R,f.toList=O++(cellsOf e l++(e.enc B++(cellsOf e E++R)))∧O.length=m:=by
  refine⟨f.toList.take m,(f.toList.drop m).drop (p.length*e.sz),?_,by simp;omega⟩
  have e1:cellsOf e l++(e.enc B++(cellsOf e E++(f.toList.drop m).drop (p.length*e.sz)))=f.toList.drop m:=by
   have:cellsOf e l++(e.enc B++(cellsOf e E++(f.toList.drop m).drop (p.length*e.sz)))=cellsOf e p++(f.toList.drop m).drop (p.length*e.sz):=by rw[F];simp
   rw[this,<-ht,List.take_append_drop]
  rw[e1,List.take_append_drop]
 have an:f.size=f.toList.length:=by simp
 have al:f.toList.take (m+(i.toNat*e.sz+o))=O++(cellsOf e l++(e.enc B).take o):=by
  have:f.toList=(O++(cellsOf e l++(e.enc B).take o))++((e.enc B).drop o++(cellsOf e E++R)):=by
   rw[S,List.append_assoc,List.append_assoc,<-List.append_assoc ((e.enc B).take o),List.take_append_drop]
  rw[this];exact List.take_left' (by simp[hH,eA,eE];omega)
 have am:f.toList.drop (m+(i.toNat*e.sz+o)+C.length)=(e.enc B).drop (o+C.length)++(cellsOf e E++R):=by
  have:f.toList=(O++(cellsOf e l++(e.enc B).take (o+C.length)))++((e.enc B).drop (o+C.length)++(cellsOf e E++R)):=by
   rw[S,List.append_assoc,List.append_assoc,<-List.append_assoc ((e.enc B).take (o+C.length)),List.take_append_drop]
  rw[this];exact List.drop_left' (by simp[hH,eA,eE];omega)
 have af:(i.toNat+1)*e.sz<=p.length*e.sz:=Nat.mul_le_mul_right _ (by omega);have aq:(i.toNat+1)*e.sz=i.toNat*e.sz+e.sz:=by rw[Nat.add_mul,Nat.one_mul]
 have ac:m+(i.toNat*e.sz+o)+0+C.length<=f.size:=by omega
 have ae:=run_storeCells_at P b (m+(i.toNat*e.sz+o)) T' C 0 f w aa ac (λu V=>pH (List.all_eq_true.1 X u V));simp only[Nat.add_zero]at ae;have au:(cE.ok hT).run_size w=(cE.ok hT).run_size w:=rfl;have ad:(execOp a.eval ⟨none,.store T x y,ty,pos,aft,none⟩).run P w = .ok .skip (w.setRow b (f.toList.take (m+(i.toNat*e.sz+o))++C++f.toList.drop (m+(i.toNat*e.sz+o)+C.length)).toArray):=by
  simp[execOp,s.eval hx,s.eval hy,Db,Jh,Instr.storeAt,Instr.sureAddr,storeVar,V,(cE.ok hT).run_size w,dM,ae]
 simp only[Oper.wp,ad,Oper.upon];refine⟨(),trivial,?_⟩
 refine Ia ak hO ag hf Z Z Z (by simp) (λk _ aj=>setRow_other w b k _ (λe=>aj (by subst e;exact Y))) (F':=FF j) ?_ (λk hk=> .inl hk);have H:(e.enc N).length=e.sz:=e.len N;refine⟨by simpa using h0,?_,.inr ⟨b,m,W,T',_,by simp,Y,setRow_heap w b _ _ T' _ aa,by simpa using ab,?_,?_⟩⟩
 ·rw[U];rw[F]at A;simp only[List.all_append,Bool.and_eq_true]at A ⊢;refine⟨A.1,?_,A.2.2⟩
  rw[J];simp only[List.all_append,Bool.and_eq_true];refine⟨⟨List.all_eq_true.2 λu V=>List.all_eq_true.1 A.2.1 u (List.mem_of_mem_take V),X⟩,List.all_eq_true.2 λu V=>List.all_eq_true.1 A.2.1 u (List.mem_of_mem_drop V)⟩
 ·simp only[List.size_toArray,List.length_append,List.length_take,List.length_drop];omega
 ·show((f.toList.take _++C++f.toList.drop _).drop m).take ((p.set i.toNat N).length*e.sz)=_;rw[al,am,U,J,List.length_set];have e3:(O++(cellsOf e l++(e.enc B).take o)++C++((e.enc B).drop (o+C.length)++(cellsOf e E++R)))=O++((cellsOf e l++(((e.enc B).take o++C++(e.enc B).drop (o+C.length))++cellsOf e E))++R):=by simp
  rw[e3,<-hH,List.drop_left];refine List.take_left' ?_;have ah:(cellsOf e E).length=E.length*e.sz:=dN e E;have ao:p.length=i.toNat+1+E.length:=by rw[I,<-hl];simp;omega
  rw[J]at H;rw[List.length_append,List.length_append,H,eA,ah,ao,Nat.add_mul,Nat.add_mul,Nat.one_mul];omega
end
def Dfr (D:Nat):aX where
 p w F:=F D∧w.heap[D]? = some (.deferred (some []))
 mono:=fun⟨b,a⟩ h=>by
  obtain⟨c,d⟩:=h D b (Array.getElem?_eq_some_iff.1 a).1;exact⟨c,by rw[d];exact a⟩
structure Vf where
 n:Nat
 σ:Fr
 ps:Array Tmp
 assign:Code
 body:Code
 D:Nat
def Lp (l:Nat) (R:Vf) (i:LoopState) (a:Option Code):aX where
 p w F:=F l∧∃(fn:FuncId) (tmps:Array Value),tmps.size=R.n∧(∀t v,lk R.σ t=some v->tmps[t]? = some v)∧
  w.heap[l]? = some (.loop {state:=i,pending:=a,fn:=fn,tmps:=tmps,params:=R.ps,assign:=R.assign,body:=R.body,defers:=R.D})
 mono:=fun⟨c,fn,tmps,d,e,b⟩ h=>by
  obtain⟨f,g⟩:=h l c (Array.getElem?_eq_some_iff.1 b).1;exact⟨f,fn,tmps,d,e,by rw[g];exact b⟩
def Xg (D:Nat):Deferred:={target:= .collected D,args:= #[]}
def wE (l:Nat):Value:= .func (.yield l) #[] #[]
section
variable {P:Program} {rd:Option Nat} {c:sR} {n m:Sz} {σ σ':Fr} {M L:List aX} {Q:Exit->Act->World->Prop} {K G:Act->World->Prop}
theorem St.putLp {w:World} {l i:Nat} {R:Vf} {y d:LoopState} {b a:Option Code} (t:St c M L w) (v:M[i]? = some (Lp l R y b)) {r:Loop} (o:w.heap[l]? = some (.loop r)):
  St c (M.set i (Lp l R d a)) L (w.putObj l (.loop {r with state:=d,pending:=a})):=by
 refine t.upd v Z Z Z (by simp) λF j _=>⟨λk _ x=> ?_,F,?_,λ_ h=> .inl h⟩
 ·exact World.putObj_heap_other (λe=>x (by subst e;exact j.1))
 ·obtain⟨q,p,f,s,u,g⟩:=j;rw[g]at o;cases o;exact⟨q,p,f,s,u,World.putObj_heap_same (Array.getElem?_eq_some_iff.1 g).1⟩
def Vg (P:Program) (n:Sz) (σ:Fr) (l D:Nat) (Q:Exit->Act->World->Prop) (e:Ending) (w:World):Prop:=
 ∀a,EG ⟨n.sz,Xg D::n.ds⟩ σ a->rangePost (FR none) 0 P l Q a e w
theorem Nj {g:Operand} {ps:Array Tmp} {assign body:Code} {f:FuncId} {fn:Func} {code:Code} {cs:List Value} {k:Nat} (hb:aT P f) (hx:ev σ g=some (.func (.func f) #[] cs.toArray)) (hf:P.funcs[f]? = some fn) (hbd:fn.body=some code) (hn:fn.ntmps=k) (hm:Nat.ble (cs.length+1) k=true)
  (h:∀l D,J c ⟨k,[]⟩ (vH 0 (wE l::cs)) (Lp l ⟨n.sz,σ,ps,assign,body,D⟩ .ready none::Dfr D::M) L (code.wpr none P (fU P fn (Vg P n σ l D Q)))):
  J c n σ M L ((Code.rangeFunc g ps assign body).wpr none P Q):=λa w s t=>by
 refine wpIn_rangeFunc λfn' _=> ?_;have hev:a.eval g = .func (.func f) #[] cs.toArray:=s.eval hx;let W:World:=(w.alloc (.deferred (some []))).alloc (.loop {state:= .ready,pending:=none,fn:=fn',tmps:=a.tmps,params:=ps,assign:=assign,body:=body,defers:=w.heap.size});refine⟨_,_,_,{target:= .fn (.func f) cs.toArray,args:= #[wE (w.heap.size+1)]},W,f,(wE (w.heap.size+1)::cs).toArray,W,run_enterLoop_outer fn' a.tmps ps assign body,?_,λ_ _=>trivial,?_,(λhc=>by cases hc),?_⟩
 ·have hc:∀v,a.eval (.const v)=v:=λ_=>rfl;simp[resolve,hev,hc,Deferred.ofValue,wE,W]
 ·simp[invoke,hb _ _,wE]
 ·have t1:St c (Dfr w.heap.size::M) L (w.alloc (.deferred (some []))):=t.push _ ⟨rfl,heap_alloc_new w _⟩;have t2:St c (Lp (w.heap.size+1) ⟨n.sz,σ,ps,assign,body,w.heap.size⟩ .ready none::Dfr w.heap.size::M) L ((w.alloc (.deferred (some []))).alloc (.loop {state:= .ready,pending:=none,fn:=fn',tmps:=a.tmps,params:=ps,assign:=assign,body:=body,defers:=w.heap.size})):=by
   have:=t1.push (.loop {state:= .ready,pending:=none,fn:=fn',tmps:=a.tmps,params:=ps,assign:=assign,body:=body,defers:=w.heap.size}) (m:=Lp (w.heap.size+1) ⟨n.sz,σ,ps,assign,body,w.heap.size⟩ .ready none)
    ⟨by simp,fn',a.tmps,s.size,s.slot,by rw[<-World.size_alloc w (.deferred (some []))];exact heap_alloc_new _ _⟩
   exact this
  refine RZ ((rQ hf hbd (h (w.heap.size+1) w.heap.size _ _ (Jp hn (by simpa using hm)) t2)).mono ?_);intro e w' he;exact he _ ⟨by simp[Xg,s.defers],s.size,s.slot⟩
theorem UT {f:Func} {b:Exit} {v:Value} {l D i:Nat} {R:Vf} (e:b = .ret∨b = .normal) (j:M[i]? = some (Lp l R .ready none)) (q:Gw P c m σ' M L f v) (h:J c ⟨n.sz,Xg D::n.ds⟩ σ (M.set i (Lp l R .exhausted none)) L (Q .normal)) (d:m.ds=[]:=by rfl):
  J c m σ' M L (fU P f (Vg P n σ l D Q) b):=λa w s t=>by
 refine body_end e (s.defers.trans d) (q a w s t) λo r=> ?_;obtain⟨F,u,p,k,x,y,g⟩:=t.res j;exact⟨none,_,run_endLoop g (by simp),h o _ r (t.putLp j g)⟩
theorem YE {f:Func} {b:Exit} {v:Value} {l D i:Nat} {R:Vf} (e:b = .ret∨b = .normal) (j:M[i]? = some (Lp l R .done (some .ret))) (q:Gw P c m σ' M L f v) (h:J c ⟨n.sz,Xg D::n.ds⟩ σ (M.set i (Lp l R .exhausted (some .ret))) L (Q .ret)) (d:m.ds=[]:=by rfl):
  J c m σ' M L (fU P f (Vg P n σ l D Q) b):=λa w s t=>by
 refine body_end e (s.defers.trans d) (q a w s t) λo r=> ?_;obtain⟨F,u,p,k,x,y,g⟩:=t.res j;exact⟨some .ret,_,run_endLoop g (by simp),wpIn_ret (h o _ r (t.putLp j g))⟩
def UH (P:Program) (l:Nat) (G:Act->World->Prop) (a:Act) (w:World):Prop:=∃b,(Instr.beginRound l).run P w = .ok () b∧G a b
theorem Ry {l i:Nat} {R:Vf} {b:Option Code} (e:M[i]? = some (Lp l R .ready b)) (h:J c n σ (M.set i (Lp l R .busy b)) L G):J c n σ M L (UH P l G):=λa w s t=>by
 obtain⟨F,j,g,f,k,o,d⟩:=t.res e;exact⟨_,run_beginRound d Z,h a _ s (t.putLp e d)⟩
def Vh (n:Sz) (σ:Fr) (d:Nat) (K:Act->World->Prop) (e:Ending) (w:World):Prop:=∃v,e = .returned v∧∀a,EG n ((d,v)::σ) a->K a w
theorem ID {l i d:Nat} {R:Vf} {b:Option Code} (f:M[i]? = some (Lp l R .busy b)) (h:J c m ((d,.bool true)::σ') (M.set i (Lp l R .ready none)) L K):J c n σ M L (roundPost P l (Vh m σ' d K) .normal):=λa w s t=>by
 obtain⟨F,p,k,g,q,r,e⟩:=t.res f;exact⟨_,_,run_endRound none e,_,rfl,λj o=>h j _ o (t.putLp f e)⟩
theorem UU {l i d:Nat} {R:Vf} {b:Option Code} (f:M[i]? = some (Lp l R .busy b)) (h:J c m ((d,.bool false)::σ') (M.set i (Lp l R .done (some .ret))) L K):J c n σ M L (roundPost P l (Vh m σ' d K) .ret):=λa w s t=>by
 obtain⟨F,p,k,g,q,r,e⟩:=t.res f;exact⟨_,_,run_endRound (some .ret) e,_,rfl,λj o=>h j _ o (t.putLp f e)⟩
def ES:List Tmp->List Value->Fr->Fr
 |t::ts,v::vs,σ=>ES ts vs ((t,v)::σ)
 |_,_,σ=>σ
theorem Jo:∀(d:List Tmp) (f:List Value) (a:Array Value) (σ:Fr) (k:Nat),a.size=k->d.all (λt=>Nat.blt t k)=true->(∀t v,lk σ t=some v->a[t]? = some v)->
  ((d.zip f).foldl (λa (x:Tmp×Value)=>a.setIfInBounds x.1 x.2) a).size=k∧∀t v,lk (ES d f σ) t=some v->((d.zip f).foldl (λa (x:Tmp×Value)=>a.setIfInBounds x.1 x.2) a)[t]? = some v
 | [],_,a,σ,k,h1,_,h3=>by simpa [ES]using ⟨h1,h3⟩
 |_::_,[],a,σ,k,h1,_,h3=>by simpa [ES]using ⟨h1,h3⟩
 | p :: d, x :: f, a, σ, k, h1, h2, h3 => by
  simp only[List.all_cons,Bool.and_eq_true]at h2;have g:p<k:=by simpa [Nat.blt_eq]using h2.1
  simp only[List.zip_cons_cons,List.foldl_cons,ES];refine Jo d f _ _ k (by simp[h1]) h2.2 λt v b=> ?_;simp only[lk]at b;by_cases e:t=p
  ·subst e;simp at b;subst b;simp[h1,g]
  ·rw[lY e]at b;simp only[cond_false]at b;rw[Array.getElem?_setIfInBounds_ne (Ne.symm e)];exact h3 t v b
theorem YH {f:Array Oper} {b:List Oper} {t:Tmp} {z:List Operand} {g:List Value} {o:Array TypeId} {d:Nat} {B:TypeId} {y:String} {k:Array Edge} {l i:Nat} {R:Vf} {j:List Tmp} (U:lk σ t=some (wE l)) (W:z.map (ev σ)=g.map some) (T:M[i]? = some (Lp l R .ready none)) (r:R.ps=j.toArray) (q:g.length=j.length) (p:j.all (λt=>Nat.blt t R.n)=true) (S:Nat.blt d n.sz=true)
  (h:J c ⟨R.n,[]⟩ (ES j g R.σ) M L (R.assign.wpr (some l) P (Exit.then (UH P l (R.body.wpr (some l) P (roundPost P l (Vh n σ d (wpList P f Q b))))) (λ_ _ _=>False)))):
  J c n σ M L (wpList P f Q (⟨some d,.call ⟨.value (.tmp t),z.toArray,o⟩,B,y,k,none⟩::b)):=λa w s A=>by
 obtain⟨F,h1,H,tmps,I,N,O⟩:=A.res T;have e:=evs s W;have C:a.eval (.tmp t)=wE l:=s.eval (x:= .tmp t) U;have X:=run_yield (P:=P) (args:=g.toArray) O (by simp[r,q]);have u:(execOp a.eval ⟨some d,.call ⟨.value (.tmp t),z.toArray,o⟩,B,y,k,none⟩).run P w=(Instr.yield l g.toArray).run P w:=by
  simp[execOp,resolve,C,wE,Deferred.ofValue,invoke,e]
 unfold wpList;rw[if_pos (show Region.wanted _ _=true from rfl)];refine .inr ⟨_,_,_,_,_,_,u.trans X,?_⟩;refine RoundIn.mono (R:=Vh n σ d (wpList P f Q b)) (roundIn_of_wpIn (F:=FR none) trivial ?_) ?_
 ·obtain⟨D,E⟩:=Jo j g tmps R.σ R.n I p N;have:=h {tmps:=(j.zip g).foldl (λtmps (x:Tmp×Value)=>tmps.setIfInBounds x.1 x.2) tmps,defers:=[]} w ⟨rfl,D,E⟩ A;simp only[r,List.zip_toArray,List.foldl_toArray];exact this
 ·rintro e Y ⟨v,rfl,V⟩;exact⟨v,rfl,V _ (s.put d v S)⟩
theorem LG {g:Operand} {ps:Array Tmp} {assign body:Code} {f:FuncId} {fn:Func} {code:Code} {cs:List Value} {k:Nat} (hb:aT P f) (hx:ev σ g=some (.func (.func f) #[] cs.toArray)) (hf:P.funcs[f]? = some fn) (hbd:fn.body=some code) (hn:fn.ntmps=k) (hm:Nat.ble (cs.length+1) k=true)
  (h:∀(l D:Nat) (R:Vf),R.n=n.sz∧R.σ=σ∧R.ps=ps∧R.assign=assign∧R.body=body->J c ⟨k,[]⟩ (vH 0 (wE l::cs)) (Lp l R .ready none::Dfr D::M) L (code.wpr none P (fU P fn (Vg P n σ l D Q)))):
  J c n σ M L ((Code.rangeFunc g ps assign body).wpr none P Q):=Nj hb hx hf hbd hn hm λl D=>h l D _ ⟨rfl,rfl,rfl,rfl,rfl⟩
theorem Nk {j:Array Oper} {e:List Oper} {t:Tmp} {u:List Operand} {us:List Value} {r:Array TypeId} {d:Nat} {B:TypeId} {s:String} {q:Array Edge} {l i k:Nat} {R:Vf} {p:List Tmp} {o:Fr} {a b:Code} (w:R.n=k∧R.σ=o∧R.ps=p.toArray∧R.assign=a∧R.body=b) (z:lk σ t=some (wE l)) (A:u.map (ev σ)=us.map some) (y:M[i]? = some (Lp l R .ready none)) (g:us.length=p.length) (f:p.all (λt=>Nat.blt t k)=true) (x:Nat.blt d n.sz=true)
  (h:J c ⟨k,[]⟩ (ES p us o) M L (a.wpr (some l) P (Exit.then (UH P l (b.wpr (some l) P (roundPost P l (Vh n σ d (wpList P j Q e))))) (λ_ _ _=>False)))):
  J c n σ M L (wpList P j Q (⟨some d,.call ⟨.value (.tmp t),u.toArray,r⟩,B,s,q,none⟩::e)):=by
 obtain⟨rfl,rfl,v,rfl,rfl⟩:=w;exact YH z A y v g f x h
end
def Jz (Ds:List Nat):List Deferred:=Ds.map Xg
def LB (Ds:List Nat):aX where
 p w F:=Ds.Nodup∧∀D∈Ds,F D∧w.heap[D]? = some (.deferred (some []))
 mono:=fun⟨c,a⟩ h=>⟨c,λD b=>by
  obtain⟨d,e⟩:=h D (a D b).1 (Array.getElem?_eq_some_iff.1 (a D b).2).1;exact⟨d,by rw[e];exact(a D b).2⟩⟩
section
variable {P:Program} {rd:Option Nat} {c:sR} {n m:Sz} {σ σ':Fr} {M L:List aX} {Q:Exit->Act->World->Prop} {K G:Act->World->Prop}
theorem NC:nO M L (LB []::M) L:=nO.add λ_=>⟨List.nodup_nil,by simp⟩
theorem ND (i j:Nat) {D:Nat} {e:List Nat} (d:i≠j) (l:M[i]? = some (LB e)) (o:M[j]? = some (Dfr D)):nO M L ((M.set i (LB (D::e))).eraseIdx j) L:=λc w t=>
 t.merge i j d l o (by
  rintro w q r ⟨g,b⟩ ⟨f,h⟩ k;refine⟨List.nodup_cons.2 ⟨λp=>k D (b D p).1 f,g⟩,λE a=> ?_⟩
  rcases List.mem_cons.1 a with rfl|a
  ·exact⟨.inr f,h⟩
  ·exact⟨.inl (b E a).1,(b E a).2⟩)
theorem Fh {g:Operand} {ps:Array Tmp} {assign body:Code} {f:FuncId} {fn:Func} {code:Code} {cs:List Value} {k i s:Nat} (Ds:List Nat) (hi:M[i]? = some (LB Ds)) (hb:aT P f) (hx:ev σ g=some (.func (.func f) #[] cs.toArray)) (hf:P.funcs[f]? = some fn) (hbd:fn.body=some code) (hn:fn.ntmps=k) (hm:Nat.ble (cs.length+1) k=true)
  (h:∀(l D:Nat) (R:Vf),R.n=s∧R.σ=σ∧R.ps=ps∧R.assign=assign∧R.body=body->J c ⟨k,[]⟩ (vH 0 (wE l::cs)) (Lp l R .ready none::M.set i (LB (D::Ds))) L (code.wpr none P (fU P fn (Vg P ⟨s,Jz Ds⟩ σ l D Q)))):
  J c ⟨s,Jz Ds⟩ σ M L ((Code.rangeFunc g ps assign body).wpr none P Q):=LG hb hx hf hbd hn hm λl D R hR=>
 jD (ND (i+2) 1 (by omega) hi Z) (h l D R hR)
theorem qS {o:Func} {R:Ending->World->Prop} {f:Exit} {i k:Nat} (b:f = .ret∨f = .normal):∀{Ds:List Nat} {M:List aX},M[i]? = some (LB Ds)->J c ⟨k,[]⟩ σ (M.set i (LB [])) L (fU P o R f)->J c ⟨k,Jz Ds⟩ σ M L (fU P o R f)
 | [], M, hi, h => by
  have:M.set i (LB [])=M:=by
   apply List.ext_getElem?;intro j;by_cases e:i=j
   ·subst e;rw[hi];simp[(List.getElem?_eq_some_iff.1 hi).1]
   ·simp[List.getElem?_set_ne e]
  rw[this]at h;exact h
 | D :: Ds, M, hi, h => λa w s t => by
  obtain⟨F,v,q⟩:=t.res hi;have u:St c (M.set i (LB Ds)) L (w.putObj D (.deferred none)):=by
   refine t.upd hi Z Z Z (by simp) λF d _=>⟨λk _ r=> ?_,F,?_,λ_ h=> .inl h⟩
   ·exact World.putObj_heap_other (λe=>r (e▸(d.2 D (by simp)).1))
   ·obtain⟨p,d⟩:=d;refine⟨(List.nodup_cons.1 p).2,λE g=>⟨(d E (by simp[g])).1,?_⟩⟩
    rw[World.putObj_heap_other (λe=>(List.nodup_cons.1 p).1 (by subst e;exact g))];exact(d E (by simp[g])).2
  refine TI b s.defers (q D (by simp)).2 ?_;have l:(M.set i (LB Ds))[i]? = some (LB Ds):=by simp[(List.getElem?_eq_some_iff.1 hi).1]
  have:=qS b l (by rw[List.set_set];exact h) {tmps:=a.tmps,defers:=Jz Ds} _ ⟨rfl,s.size,s.slot⟩ u;rcases b with rfl|rfl<;>exact this
def aeO {A B:Type} (c:sR) (f:A->B->Sz) (C:A->Prop) (b:A->B->Fr) (e d:A->B->List aX) (a:Act) (w:World):Prop:=∃x y,C x∧EG (f x y) (b x y) a∧St c (e x y) (d x y) w
theorem PV {A B:Type} {x:Code} (h:A->B->Sz) (C:A->Prop) (d:A->B->Fr) (g f:A->B->List aX) (j:J c n σ M L (x.wpr rd P (Exit.then (aeO c h C d g f) Q))) (k:∀a b,C a->J c (h a b) (d a b) (g a b) (f a b) K):
  J c n σ M L (x.wpr rd P (Exit.then K Q)):=λa w s t=>Gk (λe i u q=>by
 cases e with
 |normal=>obtain⟨z,y,o,p,r⟩:=q;exact k z y o i u p r
 |exit id=>exact q
 |goto l=>exact q
 |ret=>exact q
 |panic v=>exact q
 |outgrown=>exact q) (j a w s t)
theorem HY {A B:Type} {e:A->B->Sz} {C:A->Prop} {a:A->B->Fr} {d b:A->B->List aX} (x:A) (y:B) (i:n=e x y) (f:C x) (j:xU σ (a x y)) (h:aZ M (d x y)) (g:aF [] L (b x y)):J c n σ M L (aeO c e C a d b):=
 λ_ _ s t=>⟨x,y,f,i▸s.weak j,t.weakE h g⟩
end
def Gb (b:Nat) (cs:List Value):aX where
 p w S:=S b∧∃T,w.heap[b]? = some (.cells cs.toArray T (0,0))
 mono:=fun⟨c,T,a⟩ h=>by
  obtain⟨d,e⟩:=h b c (Array.getElem?_eq_some_iff.1 a).1;exact⟨d,T,by rw[e];exact a⟩
section
variable {P:Program} {c:sR} {n:Sz} {σ:Fr} {M L:List aX} {d:Option Tmp} {ty:TypeId} {pos:String} {aft:Array Edge} {g:Option (Nat×Bool)} {α:Type} {e:cO α}
theorem NI [cE P] {T E:TypeId} {u:IntKind} {k v A f B:Nat} {z C:Value} {l:TypeDesc} {x y:Operand} {b:Nat} {i:Int} (q:ev σ x=some (.pointer (some ⟨b,0,none⟩))) (r:ev σ y=some (.int u i))
  (p:cE.tab P T=some ⟨.array k E,v,A,z⟩) (o:cE.tab P E=some ⟨l,f,B,C⟩) (m:(f==0)=false) (h:0<=i∧i<(k:Int)):
  Y P c n σ M L ⟨d,.indexAddr T x y,ty,pos,aft,g⟩ (.pointer (some ⟨b,i.toNat*f,none⟩)):=λa w s t=>by
 have j:f≠0:=by simpa using m
 simp[execOp,s.eval q,s.eval r,Instr.indexAt,asIntOf,(cE.ok p).run_und w,h,Instr.sureAddr,(cE.ok o).run_size w,j,dM]
theorem TC [cE P] [Inhabited α] {T:TypeId} {E:Nat} {z:Value} {o:TypeDesc} {x:Operand} {b k:Nat} {i:Int} {f:List α} {u:Value} (q:ev σ x=some (.pointer (some ⟨b,i.toNat*1,none⟩)))
  (y:aE M L (Gb b (cellsOf e f))) (A:cE.tab P T=some ⟨o,1,E,z⟩) (B:wS o=false) (C:e.sz=1) (D:(e.enc (at' f i))=[u]) (h:(0<=i∧i<(k:Int))∧f.length=k):
  Y P c n σ M L ⟨d,.load T x,ty,pos,aft,g⟩ u:=λa w s t=>by
 obtain⟨F,j,r,l⟩:=y.st t;have v:(bV b (cellsOf e f) r).p w F:=⟨j,l⟩
 have m:=uO e f i.toNat (at' f i) (gG h.1.1 (by omega)) 0 u (by rw[D];rfl);rw[C,Nat.add_zero]at m;rw[Nat.mul_one]at q m;simp[execOp,s.eval q,xA (cE.ok A) B (bV.cell v m)]
end
def sl3 (v:Value) (l h m b:Nat):Value:=match v with
 | .slice a _ _=> .slice (if m=l then a else a.map (·.add (l*b))) (h - l) (m - l)
 |v=>v
section
variable {P:Program} {rd:Option Nat} {c:sR} {n:Sz} {σ:Fr} {M L:List aX} {Q:Exit->Act->World->Prop} {ops:Array Oper} {rest:List Oper} {d:Option Tmp} {ty:TypeId} {pos:String} {aft:Array Edge} {g:Option (Nat×Bool)} {α:Type} {e:cO α} {r:eD α} {G:Act->World->Prop}
theorem TD [cE P] {T E:TypeId} {J K u N:Nat} {z O:Value} {B:TypeDesc} {x p o q:Operand} {v:Value} {i k m:Int} {y:List α} (I:ev σ x=some v) (f:ev σ p=some (.int .i64 i)) (b:ev σ o=some (.int .i64 k)) (j:ev σ q=some (.int .i64 m)) (l:aE M L (Sl r v y))
  (F:cE.tab P T=some ⟨.slice E,J,K,z⟩) (D:cE.tab P E=some ⟨B,u,N,O⟩) (h:0<=i∧i<=k∧k<=m∧m<=y.length):Y P c n σ M L ⟨d,.slice T x (some p) (some o) (some q),ty,pos,aft,g⟩ (sl3 v i.toNat k.toNat m.toNat u):=λa w s t=>by
 have C:=Vp (P:=P) (c:=c) (n:=n) (d:=d) (ty:=ty) (pos:=pos) (aft:=aft) (g:=g) I f b j l F D h a w s t;obtain⟨S,R,A,H,_⟩:=l.st t;subst H;exact C
theorem Tx {w:World} {S:Nat->Prop} {v:Value} {i:List α} (p:Gl r w S v i) {l h m:Nat} (x:l<=h) (u:h<=m) (z:m<=i.length):Gl r w S (sl3 v l h m r.sz) ((i.take h).drop l):=by
 have A:=Gl.part p x (Nat.le_trans u z);obtain⟨a,s,rfl,C,_⟩:=p;obtain⟨B,k,j,t,b⟩:=A;have f:((i.take h).drop l).length=h - l:=by simp;omega
 refine⟨if m=l then a else a.map (·.add (l*r.sz)),m - l,by simp[sl3,f],by omega,?_⟩
 rcases b with b|b
 ·exact .inl b
 ·by_cases o:(i.take h).drop l=[]
  ·exact .inl o
  ·right;have y:l<h:=by
    rcases Nat.lt_or_ge l h with q|q
    ·exact q
    ·exact absurd (List.eq_nil_of_length_eq_zero (by omega)) o
   simp only[slq,Value.slice.injEq]at j;rw[if_neg (by omega)]at j;rw[if_neg (by omega),j.1];exact b
theorem IJ {v:Value} {a:List α} (b:aE M L (Sl r v a)) {l h m:Int} {q:Nat} (f:r.sz=q) (j:0<=l∧l<=h∧h<=m∧m<=a.length):aE M L (Sl r (sl3 v l.toNat h.toNat m.toNat q) ((a.take h.toNat).drop l.toNat)):=by
 subst f;exact b.mono λi=>Tx i (by omega) (by omega) (by omega)
def Rlf (r:eD α) (vs:List Value) (b:List (List α)):aX where
 p w S:=vs.length=b.length∧∀(i:Nat) v a,vs[i]? = some v->b[i]? = some a->Gl r w S v a
 mono:=fun⟨f,j⟩ h=>⟨f,λi v a k l=>(Sl r v a).mono (j i v a k l) h⟩
theorem YA (r:eD α) (m:Nat) (h:J c n σ M (Rlf r (List.replicate m (.slice none 0 0)) (List.replicate m ([]:List α))::L) G):J c n σ M L G:=λa w s t=>h a w s (by
 obtain⟨k,F,b,j⟩:=t;refine⟨k,F,b,λf hf=> ?_⟩
 rcases List.mem_cons.1 hf with rfl|hf
 ·refine⟨by simp,λi v p l o=> ?_⟩
  obtain⟨_,rfl⟩:=List.mem_replicate.1 (List.mem_of_getElem? l);obtain⟨_,rfl⟩:=List.mem_replicate.1 (List.mem_of_getElem? o);exact⟨none,0,rfl,by simp,.inl Z⟩
 ·exact j f hf)
theorem YF (j:Nat) {vs:List Value} {o:List (List α)} {t:Value} {u:List α} {k:Nat} (C:L[j]? = some (Rlf r vs o)) (D:aE [] L (Sl r t u)) (h:J c n σ M (L.set j (Rlf r (vs.set k t) (o.set k u))) G):J c n σ M L G:=λa w s I=>h a w s (by
 obtain⟨H,F,B,p⟩:=I;refine⟨H,F,B,λf q=> ?_⟩
 rcases List.mem_or_eq_of_mem_set q with q|rfl
 ·exact p f q
 ·obtain⟨x,y⟩:=p _ (List.mem_of_getElem? C);refine⟨by simp[x],λi v K b l=> ?_⟩
  by_cases e:k=i
  ·subst e;have z:=a_ b;have A:=a_ l;rw[List.getElem?_set_self (by simpa using z)]at b;rw[List.getElem?_set_self (by simpa using A)]at l;cases b;cases l;exact D w (Cz c F) (λ_ _=>False) (Cz c F) p (λi m E=>by simp at E) (λ_ h=>h) (λ_ _ h=>h.elim)
  ·rw[List.getElem?_set_ne e]at b l;exact y i v K b l)
theorem Tp [cE P] (j q:Nat) {T:TypeId} {E:Nat} {z:Value} {l:TypeDesc} {x y:Operand} {v u:Value} {i:Int} {vs:List Value} {b:List (List α)} (h:0<=i∧i<b.length) (C:ev σ x=some (Db v (i.toNat*1))) (D:ev σ y=some u)
  (p:M[j]? = some (Ar cO.raw v vs)) (B:L[q]? = some (Rlf r vs b)) (f:one u=true) (o:cE.tab P T=some ⟨l,1,E,z⟩)
  (A:J c n σ (M.set j (Ar cO.raw v (vs.set i.toNat u))) L (wpList P ops Q rest)):
  J c n σ M L (wpList P ops Q (⟨none,.store T x y,ty,pos,aft,none⟩::rest)):=λa w s t=>by
 have k:vs.length=b.length:=by obtain⟨_,F,_,m⟩:=t;exact(m _ (List.mem_of_getElem? B)).1
 exact IE j u C D Z f p o Z h.1 (by omega) A a w s t
theorem IK {i j:Nat} {v:Value} {vs:List Value} {a:List (List α)} (K:M[i]? = some (Ar cO.raw v vs)) (N:L[j]? = some (Rlf r vs a)):aE M L (S2 r v (vs.zip a) a):=λw S T U D E H I=>by
 have C:=E i _ K;obtain⟨h,F⟩:=D _ (List.mem_of_getElem? N);refine⟨?_,by rw[List.map_snd_zip];omega⟩
 have A:(vs.zip a).length=vs.length:=by simp[h]
 have f:Cy cO.raw w (T i) v vs:=C;have o:=f;obtain⟨Y,_,J⟩:=f;rcases J with⟨rfl,rfl⟩|⟨b,t,m,V,B,rfl,p,W,y,X,ht⟩
 ·exact⟨none,0,rfl,by simp,.inl Z⟩
 ·refine⟨_,m,by rw[A],by rw[A];omega,.inr ⟨b,t,rfl,I i _ p,λq x l=> ?_⟩⟩
  have z:vs[q]? = some x.1:=by rw[List.getElem?_zip_eq_some]at l;exact l.1
  have s:a[q]? = some x.2:=by rw[List.getElem?_zip_eq_some]at l;exact l.2
  refine⟨[x.1],λR u O=> ?_,rfl,?_⟩
  ·have:=Cy.cell o z (j:=R) (u:=u) O;simp only[Jh,dM]at this;exact this
  ·exact(Sl r x.1 x.2).mono (F q _ _ z s) (λk y _=>⟨H k y,rfl⟩)
end
end Go.Sx
namespace Go.Sx
section
variable {P:Program} {M L:List aX} {α β γ:Type} {r:eD α} {s:eD γ} {q:eD β}
def eD.Deep (r:eD α) (q:eD β) (f:α->Value×List β):Prop:=∀{w S es x},r.R w S es x->Gl q w S (f x).1 (f x).2
theorem CQ (q:eD β):(eD.sl q).Deep q (λx=>x):=λh=>h.2
theorem Tv {f:α->Value×List β} (h:r.Deep q f):(r.pair s).Deep q (λx=>f x.1):=by
 rintro w S d x ⟨b,c,rfl,a,_⟩;exact h a
theorem DL {f:α->Value×List β} (h:r.Deep q f):(s.pair r).Deep q (λx=>f x.2):=by
 rintro w S d x ⟨b,c,rfl,_,a⟩;exact h a
theorem uM [Inhabited α] {v:Value} {a:List α} {i:Int} {f:α->Value×List β} (h:aE M L (Sl r v a)) (d:r.Deep q f) (b:0<=i) (c:i<a.length):aE M L (Sl q (f (at' a i)).1 (f (at' a i)).2):=h.mono λ{w U} hs=>by
 obtain⟨g,e,_⟩:=sl_cell hs (gG b c);exact d e
def IW (s:ByteArray):List Int:=s.data.toList.map λb=>(b.toNat:Int)
theorem BE [cE P] {c:sR} {n:Sz} {l:Fr} {d:Option Tmp} {H:TypeId} {e:String} {b:Array Edge} {g:Option (Nat×Bool)} {T:TypeId} {F G:Nat} {z:Value} {x y:Operand} {s:ByteArray} {f:List Int} {k:IntKind} {i:Int} (D:ev l x=some (.string s)) (E:ev l y=some (.int k i)) (u:cE.tab P T=some ⟨.string,F,G,z⟩) (A:IW s=f) (h:0<=i∧i<f.length):
  Y P c n l M L ⟨d,.index T x y,H,e,b,g⟩ (.int .u8 (at' f i)):=λa w p t=>by
 subst A;obtain⟨I,m⟩:=h;obtain⟨j,rfl⟩:∃j:Nat,i=(j:Int):=⟨i.toNat,by omega⟩
 have o:j<s.data.toList.length:=by unfold IW at m;simp at m ⊢;omega
 have C:j<s.size:=by have:=Lib.size_eq s;simp at o;omega
 have B:s[j]? = some (s.data.toList[j]):=by
  rw[getElem?_pos s j C];rfl
 have v:at' (IW s) (j:Int)=((s.data.toList[j]).toNat:Int):=by
  unfold at' IW;simp[List.getD_eq_getElem?_getD,List.getElem?_eq_getElem o]
 rw[v];simp[execOp,p.eval D,p.eval E,Instr.index,asIntOf,(cE.ok u).run_und w,B]
theorem Qh [cE P] {c:sR} {n:Sz} {j:Fr} {d:Option Tmp} {F:TypeId} {i:String} {e:Array Edge} {g:Option (Nat×Bool)} {T E:TypeId} {A B C D m b:Nat} {z G:Value} {o:TypeDesc} {x l:Operand} {k:Int} (y:ev j x=some (.pointer (some ⟨b,0,none⟩))) (f:ev j l=some (.int .i64 k))
  (v:cE.tab P T=some ⟨.array m E,A,B,z⟩) (u:cE.tab P E=some ⟨o,C,D,G⟩) {q:Int} (h:0<=k∧k<=((m:Nat):Int)∧k<=q):Y P c n j M L ⟨d,.slice T x none (some l) none,F,i,e,g⟩ (.slice (some ⟨b,0,none⟩) k.toNat m):=λa w s t=>by
 have p:0<=k∧k<=(m:Int):=⟨h.1,h.2.1⟩
 simp[execOp,s.eval y,s.eval f,Instr.sliceAt,Instr.slice,(cE.ok v).run_und w,Instr.sliceBounds,Instr.sliceBound,asIntOf,(cE.ok u).run_size w,p,asAddr,Addr.add,Instr.sureAddr]
theorem UX {e:cO α} {i b T m:Nat} {k:Int} {a:List α} (t:M[i]? = some (bV b (cellsOf e a) T)) (c:e.Fits r) (h:0<=k∧k<=((m:Nat):Int)∧k<=(a.length:Int)) (p:m<=9223372036854775807):aE M L (Sl r (.slice (some ⟨b,0,none⟩) k.toNat m) (a.take k.toNat)):=λw S T U B f C v=>by
 have n:=f i _ t;have o:(a.take k.toNat).length=k.toNat:=by simp;omega
 refine⟨some ⟨b,0,none⟩,m,by rw[o],by rw[o];omega,.inr ⟨b,0,rfl,v _ _ n.1,λj x d=> ?_⟩⟩
 have l:a[j]? = some x:=by
  rw[List.getElem?_take]at d;split at d
  ·exact d
  ·cases d
 obtain⟨g,D,z,_⟩:=c;refine⟨e.enc x,λq u A=> ?_,z⟩
 have y:=uO e a _ _ l _ _ A;rw[g,Nat.zero_add];exact bV.cell n y
def eD.All (r:eD α) (n:Nat) (g:α->List Value):Prop:=r.sz=n∧∀{w S es x},r.R w S es x->es=g x
theorem Qc {e:cO α} (h:e.Fits r):r.All e.sz e.enc:=⟨h.1,h.2.1⟩
theorem Qd (q:eD β):(eD.sl q).All 1 (λx=>[x.1]):=⟨rfl,λh=>h.1⟩
theorem LM {n m:Nat} {f:α->List Value} {g:γ->List Value} (h:r.All n f) (k:s.All m g):(r.pair s).All (n+m) (λx=>f x.1++g x.2):=⟨by show r.sz+s.sz=_;rw[h.1,k.1],by
 rintro w S e x ⟨c,d,rfl,a,b⟩;rw[h.2 a,k.2 b]⟩
theorem Qg [cE P] [Inhabited α] {c:sR} {n:Sz} {B:Fr} {d:Option Tmp} {O:TypeId} {o:String} {k:Array Edge} {g:Option (Nat×Bool)} {T:TypeId} {N q m:Nat} {z:Value} {p:TypeDesc} {x:Operand} {v:Value} {i:Int} {e:List α} {cs:List Value} {f:α->List Value} (K:ev B x=some (Db v (i.toNat*q))) (G:aE M L (Sl r v e)) (y:r.All m f) (l:f (at' e i)=cs)
  (E:cE.tab P T=some ⟨p,cs.length,N,z⟩) (F:wS p=true) (H:m=q) (h:0<=i∧i<e.length):Y P c n B M L ⟨d,.load T x,O,o,k,g⟩ (.agg cs.toArray):=λa w s t=>by
 obtain⟨C,D⟩:=h;obtain⟨S,h⟩:=G.st t;obtain⟨Q,I,b⟩:=sl_cell h (gG C D);have:=y.2 I;subst this l;rw[y.1,H]at b;have:=AN (w:=w) (A:=Jh v (i.toNat*q)) (cs:=f (at' e i)) (cE.ok E) F Z (λj u J=>by rw[Ih];exact b j u J);simp[execOp,s.eval K,Db,this]
end
end Go.Sx
namespace Go.Sx
open Go.RowKit
section
variable {P:Program} {c:sR} {n:Sz} {σ:Fr} {M L:List aX} {d:Option Tmp} {ty:TypeId} {pos:String} {aft:Array Edge} {g:Option (Nat×Bool)}
def aeS (v:Value) (m:Nat):Prop:=∃a e,v = .slice a m e∧(m=0∨∃b f,a=some ⟨b,f,none⟩)
theorem Know.len {f:Type} {r:eD f} {v:Value} {xs:List f} (j:aE M L (Sl r v xs)):∀c w,St c M L w->aeS v xs.length:=λc w t=>by
 obtain⟨S,i,cap,k,_,h⟩:=j.st t;exact⟨i,cap,k,h.imp (λh=>by simp[h]) fun⟨b,a,e,_⟩=>⟨b,a,e⟩⟩
theorem NJ [cE P] {T E:TypeId} {B C k D m:Nat} {z F:Value} {o:TypeDesc} {x y:Operand} {v:Value} {i:Int} (u:ev σ x=some v) (A:ev σ y=some (.int .i64 i)) (f:aeS v m)
  (s:cE.tab P T=some ⟨.slice E,B,C,z⟩) (r:cE.tab P E=some ⟨o,k,D,F⟩) (h:0<=i∧i<(m:Int)):Y P c n σ M L ⟨d,.indexAddr T x y,ty,pos,aft,g⟩ (Db v (i.toNat*k)):=λa w l t=>by
 obtain⟨G,e,rfl,f⟩:=f;obtain⟨p,q⟩:=h;rcases f with rfl|⟨b,j,rfl⟩
 ·omega
 ·simp[execOp,l.eval u,l.eval A,He w (cE.ok s) Z (cE.ok r) b j _ e i p q]
theorem IL [cE P] (i:Nat) {T j:TypeId} {H m o b:Nat} {z:Value} {q:TypeDesc} {x y:Operand} {cs e us:List Value} {u:Value} (E:ev σ x=some (.pointer (some ⟨b,o,none⟩))) (G:ev σ y=some u) (l:u.cells=us.toArray) (B:us.length=m)
  (r:us.all one=true) (p:M[i]? = some (bV b cs j)) (A:cE.tab P T=some ⟨q,m,H,z⟩) (C:Nat.ble (o+m) cs.length=true) (k:cs.take o++us++cs.drop (o+m)=e):
  aL P c n σ M L ⟨none,.store T x y,ty,pos,aft,none⟩ (λ_:Unit=>undef) (λ_=>M.set i (bV b e j)) (λ_=>L):=λa w s t=>by
 subst B k;obtain⟨F,v⟩:=t.res p;have D:o+us.length<=cs.length:=by simpa using C
 have h:=run_storeCells_at P b o j us 0 cs.toArray w v.2 (by simp;omega) (λu l=>pH (List.all_eq_true.1 r u l));simp only[Nat.add_zero]at h;have f:(execOp a.eval ⟨none,.store T x y,ty,pos,aft,none⟩).run P w = .ok .skip (w.setRow b (cs.take o++us++cs.drop (o+us.length)).toArray):=by
  simp[execOp,s.eval E,s.eval G,Instr.storeAt,Instr.sureAddr,storeVar,l,(cE.ok A).run_size w,h]
 simp only[Oper.wp,f,Oper.upon];exact⟨(),trivial,t.fill p⟩
theorem EW {a:Type} [Inhabited a] (l:List a) (k:Int) (h:k.toNat<l.length) (b:0<=k):l.set k.toNat (at' l k)=l:=by
 have:=gG (xs:=l) b (by omega);refine List.ext_getElem? λi=> ?_;by_cases e:k.toNat=i
 ·subst e;rw[List.getElem?_set_self h,this]
 ·rw[List.getElem?_set_ne e]
theorem zM [cE P] {l:Type} [Inhabited l] {e:cO l} (j:Nat) {T:TypeId} {Q m o q:Nat} {z:Value} {C:TypeDesc} {x y:Operand} {u:Value} {us:List Value} {i k:Int} {vs:List Value} {b:List (List l)} (f:l) (A:0<=k∧k<b.length) (h:0<=i∧i<(at' b k).length) (N:ev σ x=some (Db (at' vs k) (i.toNat*q+o))) (O:ev σ y=some u)
  (v:M[j]? = some (kN e vs b)) (I:e.sz=q) (K:u.cells=us.toArray) (G:us.length=m) (H:Nat.ble (o+m) q=true) (B:e.enc f=(e.enc (at' (at' b k) i)).take o++us++(e.enc (at' (at' b k) i)).drop (o+m)) (p:us.all one=true) (D:cE.tab P T=some ⟨C,m,Q,z⟩):
  aL P c n σ M L ⟨none,.store T x y,ty,pos,aft,none⟩ (λ_:Unit=>undef) (λ_=>M.set j (kN e vs (b.set k.toNat ((at' b k).set i.toNat f)))) (λ_=>L):=λa w s t=>by
 have U:=dA j v c w t;have F:j<M.length:=(List.getElem?_eq_some_iff.1 v).1;refine mO (λS R ⟨x,E,J⟩=>⟨x,E,?_⟩) (Nq 0 f h N O Z I K G H B p D a w s (NF j v A c w t));have r:=NA (j+1) 0 (u:=at' vs k) (k:=k) (vs:=vs) (xss:=b) (ys:=(at' b k).set i.toNat f) (e:=e) Z (by simp[F]) Z (by simpa using A) c R J;simp only[List.set_cons_zero,List.set_cons_succ,List.eraseIdx_cons_zero,List.set_set]at r;rw[EW vs k (by omega) A.1]at r;exact r
end
theorem aZ.ix {M a:List aX} (l:List Nat) (c:decide l.Nodup=true) (h:l.map (λi=>M[i]?)=a.map some):aZ M a:=by
 have c:l.Nodup:=of_decide_eq_true c;have k:l.length=a.length:=by simpa using congrArg List.length h
 refine⟨λi=>l.getD i 0,λi j b n e=> ?_,λi m d=> ?_⟩
 ·have f:i<l.length:=by omega
  have g:j<l.length:=by omega
  simp only[List.getD_eq_getElem?_getD,List.getElem?_eq_getElem f,List.getElem?_eq_getElem g,Option.getD_some]at e;exact(List.getElem_inj c).1 e
 ·have b:i<l.length:=by rw[k];exact(List.getElem?_eq_some_iff.1 d).1
  have:=congrArg (λq=>q[i]?) h;simp only[List.getElem?_map,List.getElem?_eq_getElem b,d,Option.map_some,Option.some.injEq]at this;simpa [List.getD_eq_getElem?_getD,List.getElem?_eq_getElem b]using this
def cO.fn:cO Nat:=⟨1,Nat.one_pos,λf=>[.func (.func f) #[] #[]],λ_=>rfl⟩
def eD.fn:eD Nat:=⟨1,Nat.one_pos,λ_ _ cs x=>cs=[.func (.func x) #[] #[]],λh=>by simp[h],λh _=>h⟩
theorem Nh:cO.fn.Fits eD.fn:=⟨rfl,λh=>h,rfl,λ_=>rfl⟩
section
variable {P:Program} {rd:Option Nat} {c:sR} {n:Sz} {σ:Fr} {M L:List aX} {Q:Exit->Act->World->Prop} {ops:Array Oper} {rest:List Oper} {d:Nat} {ty:TypeId} {pos:String} {aft:Array Edge} {x y:Operand} {v:Value} {K:Act->World->Prop}
abbrev vS (x:ByteArray):Value:= .string x
abbrev vB (x:Bool):Value:= .bool x
theorem dH {a:Type} {p G:Prop} {_:Decidable p} {u:Option a} {r:a} (h:ck p u=some r) (k:p->u=some r->G):G:=k (Sb h).1 (Sb h).2
theorem fN {a b:Type} {G:Prop} {u:Option a} {f:a->Option b} {r:b} (h:u.bind f=some r) (k:∀y,u=some y->f y=some r->G):G:=by
  obtain⟨y,e,g⟩:=bnd h;exact k y e g
theorem qB (l:List Nat) {a:List aX} (h:l.map (L[·]?)=a.map some):aF M L a:=λf b=>by
  have g:some f∈l.map (L[·]?):=h▸List.mem_map_of_mem b;obtain⟨j,_,e⟩:=List.mem_map.1 g;exact aE.fact j e
theorem yZ.ix (l:List Nat) {a:List aX} (h:l.map (L[·]?)=a.map some):yZ L a:=λf b=>by
  have g:some f∈l.map (L[·]?):=h▸List.mem_map_of_mem b;obtain⟨j,_,e⟩:=List.mem_map.1 g;exact List.mem_of_getElem? e
theorem nA {f:aX} (i:Nat) (h:L[i]? = some f):yZ L [f]:=yZ.cons (List.mem_of_getElem? h) yZ.nil
/-- which of the early loads must still hold,with the numbers of what they have read -/
def bsW (A:Nat->Bool):List (List Nat×List Nat)->List (Nat×List aX×List aX)->List (List Nat×List Nat×List aX×List aX)
  |_,[]=>[]
  |q,(j,Mx,Lx)::B=>bif A j||(Mx.isEmpty&&Lx.isEmpty)then bsW A q B else((q.headD ([],[])).1,(q.headD ([],[])).2,Mx,Lx)::bsW A q.tail B
theorem uZ {A:Nat->Bool} (q:List (List Nat×List Nat)) {B:List (Nat×List aX×List aX)} (h:(bsW A q B).map (λz=>(decide z.1.Nodup,z.1.map (M[·]?),z.2.1.map (L[·]?)))=(bsW A q B).map (λz=>(true,z.2.2.1.map some,z.2.2.2.map some))):yV A M L B:=by
  induction B generalizing q with
  |nil=>exact yV.z
  | cons b B ih =>
    obtain⟨j,k,i⟩:=b;cases a:A j with
    |true=>exact yV.b a (ih q (by simpa [bsW,a]using h))
    | false =>
      cases g:(k.isEmpty&&i.isEmpty)with
      | true =>
        obtain⟨e,f⟩:=Bool.and_eq_true_iff.1 g;rw[List.isEmpty_iff]at e f;subst e;subst f;exact yV.h aZ.nil yZ.nil (ih q (by simpa [bsW,a]using h))
      | false =>
        simp only[bsW,a,g,Bool.or_self,cond_false,List.map_cons,List.cons.injEq,Prod.mk.injEq]at h;exact yV.h (aZ.ix _ h.1.1 h.1.2.1) (yZ.ix _ h.1.2.2) (ih q.tail h.2)
def hkB (A:Nat->Bool):List (Nat×List aX×List aX)->Bool
  | []=>true
  |(j,_,_)::H=>bif A j then hkB A H else false
theorem hkI {A:Nat->Bool} {f e:List aX} {H:List (Nat×List aX×List aX)} (h:hkB A H=true):aK A f e H:=by
  induction H with
  |nil=>exact aK.z
  | cons b B ih =>
    obtain⟨j,_,_⟩:=b;cases a:A j with
    |false=>simp[hkB,a]at h
    |true=>exact aK.b a (ih (by simpa [hkB,a]using h))
theorem hkN {A:Nat->Bool} {H:List (Nat×List aX×List aX)}:aK A [] [] H:=by
  induction H with
  |nil=>exact aK.z
  |cons b B a=>exact aK.h aZ.nil yZ.nil a
theorem fK {T:Operand} (h:(ev σ T,ev σ x,Nat.blt d n.sz)=(some (.bool true),some v,true)) (k:J c n ((d,v)::σ) M L (wpList P ops Q rest)):J c n σ M L (wpList P ops Q (⟨some d,.pick T x y,ty,pos,aft,none⟩::rest)):=by
  simp only[Prod.mk.injEq]at h;exact aC (LQ h.1 h.2.1) h.2.2 k
theorem iL {T:Operand} (h:(ev σ T,ev σ y,Nat.blt d n.sz)=(some (.bool false),some v,true)) (k:J c n ((d,v)::σ) M L (wpList P ops Q rest)):J c n σ M L (wpList P ops Q (⟨some d,.pick T x y,ty,pos,aft,none⟩::rest)):=by
  simp only[Prod.mk.injEq]at h;exact aC (LP h.1 h.2.1) h.2.2 k
theorem iK {vs:List Value} {i:Nat} (h:(ev σ x,vs[i]?,Nat.blt d n.sz)=(some (.tuple vs.toArray),some v,true)) (k:J c n ((d,v)::σ) M L (wpList P ops Q rest)):J c n σ M L (wpList P ops Q (⟨some d,.extract x i,ty,pos,aft,none⟩::rest)):=by
  simp only[Prod.mk.injEq]at h;exact aC (lE h.1 h.2.1) h.2.2 k
theorem pI {t a:TypeId} {i:IntKind} {p q:Int} (h:(ev σ x,ev σ y,Nat.blt d n.sz)=(some (.int i p),some (.int i q),true)) (k:J c n ((d,.bool (decide (p≠q)))::σ) M L (wpList P ops Q rest)):J c n σ M L (wpList P ops Q (⟨some d,.binOp .neq t x y a,ty,pos,aft,none⟩::rest)):=by
  simp only[Prod.mk.injEq]at h;exact aC (CU h.1 h.2.1) h.2.2 k
theorem yR {t a:TypeId} {i:IntKind} {p q:Int} (h:(ev σ x,ev σ y,Nat.blt d n.sz)=(some (.int i p),some (.int i q),true)) (k:J c n ((d,.int i (dK i p q))::σ) M L (wpList P ops Q rest)):J c n σ M L (wpList P ops Q (⟨some d,.binOp .and t x y a,ty,pos,aft,none⟩::rest)):=by
  simp only[Prod.mk.injEq]at h;exact aC (RE h.1 h.2.1) h.2.2 k
theorem kP [cE P] {b:Type} {r:eD b} {T E:TypeId} {f g:Nat} {z:Value} {a:List b} (e:aE M L (Sl r v a)) (h:(ev σ x,cE.tab P T,Nat.blt d n.sz)=(some v,some ⟨.slice E,f,g,z⟩,true)) (k:J c n ((d,.int .i64 a.length)::σ) M L (wpList P ops Q rest)):J c n σ M L (wpList P ops Q (⟨some d,.call ⟨.builtin .len,#[x],#[T]⟩,ty,pos,aft,none⟩::rest)):=by
  simp only[Prod.mk.injEq]at h;exact aC (jC h.1 e h.2.1) h.2.2 k
variable {l:List Oper} {m:List Nat} {k0:Nat} {H Bs:List (Nat×List aX×List aX)} {rs:List Nat}
theorem iH {i a:Nat} {b:Op} (f:l[i]? = some ⟨some a,b,ty,pos,aft,none⟩) (k:Y P c n σ [] [] ⟨some a,b,ty,pos,aft,none⟩ v)
    (h:JR c n ((a,v)::σ) M L H ((i,[],[])::Bs) (RW P l.toArray Q (before m) (cH l) k0 rs))
    (g:Nat.blt i k0=true:=by exact rfl) (j:dO b=false:=by exact rfl) (e:Nat.blt a n.sz=true:=by exact rfl):JR c n σ M L H Bs (RW P l.toArray Q (before m) (cH l) k0 (i::rs)):=bJ f aZ.nil yZ.nil k hkN h g j e
end
end Go.Sx
namespace Go.Sx
abbrev aP:=List Int
abbrev eW:=List (Int×Int)
abbrev bI:=List aP
abbrev gE:=List eW
abbrev Hh:=(ByteArray×(List (ByteArray×Int×Int×Int×Int×Int))×(List (ByteArray×(Value×eW)×(Value×List (Int×(Value×eW))))))×((ByteArray×(List (ByteArray×Int×Int×Int×Int×Int))×(List (ByteArray×(Value×eW)×(Value×List (Int×(Value×eW))))))×(aP×gE)×Int×bI)×gE
abbrev Bc:=ByteArray×(List (ByteArray×Int×Int×Int×Int×Int))×(List (ByteArray×(Value×eW)×(Value×List (Int×(Value×eW)))))
abbrev MX:=((ByteArray×(List (ByteArray×Int×Int×Int×Int×Int))×(List (ByteArray×(Value×eW)×(Value×List (Int×(Value×eW))))))×(aP×gE)×Int×bI)×bI×Int×eW
abbrev Ax:=(List bI×(List (Int×Int×Int×Int×Int))×Int)
abbrev cQ:=aP×gE
abbrev Uy:=(ByteArray×(List (ByteArray×Int×Int×Int×Int×Int))×(List (ByteArray×(Value×eW)×(Value×List (Int×(Value×eW))))))×(aP×gE)×Int×bI
abbrev mZ:=List (Value×eW)
abbrev aaM:=(((ByteArray×(List (ByteArray×Int×Int×Int×Int×Int))×(List (ByteArray×(Value×eW)×(Value×List (Int×(Value×eW))))))×(aP×gE)×Int×bI)×bI×Int×eW)
abbrev CM:=Int×aP×aP×aP×Bool×Bool
abbrev sD:=List (Value×aP)
abbrev fM:=List Value
abbrev DC:=ByteArray×Int×Int×Int×Int×Int
abbrev i_:=(Int×Int)
abbrev Ka:=List bI×(List (Int×Int×Int×Int×Int))×Bool
abbrev HE:=List (ByteArray×Int×Int×Int×Int×Int)
abbrev fH:=Int×Int
abbrev sH:=((aP×gE))
abbrev kG:=Int×aP
abbrev qD:=(Int×aP)
abbrev XX:=(Int×aP×Int×Int×Int×Int×Int×Int×bI×aP×(List (Int×Int×Int×Int×Int))×List bI)
abbrev XY:=Int×aP×Int×Int×Int×Int×Int×Int×bI×aP×(List (Int×Int×Int×Int×Int))×List bI
abbrev HF:=Int×(List ((Int×Int)×Int))
abbrev XZ:=(ByteArray×List (ByteArray×Int×Int×Int×Int×Int)×List (eW×List (Int×eW)))
abbrev Kb:=List (eW×List (Int×eW))
abbrev Lk:=(Int×(List ((Int×Int)×Int)))
abbrev HG:=Int×Int×Int×Int×Int
abbrev Ll:=List (Int×Int×Int×Int×Int)
abbrev Pp:=(ByteArray×Int×Int×Int×Int×Int)
abbrev pF:=List Nat
abbrev Lm:=Int×aP×gE×Int×bI
abbrev yA:=List bI
abbrev DD:=(aP×gE)
abbrev abq:=Int×Int×Int×Int×Int×Int×aP×aP×bI×(List (Int×Int×Int×Int×Int))×List bI
abbrev abr:=(List (Int×Int×Int×Int×Int))×List bI×aP×aP×bI×Int×Int×Int×Int×Int×Int
abbrev Kc:=Value×List Value
abbrev X_:=((List (ByteArray×Int×Int×Int×Int×Int)))
abbrev Ya:=(List (ByteArray×Int×Int×Int×Int×Int))
abbrev lC:Value:=Value.slice none 0 0
abbrev Pt:List Value:=[lC,lC,lC,vI (0:Int),vI (0:Int),vI (0:Int),vI (0:Int),vU (0:Int)]
abbrev vD1:List Value:=[Value.pointer none,lC,vI (0:Int),vU (0:Int),Value.nilFunc]
abbrev vD2:List Value:=[vI (0:Int),vI (0:Int),vI (0:Int),vI (0:Int),vU (0:Int)]
abbrev vD3:List Value:=[vS (ByteArray.mk #[]),vI (0:Int),vI (0:Int),vI (0:Int),vI (0:Int),vI (0:Int)]
abbrev UG:List Value:=[vI (0:Int),vI (0:Int)]
end Go.Sx
namespace Go.Sx
open Go.RowKit
section
variable {P:Program} {c:sR} {n:Sz} {σ:Fr} {M L:List aX} {d:Option Tmp} {ty:TypeId} {pos:String} {aft:Array Edge} {g:Option (Nat×Bool)} {α:Type} {e:cO α} {r:eD α}
def Cfg {α:Type} (e:cO α) (v:Value) (l:List Value) (i:List (List α)):aX where
 p w F:=∃A B:Nat->Prop,Cy cO.raw w A v l∧(kN e l i).p w B∧(∀k,A k->F k)∧(∀k,B k->F k)∧∀k,A k->¬B k
 mono:=by
  rintro w x S u ⟨A,B,s,t,m,o,q⟩ j;exact⟨λk=>A k∧k<w.heap.size,λk=>B k∧k<w.heap.size,(Ar cO.raw v l).mono s λk f h=>⟨⟨f,h⟩,(j k (m k f) h).2⟩,(kN e l i).mono t λk f h=>⟨⟨f,h⟩,(j k (o k f) h).2⟩,λk f=>(j k (m k f.1) f.2).1,λk f=>(j k (o k f.1) f.2).1,λk a b=>q k a.1 b.1⟩
def Fq {α:Type} (e:cO α) (vs:List Value) (m:List (List Value)) (b:List (List (List α))):aX where
 p w F:=(vs.length=b.length∧m.length=b.length)∧∃G:Nat->Nat->Prop,(∀i v l a,vs[i]? = some v->m[i]? = some l->b[i]? = some a->(Cfg e v l a).p w (G i))∧(∀i k,G i k->F k)∧∀i j k,G i k->G j k->i=j
 mono:=by
  rintro w D S C ⟨y,G,s,o,t⟩ q;exact⟨y,λi k=>G i k∧k<w.heap.size,λi v l a z A B=>(Cfg e v l a).mono (s i v l a z A B) λk f h=>⟨⟨f,h⟩,(q k (o i k f) h).2⟩,λi k f=>(q k (o i k f.1) f.2).1,λi j k u x=>t i j k u.1 x.1⟩
theorem zN (e:cO α):nO M L (Fq e [] [] []::M) L:=nO.add λw=>⟨⟨rfl,rfl⟩,λ_ _=>False,λi v f b a=>by simp at a,λ_ _ h=>h,λ_ _ _ h=>h.elim⟩
theorem RD (i j:Nat) {v:Value} {f:List Value} {a:List (List α)} (b:Nat.beq i j=false) (m:M[i]? = some (Ar cO.raw v f)) (o:M[j]? = some (kN e f a)):nO M L ((M.set i (Cfg e v f a)).eraseIdx j) L:=λc w t=>
 t.merge i j (λe=>by subst e;simp at b) m o λh k l=>⟨_,_,h,k,λ_=> .inl,λ_=> .inr,l⟩
theorem IP (i j:Nat) {u:Value} {us:List Value} {p:List (List α)} {vs:List Value} {l:List (List Value)} {b:List (List (List α))} (x:Nat.beq i j=false) (O:M[i]? = some (Fq e vs l b)) (Q:M[j]? = some (Cfg e u us p)):nO M L ((M.set i (Fq e (vs++[u]) (l++[us]) (b++[p]))).eraseIdx j) L:=λc w t=>
 t.merge i j (λe=>by subst e;simp at x) O Q (by
  rintro w S F ⟨⟨y,z⟩,G,H,s,I⟩ N C;refine⟨⟨by simp[y],by simp[z]⟩,λq k=>(q<vs.length∧G q k)∨(q=vs.length∧F k),?_,?_,?_⟩
  ·intro q v R B h m o;by_cases D:q<vs.length
   ·rw[List.getElem?_append_left D]at h;rw[List.getElem?_append_left (by omega)]at m o;exact aX.same (H q v R B h m o) (λk a=> .inl ⟨D,a⟩) (λ_ _ _=>rfl)
   ·rw[List.getElem?_append_right (by omega)]at h m o;have A:q - vs.length=0:=by have:=a_ h;simp at this;omega
    rw[A]at h;rw[show q - l.length=0 by omega]at m;rw[show q - b.length=0 by omega]at o;simp at h m o;subst h;subst m;subst o;exact aX.same N (λk a=> .inr ⟨by omega,a⟩) (λ_ _ _=>rfl)
  ·rintro q k (⟨_,a⟩|⟨_,a⟩)
   ·exact .inl (s q k a)
   ·exact .inr a
  ·rintro q E k (⟨J,a⟩|⟨J,a⟩) (⟨K,f⟩|⟨K,f⟩)
   ·exact I q E k a f
   ·exact absurd f (C k (s q k a))
   ·exact absurd a (C k (s E k f))
   ·omega)
theorem IQ (i j:Nat) {us vs:List Value} {s m:List (List Value)} {h f:List (List (List α))} (B:Nat.beq i j=false) (T:M[i]? = some (Fq e vs m f)) (U:M[j]? = some (Fq e us s h)):nO M L ((M.set i (Fq e (vs++us) (m++s) (f++h))).eraseIdx j) L:=λc w t=>
 t.merge i j (λe=>by subst e;simp at B) T U (by
  rintro w V W ⟨⟨C,D⟩,G,O,z,Q⟩ ⟨⟨E,F⟩,N,y,l,A⟩ H;refine⟨⟨by simp[C,E],by simp[D,F]⟩,λq k=>(q<vs.length∧G q k)∨(vs.length<=q∧N (q - vs.length) k),?_,?_,?_⟩
  ·intro q v K u x o p;by_cases I:q<vs.length
   ·rw[List.getElem?_append_left I]at x;rw[List.getElem?_append_left (by omega)]at o p;exact aX.same (O q v K u x o p) (λk a=> .inl ⟨I,a⟩) (λ_ _ _=>rfl)
   ·rw[List.getElem?_append_right (by omega)]at x o p;rw[show q - m.length=q - vs.length by omega]at o;rw[show q - f.length=q - vs.length by omega]at p;exact aX.same (y _ v K u x o p) (λk a=> .inr ⟨by omega,a⟩) (λ_ _ _=>rfl)
  ·rintro q k (⟨_,a⟩|⟨_,a⟩)
   ·exact .inl (z q k a)
   ·exact .inr (l _ k a)
  ·rintro q J k (⟨R,a⟩|⟨R,a⟩) (⟨S,b⟩|⟨S,b⟩)
   ·exact Q q J k a b
   ·exact absurd (l _ k b) (H k (z q k a))
   ·exact absurd (l _ k a) (H k (z J k b))
   ·have:=A _ _ k a b;omega)
theorem jF (q:Nat) {vs:List Value} {b:List (List Value)} {a:List (List (List α))} (f:M[q]? = some (Fq e vs b a)):∀c w,St c M L w->vs.length=a.length:=λc w t=>by
 obtain⟨_,h⟩:=t.res f;exact h.1.1
theorem nN {j:Nat} {vs:List Value} {f:List (List Value)} {a:List (List (List α))} {k:Int} (x:M[j]? = some (Fq e vs f a)) (b:e.Fits r) (h:0<=k) (s:k<a.length):aE M L (S2 r (at' vs k) ((at' f k).zip (at' a k)) (at' a k)):=λw S T U D u E v=>by
 obtain⟨⟨y,z⟩,G,o,p,_⟩:=u j _ x;obtain⟨A,B,t,i,l,m,_⟩:=o k.toNat _ _ _ (gG h (by omega)) (gG h (by omega)) (gG h s);refine⟨(SS b t i).mono λq C _=>⟨v j q (p _ q (C.elim (l q) (m q))),rfl⟩,?_⟩
 rw[List.map_snd_zip];obtain⟨F,_⟩:=i;omega
theorem Bj [cE P] (i j:Nat) {T E:TypeId} {o p:Nat} {z:Value} {x:Operand} {v:Value} {vs:List Value} {f:List (List Value)} {b:List (List (List α))} (m:ev σ x=some v) (k:M[i]? = some (Ar cO.raw v vs)) (l:M[j]? = some (Fq e vs f b))
  (h:cE.tab P T=some ⟨.slice E,o,p,z⟩):Y P c n σ M L ⟨d,.call ⟨.builtin .len,#[x],#[T]⟩,ty,pos,aft,g⟩ (.int .i64 b.length):=λa w s t=>by
 rw[<-jF j l c w t];exact abN i m k h a w s t
theorem II (i:Nat) {v:Value} {l:List α} (j:M[i]? = some (Ar e v l)):∀c w,St c M L w->Sx.one v=true:=λc w t=>by
 obtain⟨_,_,_,h⟩:=t.res j;rcases h with⟨q,_⟩|⟨b,k,a,T,f,q,_⟩<;>rw[q]<;>rfl
end
section
variable {P:Program} {c:sR} {n:Sz} {σ:Fr} {M L:List aX} {d:Option Tmp} {ty:TypeId} {pos:String} {aft:Array Edge} {g:Option (Nat×Bool)} {α:Type} {e:cO α}
theorem NE (j:Nat) {vs:List Value} {u:List (List Value)} {o:List (List (List α))} {k:Int} (V:M[j]? = some (Fq e vs u o)) (y:0<=k∧k<o.length):nO M L (Ar cO.raw (at' vs k) (at' u k)::kN e (at' u k) (at' o k)::M.eraseIdx j) L:=by
 rintro c w ⟨Y,F,p,U⟩;obtain⟨⟨W,X⟩,G,R,K,_⟩:=p.res j _ V;obtain⟨A,B,S,T,O,Q,H⟩:=R k.toNat _ _ _ (gG y.1 (by omega)) (gG y.1 (by omega)) (gG y.1 y.2);let s:Nat->Nat:=λq=>if q<j then q else q+1;have t:∀q,s q≠j:=by intro q;simp only[s];split<;>omega
 have E:∀q r,s q=s r->q=r:=by intro q r;simp only[s];split<;>split<;>omega
 have v:∀b,A b->F j b:=λb h=>K _ b (O b h);have x:∀b,B b->F j b:=λb h=>K _ b (Q b h);refine⟨Y,λq b=>(q=0∧A b)∨(q=1∧B b)∨∃r,q=r+2∧F (s r) b,⟨?_,?_,?_⟩,λf C=> ?_⟩
 ·intro q m l
  match q,l with
  |0,l=>
   obtain rfl:=Option.some.inj l;exact aX.same S (λb a=> .inl ⟨rfl,a⟩) (λ_ _ _=>rfl)
  |1,l=>
   obtain rfl:=Option.some.inj l;exact aX.same T (λb a=> .inr (.inl ⟨rfl,a⟩)) (λ_ _ _=>rfl)
  | r + 2, l =>
   have l:(M.eraseIdx j)[r]? = some m:=l;have D:M[s r]? = some m:=by
    rw[List.getElem?_eraseIdx]at l;simp only[s];split
    ·rename_i z;rwa[if_pos z]at l
    ·rename_i z;rwa[if_neg z]at l
   exact aX.same (p.res (s r) m D) (λb a=> .inr (.inr ⟨r,rfl,a⟩)) (λ_ _ _=>rfl)
 ·rintro q b (⟨_,a⟩|⟨_,a⟩|⟨r,_,a⟩)
  ·exact p.rng _ b (v b a)
  ·exact p.rng _ b (x b a)
  ·exact p.rng _ b a
 ·rintro q q' b (⟨I,a⟩|⟨I,a⟩|⟨r,I,a⟩) (⟨J,i⟩|⟨J,i⟩|⟨N,J,i⟩)
  ·omega
  ·exact absurd i (H b a)
  ·exact absurd (p.dis _ _ b (v b a) i).symm (t N)
  ·exact absurd a (H b i)
  ·omega
  ·exact absurd (p.dis _ _ b (x b a) i).symm (t N)
  ·exact absurd (p.dis _ _ b a (v b i)) (t r)
  ·exact absurd (p.dis _ _ b a (x b i)) (t r)
  ·have:=E _ _ (p.dis _ _ b a i);omega
 ·exact aX.same (U f C) (λb a=>⟨a.1,by
   rintro q (⟨_,h⟩|⟨_,h⟩|⟨r,_,h⟩)
   ·exact a.2 _ (v b h)
   ·exact a.2 _ (x b h)
   ·exact a.2 _ h⟩) (λ_ _ _=>rfl)
end
end Go.Sx
namespace Go.Proofs.YtmdlcmbplnhdnaaGreatDoor
open Go.Sx
def Ie:aP:=[0,1,1,2,1,2,2,3,1,2,2,3,2,3,3,4,1,2,2,3,2,3,3,4,2,3,3,4,3,4,4,5,1,2,2,3,2,3,3,4,2,3,3,4,3,4,4,5,2,3,3,4,3,4,4,5,3,4,4,5,4,5,5,6,1,2,2,3,2,3,3,4,2,3,3,4,3,4,4,5,2,3,3,4,3,4,4,5,3,4,4,5,4,5,5,6,2,3,3,4,3,4,4,5,3,4,4,5,4,5,5,6,3,4,4,5,4,5,5,6,4,5,5,6,5,6,6,7,1,2,2,3,2,3,3,4,2,3,3,4,3,4,4,5,2,3,3,4,3,4,4,5,3,4,4,5,4,5,5,6,2,3,3,4,3,4,4,5,3,4,4,5,4,5,5,6,3,4,4,5,4,5,5,6,4,5,5,6,5,6,6,7,2,3,3,4,3,4,4,5,3,4,4,5,4,5,5,6,3,4,4,5,4,5,5,6,4,5,5,6,5,6,6,7,3,4,4,5,4,5,5,6,4,5,5,6,5,6,6,7,4,5,5,6,5,6,6,7,5,6,6,7,6,7,7,8]
theorem Md:IW (ByteArray.mk #[0,1,1,2,1,2,2,3,1,2,2,3,2,3,3,4,1,2,2,3,2,3,3,4,2,3,3,4,3,4,4,5,1,2,2,3,2,3,3,4,2,3,3,4,3,4,4,5,2,3,3,4,3,4,4,5,3,4,4,5,4,5,5,6,1,2,2,3,2,3,3,4,2,3,3,4,3,4,4,5,2,3,3,4,3,4,4,5,3,4,4,5,4,5,5,6,2,3,3,4,3,4,4,5,3,4,4,5,4,5,5,6,3,4,4,5,4,5,5,6,4,5,5,6,5,6,6,7,1,2,2,3,2,3,3,4,2,3,3,4,3,4,4,5,2,3,3,4,3,4,4,5,3,4,4,5,4,5,5,6,2,3,3,4,3,4,4,5,3,4,4,5,4,5,5,6,3,4,4,5,4,5,5,6,4,5,5,6,5,6,6,7,2,3,3,4,3,4,4,5,3,4,4,5,4,5,5,6,3,4,4,5,4,5,5,6,4,5,5,6,5,6,6,7,3,4,4,5,4,5,5,6,4,5,5,6,5,6,6,7,4,5,5,6,5,6,6,7,5,6,6,7,6,7,7,8])=Ie:=by kernel_rfl
def wD:aP:=[0,1,28,2,29,14,24,3,30,22,20,15,25,17,4,8,31,27,13,23,21,19,16,7,26,12,18,6,11,5,10,9]
theorem _root_.Go.Sx.Y.bld5 {P:Program} {c:sR} {n:Sz} {a:Fr} {M L:List aX} {d:Option Tmp} {E:TypeId} {k:String} {j:Array Edge} {g:Option (Nat×Bool)} {T:TypeId} {b e f h i:Nat} {s t u v x:Operand} {l m o p q:Value} {r:Value} (y:ev a s=some l) (z:ev a t=some m) (A:ev a u=some o) (B:ev a v=some p) (C:ev a x=some q) (D:∀w,(Instr.build T ([(b,l),(e,m),(f,o),(h,p),(i,q)]:List (Nat×Value)).toArray).run P w = .ok r w):Y P c n a M L ⟨d,.build T #[(b,s),(e,t),(f,u),(h,v),(i,x)],E,k,j,g⟩ r:=
 zK (ps:=[(b,s),(e,t),(f,u),(h,v),(i,x)]) (vs:=[(b,l),(e,m),(f,o),(h,p),(i,q)]) (by simp[y,z,A,B,C]) D
abbrev ESt:cO ByteArray:=⟨1,Nat.one_pos,λx=>[.string x],λ_=>rfl⟩
abbrev RSt:eD ByteArray:=⟨1,Nat.one_pos,λ_ _ a x=>a=[.string x],λh=>by simp[h],λh _=>h⟩
theorem FSt:ESt.Fits RSt:=⟨rfl,λh=>h,rfl,λ_=>rfl⟩
abbrev b_:cO Int:=cO.int .i64
abbrev bP:eD Int:=eD.int .i64
theorem cZ:b_.Fits bP:=Fe .i64
theorem dJ:bP.Cell 0 (λx=> .int .i64 x):=Fo .i64
abbrev gZ:cO Pp:=cO.pair ESt (cO.pair b_ (cO.pair b_ (cO.pair b_ (cO.pair b_ (b_)))))
abbrev aQ:eD Pp:=eD.pair RSt (eD.pair bP (eD.pair bP (eD.pair bP (eD.pair bP (bP)))))
theorem g_:gZ.Fits aQ:=iG FSt (iG cZ (iG cZ (iG cZ (iG cZ (cZ)))))
theorem wK:aQ.Cell 1 (λx=> .int .i64 x.2.1):=cK (oK (dJ))
theorem CB:aQ.Cell 2 (λx=> .int .i64 x.2.2.1):=cK (cK (oK (dJ)))
theorem CC:aQ.Cell 3 (λx=> .int .i64 x.2.2.2.1):=cK (cK (cK (oK (dJ))))
theorem CE:aQ.Cell 4 (λx=> .int .i64 x.2.2.2.2.1):=cK (cK (cK (cK (oK (dJ)))))
theorem CF:aQ.Cell 5 (λx=> .int .i64 x.2.2.2.2.2):=cK (cK (cK (cK (cK (dJ)))))
abbrev bT:cO i_:=cO.pair b_ (b_)
abbrev bA:eD i_:=eD.pair bP (bP)
theorem bR:bT.Fits bA:=iG cZ (cZ)
theorem BA:bA.Cell 0 (λx=> .int .i64 x.1):=oK (dJ)
theorem Qa:bA.Cell 1 (λx=> .int .i64 x.2):=cK (dJ)
abbrev qH:eD (Int×(Value×eW)):=eD.pair bP ((eD.sl bA))
theorem Kh:qH.All 2 (λx=>[Value.int .i64 (x.1),x.2.1]):=(LM (Qc cZ) (Qd bA))
theorem Cp:qH.Deep bA (λx=>x.2):=DL (CQ bA)
abbrev aH:eD (ByteArray×(Value×eW)×(Value×List (Int×(Value×eW)))):=eD.pair RSt (eD.pair (eD.sl bA) ((eD.sl qH)))
theorem yW:aH.Cell 1 (λx=>x.2.1.1):=cK (oK (eD.sl_cell bA))
theorem yY:aH.Deep bA (λx=>x.2.1):=DL (Tv (CQ bA))
theorem yX:aH.Cell 2 (λx=>x.2.2.1):=cK (cK (eD.sl_cell qH))
theorem fR:aH.Deep qH (λx=>x.2.2):=DL (DL (CQ qH))
abbrev EFn:cO Nat:=cO.fn
abbrev RFn:eD Nat:=eD.fn
theorem FFn:EFn.Fits RFn:=Nh
abbrev HW:cO (Int×Nat):=cO.pair b_ (EFn)
abbrev YL:eD (Int×Nat):=eD.pair bP (RFn)
theorem Ay:HW.Fits YL:=iG cZ (FFn)
abbrev EBo:cO Bool:=cO.bool
abbrev oJ:cO Int:=cO.int .u32
abbrev yD:eD Int:=eD.int .u32
theorem sT:oJ.Fits yD:=Fe .u32
theorem Gv:yD.Cell 0 (λx=> .int .u32 x):=Fo .u32
abbrev Hl:cO Int:=cO.int .u8
abbrev cG:cO (Int×Int×Int×Int×Int):=cO.pair b_ (cO.pair b_ (cO.pair b_ (cO.pair b_ (oJ))))
abbrev Fj:eD (Int×Int×Int×Int×Int):=eD.pair bP (eD.pair bP (eD.pair bP (eD.pair bP (yD))))
theorem jE:cG.Fits Fj:=iG cZ (iG cZ (iG cZ (iG cZ (sT))))
def Pu (x:Int):Value:=Value.int .i64 (x)
def mR (x:fH):Value:=Value.agg #[Value.int .i64 (x.1),Value.int .i64 (x.2)]
theorem WW (x y:fH) (m:Nat) (w:World):(Op.equalIn (m+2) 141 (.agg #[.int .i64 x.1,.int .i64 x.2]) (.agg #[.int .i64 y.1,.int .i64 y.2])).run Tryz.prog w = .ok (decide (x=y)) w:=by
 have c:∀a b:Int,(Op.equalIn (m+1) 3 (.int .i64 a) (.int .i64 b)).run Tryz.prog w = .ok (a==b) w:=by
  intro a b;simp[Op.equalIn]
 unfold Op.equalIn;simp[show List.range' 0 2=[0,1]from rfl,part,isAgg,c];obtain⟨d,e⟩:=x;obtain⟨f,g⟩:=y;by_cases h:d=f<;>by_cases i:e=g<;>simp[h,i,c]
theorem VS (b:Bool) (k:fH) (w:World):(Instr.checkKey b 10000 141 (mR k)).run Tryz.prog w = .ok () w:=by
 have a:∀m:Nat,(Instr.checkKey b (m+2) 141 (mR k)).run Tryz.prog w = .ok () w:=by
  intro m;simp[Instr.checkKey,mR,part,isAgg,show List.range' 0 2=[0,1]from rfl]
 exact a 9998
theorem Mv:IG Tryz.prog 141 mR:=PW Tryz.underlying141 VS (λ_ _=>rfl) (λa b w=>WW a b 9998 w) (λk=>by
 have c:∀m:Nat,Instr.sameBits (m+2) (mR k) (mR k)=true:=λm=>by simp[Instr.sameBits,mR]
 exact c 9998)
theorem nQ (b:Value) (c:one b=true) (a:Array Value) (h:a.size=1*1):Instr.fill (λi=>some (i*1,1)) a [(0,b)]=some [b].toArray:=by
 obtain⟨l⟩:=a
 match l,h with
 | [z0],_=>simp[Instr.fill,fJ c]
theorem xW (b c:Value) (a:Array Value) (h:a.size=1*2):Instr.fill (λi=>some (i*2,2)) a [(0,.agg #[b,c])]=some [b,c].toArray:=by
 obtain⟨l⟩:=a
 match l,h with
 | [z0,z1],_=>simp[Instr.fill,Value.cells]
theorem Oa (b c d e f:Value) (a:Array Value) (h:a.size=1*5):Instr.fill (λi=>some (i*5,5)) a [(0,.agg #[b,c,d,e,f])]=some [b,c,d,e,f].toArray:=by
 obtain⟨l⟩:=a
 match l,h with
 | [z0,z1,z2,z3,z4],_=>simp[Instr.fill,Value.cells]
theorem Jm (b c:Value) (d:one b=true) (e:one c=true) (a:Array Value) (h:a.size=2*1):Instr.fill (λi=>some (i*1,1)) a [(0,b),(1,c)]=some [b,c].toArray:=by
 obtain⟨l⟩:=a
 match l,h with
 | [z0,z1],_=>simp[Instr.fill,fJ d,fJ e]
theorem Jn (d e f g j k m n o p b c:Value) (a:Array Value) (h:a.size=2*6):Instr.fill (λi=>some (i*6,6)) a [(0,.agg #[d,e,f,g,j,k]),(1,.agg #[m,n,o,p,b,c])]=some [d,e,f,g,j,k,m,n,o,p,b,c].toArray:=by
 obtain⟨l⟩:=a
 match l,h with
 | [z0,z1,z2,z3,z4,z5,z6,z7,z8,z9,z10,z11],_=>simp[Instr.fill,Value.cells]
theorem Wt (b c d e f g:Value) (a:Array Value) (h:a.size=3*2):Instr.fill (λi=>some (i*2,2)) a [(0,.agg #[b,c]),(1,.agg #[d,e]),(2,.agg #[f,g])]=some [b,c,d,e,f,g].toArray:=by
 obtain⟨l⟩:=a
 match l,h with
 | [z0,z1,z2,z3,z4,z5],_=>simp[Instr.fill,Value.cells]
theorem Wu (b c d e f g:Value) (j:one b=true) (k:one c=true) (m:one d=true) (n:one e=true) (o:one f=true) (p:one g=true) (a:Array Value) (h:a.size=6*1):Instr.fill (λi=>some (i*1,1)) a [(0,b),(1,c),(2,d),(3,e),(4,f),(5,g)]=some [b,c,d,e,f,g].toArray:=by
 obtain⟨l⟩:=a
 match l,h with
 | [z0,z1,z2,z3,z4,z5],_=>simp[Instr.fill,fJ j,fJ k,fJ m,fJ n,fJ o,fJ p]
def xP (a:Int) (b:Bool):Option (Int):=
 if b=true then(some (-1:Int))else(if a<=(17:Int)then(some (0:Int))else(if a<=(29:Int)then(some (1:Int))else(if a<=(42:Int)then(some (2:Int))else(some (3:Int)))))
def vV (U:Nat) (a:Int):Option (Int):=
 if a<(1:Int)then(xP a (true))else(xP a (decide ((43:Int)<a)))
theorem Zx:aT Tryz.prog 176:=Tryz.call176
theorem MV (U:Nat) {b:Int} (r:Int) (h:vV U b=some r):
  aY Tryz.prog 176 #[vI (b)] [] (λx:Unit=>vI (r)) (λx l=>l) (λ_ l=>l):=by
 refine aY.of Tryz.func176 Z Tryz.ntmps176 Z λc=>?_;refine aU<|aD Z<|aM<|aJ<|aV<|aJ<|fF (λa=>xP b a=some r) (λa d=>[(0,vI (b)),(3,vB (a))]) (λa d=>[]) ?_ ?_
 ·refine aR<|aA Z<|cX Z<|aA Z ?_;refine EN h Z (λ_ h=>?_) λ_ h=>?_
  ·refine aN Z<|aN Z<|fK Z<|aD Z<|aM ?_;exact jP (true) () h SF Z
  refine eX Z<|aW Z (wL Z Z) Z<|iL Z<|aD Z<|aM ?_;exact jP (decide ((43:Int)<b)) () h SF Z
 intro a d h;refine Bm h Z (λ_ h=>?_) λ_ h=>?_
 ·refine aU<|aD Z<|aM<|aS<|bM<|aI ?_;cases h;exact lI Z
 refine aU<|aA Z<|aC (Cr Z Z) Z<|aD Z<|aM ?_;refine fC h Z (λh=>?_) λh=>?_
 ·refine aU<|aD Z<|aM<|aS<|bM<|aI ?_;cases h;exact lI Z
 refine aU<|aA Z<|aC (Cr Z Z) Z<|aD Z<|aM ?_;refine fC h Z (λh=>?_) λh=>?_
 ·refine aU<|aD Z<|aM<|aS<|bM<|aI ?_;cases h;exact lI Z
 refine aU<|aA Z<|aC (Cr Z Z) Z<|aD Z<|aM ?_;refine fC h Z (λh=>?_) λh=>?_
 ·refine aU<|aD Z<|aM<|aS<|bM<|aI ?_;cases h;exact lI Z
 refine dX<|o_<|aU<|aD Z<|aM<|aS ?_;cases h;exact lI Z
def Dz  (a:Unit):Option (Int):=
 some (-1:Int)
def lB (U:Nat) (d:eW) (a:fH) (c:i_->Option (Int)):Option (Int):=
 if a.1<(List.length d:Int)then(ck (0<=a.1∧a.1<(List.length d:Int)) (Option.bind (vV U ((at' d a.1).1)) λb=>(if b<(0:Int)then(some (-1:Int))else(if(wI .i64 (a.2+(wI .i64 (b - (1:Int)))))=(0:Int)then(some (wI .i64 (a.1+(1:Int))))else(c ((wI .i64 (a.1+(1:Int))),(wI .i64 (a.2+(wI .i64 (b - (1:Int)))))))))))else(Dz  (()))
def AP (U:Nat) (b:eW) (c:Int) (a:Bool):Option (Int):=
 if a=true then(some (-1:Int))else(bK (lB U b) U (c,(1:Int)))
def BY (U:Nat) (b:eW) (a:Int):Option (Int):=
 if a<(0:Int)then(AP U b a (true))else(AP U b a (decide ((List.length b:Int)<=a)))
theorem Zs:aT Tryz.prog 159:=Tryz.call159
theorem Rm (U:Nat) {g:eW} {b:Int} (k:Value) (r:Int) (h:BY U g b=some r):
  aY Tryz.prog 159 #[k,vI (b)] [Sl bA k g] (λx:Unit=>vI (r)) (λx l=>l) (λ_ l=>l):=by
 refine aY.of Tryz.func159 Z Tryz.ntmps159 Z λc=>?_;refine aU<|aD Z<|aM<|aJ<|aJ<|fF (λd=>AP U g b d=some r) (λd n=>[(0,k),(1,vI (b)),(14,vB (d))]) (λd n=>[]) ?_ ?_
 ·refine aR<|aA Z<|cX Z<|aA Z ?_;refine EN h Z (λ_ h=>?_) λ_ h=>?_
  ·refine aN Z<|aN Z<|aN Z<|aN Z<|fK Z<|aM ?_;exact jP (true) () h SF Z
  refine eX Z<|eX Z<|aW Z (jC Z (aE.fact 0 Z) Z) Z<|aW Z (Hn Z Z) Z<|iL Z<|aM ?_;exact jP (decide ((List.length g:Int)<=b)) () h SF Z
 intro d n h;refine Bm h Z (λ_ h=>?_) λ_ h=>?_
 ·refine aU<|aD Z<|aM<|aS<|aI ?_;cases h;exact lI Z
 refine cV<|aJ<|fF (λj=>Dz  j=some r) (λj o=>[]) (λj o=>[]) ?_ ?_
 ·refine aU<|aD Z<|aM<|aV<|e_ (lB U g) (λa e=>[(0,k),(1,vI (a.1)),(5,vI (a.2))]) (λa e=>[]) (b,(1:Int)) () h SF (aZ.refl _) ?_;intro p a e h;refine aJ<|aU<|aA Z<|aA Z<|kP (aE.fact 0 Z) Z<|cX Z<|aM ?_;refine fC h Z (λh=>?_) λh=>?_
  ·refine cV<|aJ<|aV<|aU<|aA Z<|aA Z<|dH h λf h=>aC (bB Z Z (aE.fact 0 Z) Z Z f) Z<|aC (oL Z Z Z Z Z) Z<|aC (qM Z (aE.fact 0 Z) Z Z Z BA f) Z<|fN h λi m h=>aG (aL.callQ Zx (MV U  i m) Z .nil) Z λq=>aD Z<|aM<|aJ<|aU<|aA Z<|cX Z<|aM ?_;refine fC h Z (λh=>?_) λh=>?_
   ·refine aU<|aD Z<|aM<|aS<|aI<|bM<|aI<|aI<|bM<|aI ?_;cases h;exact lI Z
   refine cV<|aU<|aA Z<|aA Z<|aC (nW Z Z) Z<|cP Z<|aD Z<|aM<|aU<|aA Z<|cN Z<|aM ?_;refine fC h Z (λh=>?_) λh=>?_
   ·refine aU<|aA Z<|cP Z<|aD Z<|aM<|aS<|bM<|aI<|aI<|bM<|aI ?_;cases h;exact lI Z
   refine dX<|o_<|aR<|aA Z<|cP Z<|aD Z<|aM ?_;exact AT ((wI .i64 (a.1+(1:Int))),(wI .i64 (a.2+(wI .i64 (i - (1:Int)))))) () h SF Z
  refine gK ?_;exact jP () (()) h SF Z
 intro j o h;unfold Dz at h;refine aU<|aD Z<|aM<|aS ?_;cases h;exact lI Z
def iJ (U:Nat) (a:Bool):Option (Int):=
 if a=true then(some (1:Int))else(some (0:Int))
theorem xC:aT Tryz.prog 185:=Tryz.call185
theorem kS (U:Nat) {a:Bool} (r:Int) (h:iJ U a=some r):
  aY Tryz.prog 185 #[vB (a)] [] (λx:Unit=>vI (r)) (λx l=>l) (λ_ l=>l):=by
 refine aY.of Tryz.func185 Z Tryz.ntmps185 Z λc=>?_;refine aU<|aD Z<|aM<|aJ<|aU<|aA Z<|aM ?_;refine Bm h Z (λ_ h=>?_) λ_ h=>?_
 ·refine aU<|aD Z<|aM<|aS<|aI ?_;cases h;exact lI Z
 refine cV<|aU<|aD Z<|aM<|aS ?_;cases h;exact lI Z
def qZ (U:Nat) (a:Uy) (d:Int) (b:Int) (c:Int):Option (Int):=
 if d=(6:Int)then(some (List.length a.2.1.1:Int))else(if d=(7:Int)then(some (a.2.2.1))else(if d=(8:Int)then(ck (0<=b∧b<(List.length a.2.1.1:Int)) (some (at' a.2.1.1 b)))else(if d=(9:Int)then(ck (0<=b∧b<(List.length a.2.1.2:Int)) (some (List.length (at' a.2.1.2 b):Int)))else(if d=(10:Int)then(Option.bind (iJ U (decide (b=(0:Int)))) λf=>(some (f)))else(if d=(11:Int)then(some (c))else(ck (0<=b∧b<(List.length a.2.1.2:Int)) (ck (0<=c∧c<(List.length (at' a.2.1.2 b):Int)) (if d=(13:Int)then(ck (0<=((at' (at' a.2.1.2 b) c).1)∧((at' (at' a.2.1.2 b) c).1)<(List.length a.2.1.1:Int)) (some (at' a.2.1.1 ((at' (at' a.2.1.2 b) c).1))))else(if d=(14:Int)then(ck (0<=((at' (at' a.2.1.2 b) c).1)∧((at' (at' a.2.1.2 b) c).1)<(List.length a.2.1.2:Int)) (some (List.length (at' a.2.1.2 ((at' (at' a.2.1.2 b) c).1)):Int)))else(if d=(15:Int)then(Option.bind (iJ U (decide (((at' (at' a.2.1.2 b) c).1)=(0:Int)))) λe=>(some (e)))else(if d=(16:Int)then(some ((at' (at' a.2.1.2 b) c).2))else(ck (0<=b∧b<(List.length a.2.2.2:Int)) (ck (0<=c∧c<(List.length (at' a.2.2.2 b):Int)) (some (at' (at' a.2.2.2 b) c)))))))))))))))
theorem Zy:aT Tryz.prog 184:=Tryz.call184
theorem Dp (U:Nat) {d:Uy} {s:Int} {f:Int} {g:Int} (i:Nat)  (t:Value)  (u:Value)  (v:Value)  (w:Value)  (F:mZ)  (y:Value)  (G:sD) (r:Int) (h:qZ U d s f g=some r):
  aY Tryz.prog 184 #[vP i,vI (s),vI (f),vI (g)] [bV i [vS (d.1.1),t,u,v,w,vI (d.2.2.1),y] 137,Sl aQ t d.1.2.1,Sl aH u d.1.2.2,Sl bP v d.2.1.1,S2 bA w F d.2.1.2,S2 bP y G d.2.2.2] (λx:Unit=>vI (r)) (λx l=>l) (λ_ l=>l):=by
 refine aY.of Tryz.func184 Z Tryz.ntmps184 Z λc=>?_;refine aU<|aD Z<|aM<|aJ<|aU<|aA Z<|aM<|aV<|aU<|cN Z<|aD Z<|aM ?_;refine fC h Z (λh=>?_) λh=>?_
 ·refine aU<|aA Z<|aC (bW Z) Z<|bU Z<|bU Z<|aC (dB Z (aE.fact 0 Z) Z Z Z) Z<|kP (aE.fact 3 Z) Z<|aD Z<|aM<|aS<|bM<|aI ?_;cases h;exact lI Z
 refine aU<|cN Z<|aD Z<|aM ?_;refine fC h Z (λh=>?_) λh=>?_
 ·refine aU<|aA Z<|aC (bW Z) Z<|bU Z<|aC (dB Z (aE.fact 0 Z) Z Z Z) Z<|aD Z<|aM<|aS<|bM<|aI ?_;cases h;exact lI Z
 refine aU<|cN Z<|aD Z<|aM ?_;refine fC h Z (λh=>?_) λh=>?_
 ·refine aU<|aA Z<|aC (bW Z) Z<|bU Z<|bU Z<|aC (dB Z (aE.fact 0 Z) Z Z Z) Z<|aA Z<|dH h λq h=>aC (bB Z Z (aE.fact 3 Z) Z Z q) Z<|aC (bY Z (aE.fact 3 Z) Z Z Z dJ q) Z<|aD Z<|aM<|aS<|bM<|aI ?_;cases h;exact lI Z
 refine aU<|cN Z<|aD Z<|aM ?_;refine fC h Z (λh=>?_) λh=>?_
 ·refine aU<|aA Z<|aC (bW Z) Z<|bU Z<|bU Z<|aC (dB Z (aE.fact 0 Z) Z Z Z) Z<|aA Z<|dH h λn h=>aC (cL Z Z (aE.fact 4 Z) Z Z n) Z<|aC (cT Z (aE.fact 4 Z) Z Z n) Z<|aC (jC Z (aE.el (aE.fact 4 Z) n.1 n.2) Z) Z<|aD Z<|aM<|aS<|bM<|aI ?_;cases h;exact lI Z
 refine aU<|cN Z<|aD Z<|aM ?_;refine fC h Z (λh=>?_) λh=>?_
 ·refine aU<|aA Z<|cN Z<|fN h λB C h=>aG (aL.callQ xC (kS U  B C) Z .nil) Z λD=>aD Z<|aM<|aS<|bM<|aI ?_;cases h;exact lI Z
 refine aU<|cN Z<|aD Z<|aM ?_;refine fC h Z (λh=>?_) λh=>?_
 ·refine aU<|aA Z<|aD Z<|aM<|aS<|bM<|aI ?_;cases h;exact lI Z
 refine dX<|o_<|aU<|aA Z<|aC (bW Z) Z<|bU Z<|bU Z<|aC (dB Z (aE.fact 0 Z) Z Z Z) Z<|aA Z<|dH h λa h=>aC (cL Z Z (aE.fact 4 Z) Z Z a) Z<|aC (cT Z (aE.fact 4 Z) Z Z a) Z<|aA Z<|dH h λj h=>aC (bB Z Z (aE.el (aE.fact 4 Z) a.1 a.2) Z Z j) Z<|aC (jG (cs:=[vI ((at' (at' d.2.1.2 f) g).1),vI ((at' (at' d.2.1.2 f) g).2)]) Z (aE.el (aE.fact 4 Z) a.1 a.2) bR Z Z Z Z j) Z<|aG (aL.alloc (cs:=UG) Z Z) Z λA=>bQ 0 (vs:=[vI ((at' (at' d.2.1.2 f) g).1),vI ((at' (at' d.2.1.2 f) g).2)]) Z Z Z Z Z Z<|aM<|aJ<|aU<|aA Z<|aM<|aV<|aU<|cN Z<|aD Z<|aM ?_;refine fC h Z (λh=>?_) λh=>?_
 ·refine aJ ?_;refine JR.start [0,1,3,7,15,0,32,127,255,511] 7 mixedOrders (by decide +kernel) ?_;refine JR.open (by exact rfl) ?_;refine bG Z<|iH Z (bW Z)<|cY Z<|cY Z<|bJ Z .nil (nA 0 Z) (dB Z (aE.fact 0 Z) Z Z Z) aK.z<|cY Z<|jO 0 Z<|bN 7 Z Z<|dH h λk h=>aC (bB Z Z (aE.fact 3 Z) Z Z k) Z<|aC (bY Z (aE.fact 3 Z) Z Z Z dJ k) Z<|aD Z<|aM<|aS<|bM<|aI ?_;cases h;exact vZ Z
 refine aU<|cN Z<|aD Z<|aM ?_;refine fC h Z (λh=>?_) λh=>?_
 ·refine aJ ?_;refine JR.start [0,1,3,7,15,0,32,127,255,511,1023] 7 mixedOrders (by decide +kernel) ?_;refine JR.open (by exact rfl) ?_;refine bG Z<|iH Z (bW Z)<|cY Z<|cY Z<|bJ Z .nil (nA 0 Z) (dB Z (aE.fact 0 Z) Z Z Z) aK.z<|cY Z<|jO 0 Z<|bN 7 Z Z<|dH h λe h=>aC (cL Z Z (aE.fact 4 Z) Z Z e) Z<|aC (cT Z (aE.fact 4 Z) Z Z e) Z<|aC (jC Z (aE.el (aE.fact 4 Z) e.1 e.2) Z) Z<|aD Z<|aM<|aS<|bM<|aI ?_;cases h;exact vZ Z
 refine aU<|cN Z<|aD Z<|aM ?_;refine fC h Z (λh=>?_) λh=>?_
 ·refine aU<|bU Z<|dL 0 Z<|cN Z<|fN h λo p h=>aG (aL.callQ xC (kS U  o p) Z .nil) Z λE=>aD Z<|aM<|aS<|bM<|aI ?_;cases h;exact vZ Z
 refine aU<|cN Z<|aD Z<|aM ?_;refine fC h Z (λh=>?_) λh=>?_
 ·refine aU<|bU Z<|dL 0 Z<|aD Z<|aM<|aS<|bM<|aI ?_;cases h;exact vZ Z
 refine dX<|o_<|aU<|aA Z<|aC (bW Z) Z<|bU Z<|aC (dB Z (aE.fact 0 Z) Z Z Z) Z<|aA Z<|dH h λb h=>aC (cL Z Z (aE.fact 5 Z) Z Z b) Z<|aC (cT Z (aE.fact 5 Z) Z Z b) Z<|aA Z<|dH h λm h=>aC (bB Z Z (aE.el (aE.fact 5 Z) b.1 b.2) Z Z m) Z<|aC (bY Z (aE.el (aE.fact 5 Z) b.1 b.2) Z Z Z dJ m) Z<|aD Z<|aM<|aS ?_;cases h;exact vZ Z
def lM (U:Nat) (a:MX) (b:fH) (c:Int):Option (Int):=
 if b.1=(1:Int)then(some (b.2))else(if b.1=(2:Int)then(some (1:Int))else(if b.1=(3:Int)then(some (0:Int))else(if b.1=(4:Int)then(some (-1:Int))else(if b.1=(5:Int)then(ck (0<=a.2.2.1∧a.2.2.1<(List.length a.2.1:Int)) (ck (0<=b.2∧b.2<(List.length (at' a.2.1 a.2.2.1):Int)) (some (at' (at' a.2.1 a.2.2.1) b.2))))else(if b.1=(12:Int)then(ck (0<=a.2.2.1∧a.2.2.1<(List.length a.1.2.1.2:Int)) (ck (0<=c∧c<(List.length (at' a.1.2.1.2 a.2.2.1):Int)) (ck (0<=((at' (at' a.1.2.1.2 a.2.2.1) c).1)∧((at' (at' a.1.2.1.2 a.2.2.1) c).1)<(List.length a.2.1:Int)) (ck (0<=b.2∧b.2<(List.length (at' a.2.1 ((at' (at' a.1.2.1.2 a.2.2.1) c).1)):Int)) (some (at' (at' a.2.1 ((at' (at' a.1.2.1.2 a.2.2.1) c).1)) b.2))))))else(Option.bind (qZ U ((((a.1.1.1,a.1.1.2.1,a.1.1.2.2)),((a.1.2.1.1,a.1.2.1.2)),a.1.2.2.1,a.1.2.2.2)) b.1 a.2.2.1 c) λd=>(some (d))))))))
theorem Zu:aT Tryz.prog 165:=Tryz.call165
theorem Ek (U:Nat) {d:MX} {k:fH} {y:Int} (g:Nat)  (e:Nat)  (o:Value)  (p:Value)  (q:Value)  (s:Value)  (B:mZ)  (t:Value)  (C:sD)  (A:Value)  (v:sD)  (m:Value) (r:Int) (h:lM U d k y=some r):
  aY Tryz.prog 165 #[vP g,Value.agg #[vI (k.1),vI (k.2)],vI (y)] [bV g [vP e,A,vI (d.2.2.1),m] 207,bV e [vS (d.1.1.1),o,p,q,s,vI (d.1.2.2.1),t] 137,Sl aQ o d.1.1.2.1,Sl aH p d.1.1.2.2,Sl bP q d.1.2.1.1,S2 bA s B d.1.2.1.2,S2 bP t C d.1.2.2.2,S2 bP A v d.2.1,Sl bA m d.2.2.2] (λx:Unit=>vI (r)) (λx l=>l) (λ_ l=>l):=by
 refine aY.of Tryz.func165 Z Tryz.ntmps165 Z λc=>?_;refine aU<|aG (aL.box (cs:=[vI (k.1),vI (k.2)]) Z Z) Z λE=>aD Z<|aM<|aJ<|aU<|bU Z<|dL 0 Z<|aM<|aV<|aU<|cN Z<|aD Z<|aM ?_;refine fC h Z (λh=>?_) λh=>?_
 ·refine aU<|bU Z<|dL 0 Z<|aD Z<|aM<|aS<|bM<|aI ?_;cases h;exact vZ Z
 refine aU<|cN Z<|aD Z<|aM ?_;refine fC h Z (λh=>?_) λh=>?_
 ·refine aU<|aD Z<|aM<|aS<|bM<|aI ?_;cases h;exact vZ Z
 refine aU<|cN Z<|aD Z<|aM ?_;refine fC h Z (λh=>?_) λh=>?_
 ·refine aU<|aD Z<|aM<|aS<|bM<|aI ?_;cases h;exact vZ Z
 refine aU<|cN Z<|aD Z<|aM ?_;refine fC h Z (λh=>?_) λh=>?_
 ·refine aU<|aD Z<|aM<|aS<|bM<|aI ?_;cases h;exact vZ Z
 refine aU<|cN Z<|aD Z<|aM ?_;refine fC h Z (λh=>?_) λh=>?_
 ·refine aJ ?_;refine JR.start [0,1,3,7,0,16,48,112,255,511,0,1024,4095,8191,16383] 12 mixedOrders (by decide +kernel) ?_;refine JR.open (by exact rfl) ?_;refine bG Z<|iH Z (bW Z)<|cY Z<|bJ Z .nil (nA 0 Z) (dB Z (aE.fact 0 Z) Z Z Z) aK.z<|bG Z<|iH Z (bW Z)<|cY Z<|bJ Z .nil (nA 0 Z) (dB Z (aE.fact 0 Z) Z Z Z) aK.z<|dH h λf h=>bJ Z .nil (nA 7 Z) (cL Z Z (aE.fact 0 Z) Z Z f) aK.z<|bJ Z .nil (nA 7 Z) (cT Z (aE.fact 0 Z) Z Z f) aK.z<|cY Z<|jO 0 Z<|bN 12 Z Z<|dH h λw h=>aC (bB Z Z (aE.el (aE.fact 7 Z) f.1 f.2) Z Z w) Z<|aC (bY Z (aE.el (aE.fact 7 Z) f.1 f.2) Z Z Z dJ w) Z<|aD Z<|aM<|aS<|bM<|aI ?_;cases h;exact vZ Z
 refine aU<|cN Z<|aD Z<|aM ?_;refine fC h Z (λh=>?_) λh=>?_
 ·refine aJ ?_;refine JR.start [0,1,3,7,0,16,48,112,240,496,1008,2032,0,4096,12288,28672,65520,131056,0,524272,1048560,2097136,4194303,8388607,0,16777216,67108863,134217727,268435455] 26 mixedOrders (by decide +kernel) ?_;refine JR.open (by exact rfl) ?_;refine bG Z<|iH Z (bW Z)<|cY Z<|bJ Z .nil (nA 0 Z) (dB Z (aE.fact 0 Z) Z Z Z) aK.z<|bG Z<|iH Z (bW Z)<|cY Z<|bJ Z .nil (nA 0 Z) (dB Z (aE.fact 0 Z) Z Z Z) aK.z<|iH Z (bW Z)<|cY Z<|cY Z<|bJ Z .nil (nA 1 Z) (dB Z (aE.fact 0 Z) Z Z Z) aK.z<|bG Z<|iH Z (bW Z)<|cY Z<|bJ Z .nil (nA 0 Z) (dB Z (aE.fact 0 Z) Z Z Z) aK.z<|dH h λa h=>bJ Z .nil (nA 5 Z) (cL Z Z (aE.fact 0 Z) Z Z a) aK.z<|bJ Z .nil (nA 5 Z) (cT Z (aE.fact 0 Z) Z Z a) aK.z<|bG Z<|dH h λi h=>bJ Z .nil (nA 5 Z) (bB Z Z (aE.el (aE.fact 0 Z) a.1 a.2) Z Z i) aK.z<|iH Z (oL Z Z Z Z Z)<|bJ Z .nil (nA 5 Z) (qM Z (aE.el (aE.fact 0 Z) a.1 a.2) Z Z Z BA i) aK.z<|dH h λb h=>bJ Z .nil (nA 7 Z) (cL Z Z (aE.fact 0 Z) Z Z b) aK.z<|bJ Z .nil (nA 7 Z) (cT Z (aE.fact 0 Z) Z Z b) aK.z<|cY Z<|jO 0 Z<|bN 26 Z Z<|dH h λj h=>aC (bB Z Z (aE.el (aE.fact 7 Z) b.1 b.2) Z Z j) Z<|aC (bY Z (aE.el (aE.fact 7 Z) b.1 b.2) Z Z Z dJ j) Z<|aD Z<|aM<|aS<|bM<|aI ?_;cases h;exact vZ Z
 refine dX<|o_<|aJ ?_;refine JR.start [0,1,3,7,0,16,0,64,192,448,0,2047,4095] 11 mixedOrders (by decide +kernel) ?_;refine JR.open (by exact rfl) ?_;refine bG Z<|iH Z (bW Z)<|cY Z<|bJ Z .nil (nA 0 Z) (dB Z (aE.fact 0 Z) Z Z Z) aK.z<|cY Z<|jO 0 Z<|bG Z<|iH Z (bW Z)<|cY Z<|bJ Z .nil (nA 0 Z) (dB Z (aE.fact 0 Z) Z Z Z) aK.z<|bG Z<|bN 11 Z Z<|fN h λn u h=>aG (aL.callQ Zy (Dp U e o p q s B t C n u) Z (qB [1,2,3,4,5,6] Z)) Z λD=>aD Z<|aM<|aS ?_;cases h;exact vZ Z
def zE (U:Nat) (b:Int) (a:Int):Option (Int):=
 if b=(18:Int)then(some (wI .i64 (0 - a)))else(Option.bind (iJ U (decide (a=(0:Int)))) λc=>(some (c)))
theorem Zv:aT Tryz.prog 166:=Tryz.call166
theorem MN (U:Nat) {a:Int} {b:Int} (r:Int) (h:zE U a b=some r):
  aY Tryz.prog 166 #[vI (a),vI (b)] [] (λx:Unit=>vI (r)) (λx l=>l) (λ_ l=>l):=by
 refine aY.of Tryz.func166 Z Tryz.ntmps166 Z λc=>?_;refine aU<|aD Z<|aM<|aJ<|aU<|aA Z<|cN Z<|aM ?_;refine fC h Z (λh=>?_) λh=>?_
 ·refine aU<|aA Z<|aC (RF Z) Z<|aD Z<|aM<|aS<|aI ?_;cases h;exact lI Z
 refine cV<|aU<|aA Z<|cN Z<|fN h λd e h=>aG (aL.callQ xC (kS U  d e) Z .nil) Z λf=>aD Z<|aM<|aS ?_;cases h;exact lI Z
def iY (U:Nat) (a:Int):Option (Int):=
 some (max (-1073741824:Int) (min a (1073741824:Int)))
theorem DT:aT Tryz.prog 187:=Tryz.call187
theorem lW (U:Nat) {a:Int} (r:Int) (h:iY U a=some r):
  aY Tryz.prog 187 #[vI (a)] [] (λx:Unit=>vI (r)) (λx l=>l) (λ_ l=>l):=by
 refine aY.of Tryz.func187 Z Tryz.ntmps187 Z λc=>?_;unfold iY at h;refine aU<|aD Z<|aM<|aU<|aA Z<|aC (aba Z Z) Z<|aC (NL Z Z) Z<|aD Z<|aM<|aS ?_;cases h;exact lI Z
def oW  (a:Int):Option (Int):=
 some (a)
def rW (a:Int) (b:Int) (c:Bool):Option (Int):=
 if c=true then(oW  (wI .i64 ((wI .i64 (Int.tdiv a b)) - (1:Int))))else(oW  (wI .i64 (Int.tdiv a b)))
def qC (U:Nat) (b:Int) (a:Int):Option (Int):=
 if a=(0:Int)then(some (0:Int))else(ck (a≠0) (ck (a≠0) (if(Int.tmod b a)≠(0:Int)then(rW b a (((decide (b<(0:Int))) != (decide (a<(0:Int))))))else(rW b a (false)))))
theorem RU:aT Tryz.prog 188:=Tryz.call188
theorem Cw (U:Nat) {a:Int} {b:Int} (r:Int) (h:qC U a b=some r):
  aY Tryz.prog 188 #[vI (a),vI (b)] [] (λx:Unit=>vI (r)) (λx l=>l) (λ_ l=>l):=by
 refine aY.of Tryz.func188 Z Tryz.ntmps188 Z λc=>?_;refine aU<|aD Z<|aM<|aJ<|aU<|aA Z<|cN Z<|aM ?_;refine fC h Z (λh=>?_) λh=>?_
 ·refine aU<|aD Z<|aM<|aS<|aI ?_;cases h;exact lI Z
 refine cV<|aU<|aA Z<|aA Z<|dH h λj h=>aC (Vo Z Z j) Z<|aD Z<|aM<|aJ<|fF (λd=>oW  d=some r) (λd g=>[(5,vI (d))]) (λd g=>[]) ?_ ?_
 ·refine aJ<|fF (λe=>rW a b e=some r) (λe i=>[(5,vI (wI .i64 (Int.tdiv a b))),(21,vB (e))]) (λe i=>[]) ?_ ?_
  ·refine aR<|aA Z<|aA Z<|dH h λf h=>aC (NM Z Z f) Z<|pI Z<|aA Z ?_;refine EN h Z (λ_ h=>?_) λ_ h=>?_
   ·refine eX Z<|aW Z (Kz Z Z) Z<|eX Z<|aW Z (Kz Z Z) Z<|aW Z (abO Z Z Z) Z<|fK Z<|aM ?_;exact jP (((decide (a<(0:Int))) != (decide (b<(0:Int))))) () h SF Z
   refine aN Z<|aN Z<|aN Z<|aN Z<|aN Z<|iL Z<|aM ?_;exact jP (false) () h SF Z
  intro e i h;refine Bm h Z (λ_ h=>?_) λ_ h=>?_
  ·refine aR<|aA Z<|aC (nW Z Z) Z<|aD Z<|aM ?_;exact jP (wI .i64 ((wI .i64 (Int.tdiv a b)) - (1:Int))) () h SF Z
  refine cV ?_;exact jP (wI .i64 (Int.tdiv a b)) () h SF Z
 intro d g h;unfold oW at h;refine aU<|aA Z<|aD Z<|aM<|aS ?_;cases h;exact lI Z
def tS (U:Nat) (c:Int) (a:Int) (b:Int):Option (Bool):=
 if c=(35:Int)then(some (decide (a=b)))else(if c=(36:Int)then(some (decide (a≠b)))else(if c=(37:Int)then(some (decide (a<b)))else(if c=(38:Int)then(some (decide (a<=b)))else(if c=(39:Int)then(some (decide (b<a)))else(some (decide (b<=a)))))))
theorem ZA:aT Tryz.prog 189:=Tryz.call189
theorem HR (U:Nat) {a:Int} {b:Int} {d:Int} (r:Bool) (h:tS U a b d=some r):
  aY Tryz.prog 189 #[vI (a),vI (b),vI (d)] [] (λx:Unit=>vB (r)) (λx l=>l) (λ_ l=>l):=by
 refine aY.of Tryz.func189 Z Tryz.ntmps189 Z λc=>?_;refine aU<|aD Z<|aM<|aJ<|aU<|aA Z<|aM<|aV<|aU<|cN Z<|aD Z<|aM ?_;refine fC h Z (λh=>?_) λh=>?_
 ·refine aU<|aA Z<|aA Z<|cN Z<|aD Z<|aM<|aS<|bM<|aI ?_;cases h;exact lI Z
 refine aU<|cN Z<|aD Z<|aM ?_;refine fC h Z (λh=>?_) λh=>?_
 ·refine aU<|aA Z<|aA Z<|pI Z<|aD Z<|aM<|aS<|bM<|aI ?_;cases h;exact lI Z
 refine aU<|cN Z<|aD Z<|aM ?_;refine fC h Z (λh=>?_) λh=>?_
 ·refine aU<|aA Z<|aA Z<|cX Z<|aD Z<|aM<|aS<|bM<|aI ?_;cases h;exact lI Z
 refine aU<|cN Z<|aD Z<|aM ?_;refine fC h Z (λh=>?_) λh=>?_
 ·refine aU<|aA Z<|aA Z<|aC (Cr Z Z) Z<|aD Z<|aM<|aS<|bM<|aI ?_;cases h;exact lI Z
 refine aU<|cN Z<|aD Z<|aM ?_;refine fC h Z (λh=>?_) λh=>?_
 ·refine aU<|aA Z<|aA Z<|aC (wL Z Z) Z<|aD Z<|aM<|aS<|bM<|aI ?_;cases h;exact lI Z
 refine dX<|o_<|aU<|aA Z<|aA Z<|aC (Hn Z Z) Z<|aD Z<|aM<|aS ?_;cases h;exact lI Z
def oU  (a:Int):Option (Int):=
 some (a)
def oV  (a:Int):Option (Int):=
 some (a)
def xH (U:Nat) (c:Int) (b:Int) (a:Int):Option (Int):=
 if c=(30:Int)then(Option.bind (iY U (wI .i64 (b*a))) λn=>(some (n)))else(if c=(31:Int)then(Option.bind (qC U b a) λo=>(Option.bind (iY U o) λp=>(some (p))))else(if c=(32:Int)then(if a=(0:Int)then(some (0:Int))else(Option.bind (qC U b a) λd=>(Option.bind (iY U (wI .i64 (b - (wI .i64 (a*d))))) λe=>(some (e)))))else(if c=(33:Int)then(Option.bind (iY U (wI .i64 (b+a))) λf=>(some (f)))else(if c=(34:Int)then(Option.bind (iY U (wI .i64 (b - a))) λg=>(some (g)))else(if c=(41:Int)then(if b≠(0:Int)then(Option.bind (iJ U (decide (a≠(0:Int)))) λh=>(oU  (h)))else(Option.bind (iJ U false) λi=>(oU  (i))))else(if c=(42:Int)then(if b≠(0:Int)then(Option.bind (iJ U true) λj=>(oV  (j)))else(Option.bind (iJ U (decide (a≠(0:Int)))) λk=>(oV  (k))))else(Option.bind (tS U c b a) λl=>(Option.bind (iJ U l) λm=>(some (m))))))))))
theorem Zw:aT Tryz.prog 168:=Tryz.call168
theorem Kq (U:Nat) {E:Int} {F:Int} {G:Int} (r:Int) (h:xH U E F G=some r):
  aY Tryz.prog 168 #[vI (E),vI (F),vI (G)] [] (λx:Unit=>vI (r)) (λx l=>l) (λ_ l=>l):=by
 refine aY.of Tryz.func168 Z Tryz.ntmps168 Z λc=>?_;refine aU<|aD Z<|aM<|aJ<|aU<|aA Z<|aM<|aV<|aU<|cN Z<|aD Z<|aM ?_;refine fC h Z (λh=>?_) λh=>?_
 ·refine aU<|aA Z<|aA Z<|aC (AS Z Z) Z<|fN h λH K h=>aG (aL.callQ DT (lW U  H K) Z .nil) Z λY=>aD Z<|aM<|aS<|bM<|aI ?_;cases h;exact lI Z
 refine aU<|cN Z<|aD Z<|aM ?_;refine fC h Z (λh=>?_) λh=>?_
 ·refine aU<|aA Z<|aA Z<|fN h λI L h=>aG (aL.callQ RU (Cw U  I L) Z .nil) Z λx8=>fN h λJ s h=>aG (aL.callQ DT (lW U  J s) Z .nil) Z λM=>aD Z<|aM<|aS<|bM<|aI ?_;cases h;exact lI Z
 refine aU<|cN Z<|aD Z<|aM ?_;refine fC h Z (λh=>?_) λh=>?_
 ·refine aJ<|aU<|aA Z<|cN Z<|aM ?_;refine fC h Z (λh=>?_) λh=>?_
  ·refine aU<|aD Z<|aM<|aS<|aI<|bM<|aI ?_;cases h;exact lI Z
  refine cV<|aU<|aA Z<|aA Z<|aA Z<|aA Z<|fN h λk t h=>aG (aL.callQ RU (Cw U  k t) Z .nil) Z λN=>aC (AS Z Z) Z<|aC (nW Z Z) Z<|fN h λm u h=>aG (aL.callQ DT (lW U  m u) Z .nil) Z λO=>aD Z<|aM<|aS<|bM<|aI ?_;cases h;exact lI Z
 refine aU<|cN Z<|aD Z<|aM ?_;refine fC h Z (λh=>?_) λh=>?_
 ·refine aU<|aA Z<|aA Z<|cP Z<|fN h λn v h=>aG (aL.callQ DT (lW U  n v) Z .nil) Z λP=>aD Z<|aM<|aS<|bM<|aI ?_;cases h;exact lI Z
 refine aU<|cN Z<|aD Z<|aM ?_;refine fC h Z (λh=>?_) λh=>?_
 ·refine aU<|aA Z<|aA Z<|aC (nW Z Z) Z<|fN h λo w h=>aG (aL.callQ DT (lW U  o w) Z .nil) Z λQ=>aD Z<|aM<|aS<|bM<|aI ?_;cases h;exact lI Z
 refine aU<|cN Z<|aD Z<|aM ?_;refine fC h Z (λh=>?_) λh=>?_
 ·refine aJ<|fF (λa=>oU  a=some r) (λa d=>[(6,vI (a))]) (λa d=>[]) ?_ ?_
  ·refine aR<|aA Z<|pI Z<|aA Z ?_;refine EN h Z (λ_ h=>?_) λ_ h=>?_
   ·refine eX Z<|aW Z (CU Z Z) Z<|fK Z<|fN h λf y h=>aG (aL.callQ xC (kS U  f y) Z .nil) Z λR=>aD Z<|aM ?_;exact jP (f) () h SF Z
   refine aN Z<|aN Z<|iL Z<|fN h λg z h=>aG (aL.callQ xC (kS U  g z) Z .nil) Z λS=>aD Z<|aM ?_;exact jP (g) () h SF Z
  intro a d h;unfold oU at h;refine aS<|bM<|aI ?_;cases h;exact lI Z
 refine aU<|cN Z<|aD Z<|aM ?_;refine fC h Z (λh=>?_) λh=>?_
 ·refine aJ<|fF (λb=>oV  b=some r) (λb e=>[(6,vI (b))]) (λb e=>[]) ?_ ?_
  ·refine aR<|aA Z<|pI Z<|aA Z ?_;refine EN h Z (λ_ h=>?_) λ_ h=>?_
   ·refine aN Z<|aN Z<|fK Z<|fN h λi A h=>aG (aL.callQ xC (kS U  i A) Z .nil) Z λT=>aD Z<|aM ?_;exact jP (i) () h SF Z
   refine eX Z<|aW Z (CU Z Z) Z<|iL Z<|fN h λj B h=>aG (aL.callQ xC (kS U  j B) Z .nil) Z λV=>aD Z<|aM ?_;exact jP (j) () h SF Z
  intro b e h;unfold oV at h;refine aS<|bM<|aI ?_;cases h;exact lI Z
 refine dX<|o_<|aU<|aA Z<|aA Z<|aA Z<|fN h λp C h=>aG (aL.callQ ZA (HR U  p C) Z .nil) Z λW=>fN h λq D h=>aG (aL.callQ xC (kS U  q D) Z .nil) Z λX=>aD Z<|aM<|aS ?_;cases h;exact lI Z
def xD  (a:Int):Option (Int):=
 some (a)
def sY (c:fH) (b:i_->Option (Int)) (a:Int):Option (Int):=
 b (a,(wI .i64 (c.2+(1:Int))))
def qI (c:aP) (a:fH) (b:i_->Option (Int)):Option (Int):=
 if a.2<(List.length c:Int)then(ck (0<=a.2∧a.2<(List.length c:Int)) (if(at' c a.2)≠(0:Int)then(sY a b (wI .i64 (a.1+(1:Int))))else(sY a b (a.1))))else(xD  (a.1))
def pT (U:Nat) (a:aP):Option (Int):=
 bK (qI a) U ((0:Int),(0:Int))
theorem L_:aT Tryz.prog 195:=Tryz.call195
theorem Cm (U:Nat) {d:aP} (i:Value) (r:Int) (h:pT U d=some r):
  aY Tryz.prog 195 #[i] [Sl bP i d] (λx:Unit=>vI (r)) (λx l=>l) (λ_ l=>l):=by
 refine aY.of Tryz.func195 Z Tryz.ntmps195 Z λc=>?_;unfold pT at h;refine aU<|aD Z<|aM<|aU<|aD Z<|aM<|aJ<|fF (λe=>xD  e=some r) (λe j=>[(3,vI (e))]) (λe j=>[]) ?_ ?_
 ·refine aU<|aA Z<|kP (aE.fact 0 Z) Z<|aA Z<|aM<|aV<|e_ (qI d) (λb k=>[(3,vI (b.1)),(6,i),(7,vI (List.length d:Int)),(8,vI (b.2))]) (λb k=>[]) ((0:Int),(0:Int)) () h SF (aZ.refl _) ?_;intro m b k h;refine aU<|cX Z<|aM<|aJ ?_;refine fC h Z (λh=>?_) λh=>?_
  ·refine cV<|aJ<|fF (λa=>sY b (bK (qI d) m) a=some r) (λa f=>[(3,vI (a)),(6,i),(7,vI (List.length d:Int)),(8,vI (b.2))]) (λa f=>[]) ?_ ?_
   ·refine aV<|aU<|dH h λg h=>aC (bB Z Z (aE.fact 0 Z) Z Z g) Z<|aC (bY Z (aE.fact 0 Z) Z Z Z dJ g) Z<|aD Z<|aM<|aU<|aA Z<|pI Z<|aM ?_;refine fC h Z (λh=>?_) λh=>?_
    ·refine aR<|aA Z<|cP Z<|aD Z<|eR<|o_ ?_;exact jP (wI .i64 (b.1+(1:Int))) () h SF Z
    refine dX<|o_ ?_;exact jP (b.1) () h SF Z
   intro a f h;unfold sY at h;refine aR<|cP Z<|aA Z<|aM ?_;exact AT (a,(wI .i64 (b.2+(1:Int)))) () h SF Z
  refine gK ?_;exact jP (b.1) () h SF Z
 intro e j h;unfold xD at h;refine aU<|aA Z<|aD Z<|aM<|aS ?_;cases h;exact lI Z
def oI  (a:Unit):Option (Int):=
 some (-1:Int)
def fL (c:aP) (e:Int->Option Bool) (a:Int) (b:(Int)->Option (Int)):Option (Int):=
 if a<(List.length c:Int)then(ck (0<=a∧a<(List.length c:Int)) (Option.bind (e (at' c a)) λd=>(if d=true then(some (a))else(b (wI .i64 (a+(1:Int)))))))else(oI  (()))
def mL (U:Nat) (b:aP) (a:Int->Option Bool):Option (Int):=
 bK (fL b a) U (0:Int)
theorem ZB:aT Tryz.prog 196:=Tryz.call196
theorem EZ (U:Nat) {b:aP} {o:Int->Option Bool} (k:FuncId) (a:fM) (j:List aX) (e:aT Tryz.prog k) (f:∀(t:Int) (r:Bool),o t=some r->aY Tryz.prog k ([vI (t)]++a).toArray j (λ_:Unit=>vB (r)) (λ_ l=>l) (λ_ l=>l)) (i:Value) (r:Int) (h:mL U b o=some r):
  aY Tryz.prog 196 #[i,Value.func (.func k) #[] (a).toArray] ([Sl bP i b]++j) (λx:Unit=>vI (r)) (λx l=>l) (λ_ l=>l):=by
 refine aY.of Tryz.func196 Z Tryz.ntmps196 Z λc=>?_;unfold mL at h;refine aU<|aD Z<|aM<|aJ<|By (B:=Unit) (λg=>oI  g=some r) (λg m=>[]) (λg m=>[]) (λg m=>([Sl bP i b]++j)) ?_ ?_
 ·refine aU<|aA Z<|kP (aE.fact 0 Z) Z<|aA Z<|aM<|aV<|Fg (B:=Unit) (fL b o) (λd n=>[(0,i),(1,Value.func (.func k) #[] (a).toArray),(7,vI (List.length b:Int)),(8,vI (d))]) (λd n=>[]) (λd n=>([Sl bP i b]++j)) (0:Int) () h SF (aZ.refl _) (aF.refl _ _) ?_;intro v d n h;refine aU<|cX Z<|aM<|aJ ?_;refine fC h Z (λh=>?_) λh=>?_
  ·refine cV<|aJ<|aV<|aU<|aA Z<|aD Z<|aM<|aU<|aA Z<|aA Z<|aA Z<|dH h λs h=>aC (bB Z Z (aE.fact 0 Z) Z Z s) Z<|aC (bY Z (aE.fact 0 Z) Z Z Z dJ s) Z<|fN h λp q h=>aG (uN (vs:=[vI (at' b d)]) (cs:=a) e Z (f (at' b d) p q) Z (aF.tail _) (λ_ _=>rfl)) Z λu=>aM ?_;refine Bm h Z (λ_ h=>?_) λ_ h=>?_
   ·refine aU<|aA Z<|aD Z<|aM<|aS<|bM<|aI<|aI<|bM<|aI ?_;cases h;exact lI Z
   refine dX<|o_<|aR<|cP Z<|aA Z<|aM ?_;exact AT (wI .i64 (d+(1:Int))) () h SF Z
  refine gK ?_;exact jP () (()) h SF Z
 intro g m h;unfold oI at h;refine aU<|aD Z<|aM<|aS ?_;cases h;exact lI Z
def nX (U:Nat) (a:Int):Option (Bool):=
 some (decide (a≠(0:Int)))
theorem ZC:aT Tryz.prog 197:=Tryz.call197
theorem Kr (U:Nat) {a:Int} (r:Bool) (h:nX U a=some r):
  aY Tryz.prog 197 #[vI (a)] [] (λx:Unit=>vB (r)) (λx l=>l) (λ_ l=>l):=by
 refine aY.of Tryz.func197 Z Tryz.ntmps197 Z λc=>?_;unfold nX at h;refine aU<|aD Z<|aM<|aU<|aA Z<|pI Z<|aD Z<|aM<|aS ?_;cases h;exact lI Z
def sM  (a:fH):Option i_:=
 some (a.1,a.2)
def oE (c:Int×Int×Int) (b:(Int×Int×Int)->Option i_) (a:fH):Option i_:=
 b (a.1,a.2,(wI .i64 (c.2.2+(1:Int))))
def sN (c:aP) (a:Int×Int×Int) (b:(Int×Int×Int)->Option i_):Option i_:=
 if a.2.2<(List.length c:Int)then(ck (0<=a.2.2∧a.2.2<(List.length c:Int)) (if a.1<(at' c a.2.2)then(oE a b ((at' c a.2.2),a.1))else(oE a b (a.1,(max a.2.1 (at' c a.2.2))))))else(sM  (a.1,a.2.1))
def pU (U:Nat) (a:aP):Option i_:=
 bK (sN a) U ((-1073741824:Int),(-1073741824:Int),(0:Int))
theorem RX:aT Tryz.prog 198:=Tryz.call198
theorem Ao (U:Nat) {d:aP} (j:Value) (r:fH) (h:pU U d=some r):
  aY Tryz.prog 198 #[j] [Sl bP j d] (λx:Unit=>Value.tuple #[vI (r.1),vI (r.2)]) (λx l=>l) (λ_ l=>l):=by
 refine aY.of Tryz.func198 Z Tryz.ntmps198 Z λc=>?_;unfold pU at h;refine aU<|aD Z<|aD Z<|aM<|aU<|aD Z<|aD Z<|aM<|aJ<|fF (λe=>sM  e=some r) (λe m=>[(2,vI (e.1)),(3,vI (e.2))]) (λe m=>[]) ?_ ?_
 ·refine aU<|aA Z<|kP (aE.fact 0 Z) Z<|aA Z<|aM<|aV<|e_ (sN d) (λb f=>[(2,vI (b.1)),(3,vI (b.2.1)),(6,j),(7,vI (List.length d:Int)),(8,vI (b.2.2))]) (λb f=>[]) ((-1073741824:Int),(-1073741824:Int),(0:Int)) () h SF (aZ.refl _) ?_;intro k b f h;refine aU<|cX Z<|aM<|aJ ?_;refine fC h Z (λh=>?_) λh=>?_
  ·refine cV<|aJ<|fF (λa=>oE b (bK (sN d) k) a=some r) (λa g=>[(2,vI (a.1)),(3,vI (a.2)),(6,j),(7,vI (List.length d:Int)),(8,vI (b.2.2))]) (λa g=>[]) ?_ ?_
   ·refine aV<|aU<|dH h λi h=>aC (bB Z Z (aE.fact 0 Z) Z Z i) Z<|aC (bY Z (aE.fact 0 Z) Z Z Z dJ i) Z<|aD Z<|aM<|aU<|aA Z<|aA Z<|aC (wL Z Z) Z<|aM ?_;refine fC h Z (λh=>?_) λh=>?_
    ·refine aR<|aA Z<|aA Z<|aD Z<|aD Z<|eR<|o_ ?_;exact jP ((at' d b.2.2),b.1) () h SF Z
    refine aR<|aA Z<|aA Z<|aC (NL Z Z) Z<|aD Z<|eR<|o_ ?_;exact jP (b.1,(max b.2.1 (at' d b.2.2))) () h SF Z
   intro a g h;unfold oE at h;refine aR<|cP Z<|aA Z<|aM ?_;exact AT (a.1,a.2,(wI .i64 (b.2.2+(1:Int)))) () h SF Z
  refine gK ?_;exact jP (b.1,b.2.1) () h SF Z
 intro e m h;unfold sM at h;refine aU<|aA Z<|aA Z<|aD Z<|aD Z<|aM<|aS ?_;cases h;exact mS () Z Z (RV.tmp Z) (RV.tmp Z) (aZ.refl _) aF.nil
def tX  (a:Unit):Option (Int):=
 some (-1:Int)
def jU (c:aP) (d:Int) (a:Int) (b:(Int)->Option (Int)):Option (Int):=
 if a<(List.length c:Int)then(ck (0<=a∧a<(List.length c:Int)) (if d=(at' c a)then(some (a))else(b (wI .i64 (a+(1:Int))))))else(tX  (()))
def pA (U:Nat) (a:aP) (b:Int):Option (Int):=
 bK (jU a b) U (0:Int)
theorem ZF:aT Tryz.prog 207:=Tryz.call207
theorem JX (U:Nat) {d:aP} {e:Int} (f:Value) (r:Int) (h:pA U d e=some r):
  aY Tryz.prog 207 #[f,vI (e)] [Sl bP f d] (λx:Unit=>vI (r)) (λx l=>l) (λ_ l=>l):=by
 refine aY.of Tryz.func207 Z Tryz.ntmps207 Z λc=>?_;unfold pA at h;refine aU<|aD Z<|aM<|aJ<|fF (λa=>tX  a=some r) (λa g=>[]) (λa g=>[]) ?_ ?_
 ·refine aU<|aA Z<|kP (aE.fact 0 Z) Z<|aA Z<|aM<|aV<|e_ (jU d e) (λb i=>[(0,f),(1,vI (e)),(7,vI (List.length d:Int)),(8,vI (b))]) (λb i=>[]) (0:Int) () h SF (aZ.refl _) ?_;intro k b i h;refine aU<|cX Z<|aM<|aJ ?_;refine fC h Z (λh=>?_) λh=>?_
  ·refine cV<|aJ<|aV<|aU<|aA Z<|aD Z<|aM<|aU<|aA Z<|aA Z<|aA Z<|dH h λj h=>aC (bB Z Z (aE.fact 0 Z) Z Z j) Z<|aC (bY Z (aE.fact 0 Z) Z Z Z dJ j) Z<|cN Z<|aM ?_;refine fC h Z (λh=>?_) λh=>?_
   ·refine aU<|aA Z<|aD Z<|aM<|aS<|bM<|aI<|aI<|bM<|aI ?_;cases h;exact lI Z
   refine dX<|o_<|aR<|cP Z<|aA Z<|aM ?_;exact AT (wI .i64 (b+(1:Int))) () h SF Z
  refine gK ?_;exact jP () (()) h SF Z
 intro a g h;unfold tX at h;refine aU<|aD Z<|aM<|aS ?_;cases h;exact lI Z
def qO (U:Nat) (a:aP) (b:Int):Option (Bool):=
 Option.bind (pA U a b) λc=>(some (decide ((0:Int)<=c)))
theorem ZE:aT Tryz.prog 203:=Tryz.call203
theorem Gj (U:Nat) {b:aP} {d:Int} (a:Value) (r:Bool) (h:qO U b d=some r):
  aY Tryz.prog 203 #[a,vI (d)] [Sl bP a b] (λx:Unit=>vB (r)) (λx l=>l) (λ_ l=>l):=by
 refine aY.of Tryz.func203 Z Tryz.ntmps203 Z λc=>?_;refine aU<|aD Z<|aM<|aU<|aA Z<|aA Z<|fN h λe f h=>aG (aL.callQ ZF (JX U a e f) Z (qB [0] Z)) Z λg=>aC (Hn Z Z) Z<|aD Z<|aM<|aS ?_;cases h;exact lI Z
def AD  (a:Int):Option (Int):=
 some (a)
def xV (U:Nat) (c:aP) (a:Int) (b:(Int)->Option (Int)):Option (Int):=
 Option.bind (qO U c a) λd=>(if d=true then(b (wI .i64 (a+(1:Int))))else(AD  (a)))
def zV (U:Nat) (a:aP):Option (Int):=
 bK (xV U a) U (0:Int)
theorem ZD:aT Tryz.prog 199:=Tryz.call199
theorem Rk (U:Nat) {e:aP} (d:Value) (r:Int) (h:zV U e=some r):
  aY Tryz.prog 199 #[d] [Sl bP d e] (λx:Unit=>vI (r)) (λx l=>l) (λ_ l=>l):=by
 refine aY.of Tryz.func199 Z Tryz.ntmps199 Z λc=>?_;unfold zV at h;refine aU<|aD Z<|aM<|aU<|aD Z<|aM<|aJ<|fF (λa=>AD  a=some r) (λa g=>[(3,vI (a))]) (λa g=>[]) ?_ ?_
 ·refine aV<|e_ (xV U e) (λb i=>[(0,d),(3,vI (b))]) (λb i=>[]) (0:Int) () h SF (aZ.refl _) ?_;intro m b i h;refine aJ<|aU<|aA Z<|aA Z<|fN h λj f h=>aG (aL.callQ ZE (Gj U d j f) Z (qB [0] Z)) Z λk=>aM ?_;refine Bm h Z (λ_ h=>?_) λ_ h=>?_
  ·refine cV<|aV<|aR<|aA Z<|cP Z<|aD Z<|eR<|o_ ?_;exact AT (wI .i64 (b+(1:Int))) () h SF Z
  refine gK ?_;exact jP (b) () h SF Z
 intro a g h;unfold AD at h;refine aU<|aA Z<|aD Z<|aM<|aS ?_;cases h;exact lI Z
def zC  (a:Int):Option (Int):=
 some (a)
def rU (c:aP) (a:fH) (b:i_->Option (Int)):Option (Int):=
 if a.2<(List.length c:Int)then(ck (0<=a.2∧a.2<(List.length c:Int)) (b ((min a.1 (at' c a.2)),(wI .i64 (a.2+(1:Int))))))else(zC  (a.1))
def BP (U:Nat) (a:Int):Option (Int):=
 Option.bind (iY U a) λb=>(some (b))
def rV (U:Nat) (c:aP) (a:fH) (b:i_->Option (Int)):Option (Int):=
 if a.2<(List.length c:Int)then(ck (0<=a.2∧a.2<(List.length c:Int)) (b ((wI .i64 (a.1+(at' c a.2))),(wI .i64 (a.2+(1:Int))))))else(BP U (a.1))
def AJ (U:Nat) (b:Int) (a:aP):Option (Int):=
 if b=(20:Int)then(Option.bind (pT U a) λi=>(Option.bind (iJ U (decide (i=(List.length a:Int)))) λj=>(some (j))))else(if b=(21:Int)then(Option.bind (pT U a) λk=>(Option.bind (iJ U (decide ((0:Int)<k))) λc=>(some (c))))else(if b=(22:Int)then(Option.bind (pT U a) λd=>(some (d)))else(if b=(23:Int)then(Option.bind (mL U a (λl=>nX U l)) λe=>(some (e)))else(if b=(24:Int)then(bK (rU a) U ((1073741824:Int),(0:Int)))else(if b=(25:Int)then(Option.bind (pU U a) λf=>(some (f.1)))else(if b=(26:Int)then(bK (rV U a) U ((0:Int),(0:Int)))else(if b=(27:Int)then(Option.bind (zV U a) λg=>(some (g)))else(if b=(28:Int)then(Option.bind (pU U a) λh=>(some (h.2)))else(if(List.length a:Int)=(0:Int)then(some (0:Int))else(ck (0<=(0:Int)∧(0:Int)<(List.length a:Int)) (some (at' a (0:Int)))))))))))))
theorem Zz:aT Tryz.prog 186:=Tryz.call186
theorem Pe (U:Nat) {H:Int} {g:aP} (f:Value) (r:Int) (h:AJ U H g=some r):
  aY Tryz.prog 186 #[vI (H),f] [Sl bP f g] (λx:Unit=>vI (r)) (λx l=>l) (λ_ l=>l):=by
 refine aY.of Tryz.func186 Z Tryz.ntmps186 Z λc=>?_;refine aU<|aD Z<|aM<|aJ<|aU<|aA Z<|aM<|aV<|aU<|cN Z<|aD Z<|aM ?_;refine fC h Z (λh=>?_) λh=>?_
 ·refine aU<|aA Z<|fN h λK N h=>aG (aL.callQ L_ (Cm U f K N) Z (qB [0] Z)) Z λY=>aA Z<|kP (aE.fact 0 Z) Z<|cN Z<|fN h λL O h=>aG (aL.callQ xC (kS U  L O) Z .nil) Z λx7=>aD Z<|aM<|aS<|bM<|aI ?_;cases h;exact lI Z
 refine aU<|cN Z<|aD Z<|aM ?_;refine fC h Z (λh=>?_) λh=>?_
 ·refine aU<|aA Z<|fN h λM z h=>aG (aL.callQ L_ (Cm U f M z) Z (qB [0] Z)) Z λP=>aC (wL Z Z) Z<|fN h λq A h=>aG (aL.callQ xC (kS U  q A) Z .nil) Z λQ=>aD Z<|aM<|aS<|bM<|aI ?_;cases h;exact lI Z
 refine aU<|cN Z<|aD Z<|aM ?_;refine fC h Z (λh=>?_) λh=>?_
 ·refine aU<|aA Z<|fN h λs B h=>aG (aL.callQ L_ (Cm U f s B) Z (qB [0] Z)) Z λR=>aD Z<|aM<|aS<|bM<|aI ?_;cases h;exact lI Z
 refine aU<|cN Z<|aD Z<|aM ?_;refine fC h Z (λh=>?_) λh=>?_
 ·refine aU<|aA Z<|fN h λt C h=>aG (aL.callQ ZB (EZ U 197 [] [] ZC (λy0 r h=>Kr U  r h) f t C) Z (qB [0] Z)) Z λS=>aD Z<|aM<|aS<|bM<|aI ?_;cases h;exact lI Z
 refine aU<|cN Z<|aD Z<|aM ?_;refine fC h Z (λh=>?_) λh=>?_
 ·refine aU<|aD Z<|aM<|aJ<|fF (λd=>zC  d=some r) (λd i=>[(5,vI (d))]) (λd i=>[]) ?_ ?_
  ·refine aU<|aA Z<|kP (aE.fact 0 Z) Z<|aA Z<|aM<|aV<|e_ (rU g) (λa j=>[(5,vI (a.1)),(40,f),(41,vI (List.length g:Int)),(42,vI (a.2))]) (λa j=>[]) ((1073741824:Int),(0:Int)) () h SF (aZ.refl _) ?_;intro I a j h;refine aU<|cX Z<|aM<|aJ ?_;refine fC h Z (λh=>?_) λh=>?_
   ·refine cV<|aJ<|aV<|aU<|dH h λn h=>aC (bB Z Z (aE.fact 0 Z) Z Z n) Z<|aC (bY Z (aE.fact 0 Z) Z Z Z dJ n) Z<|aD Z<|aM<|aR<|aA Z<|aA Z<|aC (aba Z Z) Z<|aD Z<|eR<|o_<|aR<|cP Z<|aA Z<|aM ?_;exact AT ((min a.1 (at' g a.2)),(wI .i64 (a.2+(1:Int)))) () h SF Z
   refine gK ?_;exact jP (a.1) () h SF Z
  intro d i h;unfold zC at h;refine aU<|aA Z<|aD Z<|aM<|aS<|bM<|aI ?_;cases h;exact lI Z
 refine aU<|cN Z<|aD Z<|aM ?_;refine fC h Z (λh=>?_) λh=>?_
 ·refine aU<|aA Z<|fN h λu D h=>aG (aL.callQ RX (Ao U f u D) Z (qB [0] Z)) Z λT=>aA Z<|iK Z<|iK Z<|aD Z<|aD Z<|aM<|aU<|aA Z<|aD Z<|aM<|aS<|bM<|aI ?_;cases h;exact lI Z
 refine aU<|cN Z<|aD Z<|aM ?_;refine fC h Z (λh=>?_) λh=>?_
 ·refine aU<|aD Z<|aM<|aJ<|fF (λe=>BP U e=some r) (λe k=>[(10,vI (e))]) (λe k=>[]) ?_ ?_
  ·refine aU<|aA Z<|kP (aE.fact 0 Z) Z<|aA Z<|aM<|aV<|e_ (rV U g) (λb m=>[(10,vI (b.1)),(61,f),(62,vI (List.length g:Int)),(63,vI (b.2))]) (λb m=>[]) ((0:Int),(0:Int)) () h SF (aZ.refl _) ?_;intro J b m h;refine aU<|cX Z<|aM<|aJ ?_;refine fC h Z (λh=>?_) λh=>?_
   ·refine cV<|aJ<|aV<|aU<|dH h λo h=>aC (bB Z Z (aE.fact 0 Z) Z Z o) Z<|aC (bY Z (aE.fact 0 Z) Z Z Z dJ o) Z<|aD Z<|aM<|aR<|aA Z<|aA Z<|cP Z<|aD Z<|eR<|o_<|aR<|cP Z<|aA Z<|aM ?_;exact AT ((wI .i64 (b.1+(at' g b.2))),(wI .i64 (b.2+(1:Int)))) () h SF Z
   refine gK ?_;exact jP (b.1) () h SF Z
  intro e k h;refine aU<|aA Z<|fN h λv E h=>aG (aL.callQ DT (lW U  v E) Z .nil) Z λV=>aD Z<|aM<|aS<|bM<|aI ?_;cases h;exact lI Z
 refine aU<|cN Z<|aD Z<|aM ?_;refine fC h Z (λh=>?_) λh=>?_
 ·refine aU<|aA Z<|fN h λw F h=>aG (aL.callQ ZD (Rk U f w F) Z (qB [0] Z)) Z λW=>aD Z<|aM<|aS<|bM<|aI ?_;cases h;exact lI Z
 refine aU<|cN Z<|aD Z<|aM ?_;refine fC h Z (λh=>?_) λh=>?_
 ·refine aU<|aA Z<|fN h λy G h=>aG (aL.callQ RX (Ao U f y G) Z (qB [0] Z)) Z λX=>aA Z<|iK Z<|iK Z<|aD Z<|aD Z<|aM<|aU<|aA Z<|aD Z<|aM<|aS<|bM<|aI ?_;cases h;exact lI Z
 refine dX<|o_<|aJ<|aU<|aA Z<|kP (aE.fact 0 Z) Z<|cN Z<|aM ?_;refine fC h Z (λh=>?_) λh=>?_
 ·refine aU<|aD Z<|aM<|aS<|aI ?_;cases h;exact lI Z
 refine cV<|aU<|aA Z<|dH h λp h=>aC (bB Z Z (aE.fact 0 Z) Z Z p) Z<|aC (bY Z (aE.fact 0 Z) Z Z Z dJ p) Z<|aD Z<|aM<|aS ?_;cases h;exact lI Z
def mT  (a:fH):Option i_:=
 some (a.1,a.2)
def j_ (U:Nat) (a:MX) (e:Int) (b:kG) (c:Int):Option i_:=
 ck (0<=(List.length (at' a.1.2.1.2 a.2.2.1):Int)∧(List.length (at' a.1.2.1.2 a.2.2.1):Int)<=((24:Nat):Int)∧(List.length (at' a.1.2.1.2 a.2.2.1):Int)<=(List.length b.2:Int)) (Option.bind (AJ U ((at' a.2.2.2 e).1) (List.take (Int.toNat (List.length (at' a.1.2.1.2 a.2.2.1):Int)) b.2)) λd=>(mT  (d,c)))
def qL (U:Nat) (b:MX) (c:Int) (a:kG):Option i_:=
 if(List.length (at' b.1.2.1.2 b.2.2.1):Int)=(0:Int)then(Option.bind (BY U b.2.2.2 c) λd=>(j_ U b c a (d)))else(j_ U b c a (a.1))
def kA (U:Nat) (b:MX) (e:Int) (f:aaM->Int->Int->Option i_) (a:Int×Int×aP) (c:(Int×Int×aP)->Option i_):Option i_:=
 if a.2.1<(List.length (at' b.1.2.1.2 b.2.2.1):Int)then(Option.bind (f ((((((b.1.1.1,b.1.1.2.1,b.1.1.2.2)),((b.1.2.1.1,b.1.2.1.2)),b.1.2.2.1,b.1.2.2.2)),b.2.1,b.2.2.1,b.2.2.2)) (wI .i64 (e+(1:Int))) a.2.1) λd=>(ck ((0<=a.2.1∧a.2.1<((24:Nat):Int))∧List.length a.2.2=24) (c (d.2,(wI .i64 (a.2.1+(1:Int))),(List.set a.2.2 (Int.toNat a.2.1) d.1)))))else(qL U b e (a.1,a.2.2))
def cR (e:aaM->Int->Int->Option i_) (U:Nat) (a:MX) (b:Int) (c:Int):Option i_:=
 ck (0<=b∧b<(List.length a.2.2.2:Int)) (if((at' a.2.2.2 b).1)<=(17:Int)then(Option.bind (lM U ((((((a.1.1.1,a.1.1.2.1,a.1.1.2.2)),((a.1.2.1.1,a.1.2.1.2)),a.1.2.2.1,a.1.2.2.2)),a.2.1,a.2.2.1,a.2.2.2)) ((((at' a.2.2.2 b).1),((at' a.2.2.2 b).2))) c) λm=>(some (m,(wI .i64 (b+(1:Int))))))else(if((at' a.2.2.2 b).1)<=(19:Int)then(Option.bind (e ((((((a.1.1.1,a.1.1.2.1,a.1.1.2.2)),((a.1.2.1.1,a.1.2.1.2)),a.1.2.2.1,a.1.2.2.2)),a.2.1,a.2.2.1,a.2.2.2)) (wI .i64 (b+(1:Int))) c) λl=>(Option.bind (zE U ((at' a.2.2.2 b).1) l.1) λj=>(some (j,l.2))))else(if((at' a.2.2.2 b).1)<=(29:Int)then(ck (0<=a.2.2.1∧a.2.2.1<(List.length a.1.2.1.2:Int)) (bK (kA U a b e) U ((0:Int),(0:Int),(List.replicate 24 (0:Int)))))else(if((at' a.2.2.2 b).1)<=(42:Int)then(Option.bind (e ((((((a.1.1.1,a.1.1.2.1,a.1.1.2.2)),((a.1.2.1.1,a.1.2.1.2)),a.1.2.2.1,a.1.2.2.2)),a.2.1,a.2.2.1,a.2.2.2)) (wI .i64 (b+(1:Int))) c) λf=>(Option.bind (e ((((((a.1.1.1,a.1.1.2.1,a.1.1.2.2)),((a.1.2.1.1,a.1.2.1.2)),a.1.2.2.1,a.1.2.2.2)),a.2.1,a.2.2.1,a.2.2.2)) f.2 c) λg=>(Option.bind (xH U ((at' a.2.2.2 b).1) f.1 g.1) λk=>(some (k,g.2)))))else(Option.bind (e ((((((a.1.1.1,a.1.1.2.1,a.1.1.2.2)),((a.1.2.1.1,a.1.2.1.2)),a.1.2.2.1,a.1.2.2.2)),a.2.1,a.2.2.1,a.2.2.2)) (wI .i64 (b+(1:Int))) c) λh=>(Option.bind (e ((((((a.1.1.1,a.1.1.2.1,a.1.1.2.2)),((a.1.2.1.1,a.1.2.1.2)),a.1.2.2.1,a.1.2.2.2)),a.2.1,a.2.2.1,a.2.2.2)) h.2 c) λi=>(Option.bind (e ((((((a.1.1.1,a.1.1.2.1,a.1.1.2.2)),((a.1.2.1.1,a.1.2.1.2)),a.1.2.2.1,a.1.2.2.2)),a.2.1,a.2.2.1,a.2.2.2)) i.2 c) λd=>(if h.1≠(0:Int)then(some (i.1,d.2))else(some (d.1,d.2))))))))))
def bO:Nat->aaM->Int->Int->Option i_
 |0,_,_,_=>none
 |U+1,p0,p1,p2=>cR (bO U) U p0 p1 p2
theorem AC:aT Tryz.prog 151:=Tryz.call151
theorem Ck (X:aaM->Int->Int->Option i_) (U:Nat) (p:∀{a:MX} {m:Int} {M:Int} (b:Nat)  (f:Nat)  (q:Value)  (s:Value)  (t:Value)  (u:Value)  (C:mZ)  (v:Value)  (D:sD)  (w:Value)  (g:sD)  (d:Value) (r:fH),X a m M=some r->aY Tryz.prog 151 #[vP b,vI (m),vI (M)] [bV b [vP f,w,vI (a.2.2.1),d] 207,bV f [vS (a.1.1.1),q,s,t,u,vI (a.1.2.2.1),v] 137,Sl aQ q a.1.1.2.1,Sl aH s a.1.1.2.2,Sl bP t a.1.2.1.1,S2 bA u C a.1.2.1.2,S2 bP v D a.1.2.2.2,S2 bP w g a.2.1,Sl bA d a.2.2.2] (λx:Unit=>Value.tuple #[vI (r.1),vI (r.2)]) (λx l=>l) (λ_ l=>l)) {a:MX} {m:Int} {M:Int} (b:Nat)  (f:Nat)  (q:Value)  (s:Value)  (t:Value)  (u:Value)  (C:mZ)  (v:Value)  (D:sD)  (w:Value)  (g:sD)  (d:Value) (r:fH) (h:cR X U a m M=some r):
  aY Tryz.prog 151 #[vP b,vI (m),vI (M)] [bV b [vP f,w,vI (a.2.2.1),d] 207,bV f [vS (a.1.1.1),q,s,t,u,vI (a.1.2.2.1),v] 137,Sl aQ q a.1.1.2.1,Sl aH s a.1.1.2.2,Sl bP t a.1.2.1.1,S2 bA u C a.1.2.1.2,S2 bP v D a.1.2.2.2,S2 bP w g a.2.1,Sl bA d a.2.2.2] (λx:Unit=>Value.tuple #[vI (r.1),vI (r.2)]) (λx l=>l) (λ_ l=>l):=by
 refine aY.of Tryz.func151 Z Tryz.ntmps151 Z λc=>?_;refine aU<|aD Z<|aD Z<|aM<|aU<|aA Z<|aC (bW Z) Z<|bU Z<|aC (dB Z (aE.fact 0 Z) Z Z Z) Z<|aA Z<|dH h λj1 h=>aC (bB Z Z (aE.fact 8 Z) Z Z j1) Z<|aC (jG (cs:=[vI ((at' a.2.2.2 m).1),vI ((at' a.2.2.2 m).2)]) Z (aE.fact 8 Z) bR Z Z Z Z j1) Z<|aG (aL.alloc (cs:=UG) Z Z) Z λb2=>bQ 0 (vs:=[vI ((at' a.2.2.2 m).1),vI ((at' a.2.2.2 m).2)]) Z Z Z Z Z Z<|aM<|aJ<|aV<|aU<|bU Z<|dL 0 Z<|aC (Cr Z Z) Z<|aD Z<|aM ?_;refine fC h Z (λh=>?_) λh=>?_
 ·refine aU<|aA Z<|fG 0 Z<|aA Z<|fN h λr4 w5 h=>aG (aL.callQ Zu (Ek U b f q s t u C v D w g d r4 w5) Z (qB [0,1,2,3,4,5,6,7,8] Z)) Z λx6=>aA Z<|cP Z<|aD Z<|aD Z<|aM<|aS<|bM<|aI ?_;cases h;exact mS () Z Z (RV.tmp Z) (RV.tmp Z) .nil aF.nil
 refine aU<|bU Z<|dL 0 Z<|aC (Cr Z Z) Z<|aD Z<|aM ?_;refine fC h Z (λh=>?_) λh=>?_
 ·refine aU<|aA Z<|aA Z<|cP Z<|aA Z<|fN h λr8 w9 h=>aG (aL.callQ AC (p b f q s t u C v D w g d r8 w9) Z (qB [0,1,2,3,4,5,6,7,8] Z)) Z λak=>aA Z<|iK Z<|iK Z<|aD Z<|aD Z<|aM<|aU<|bU Z<|dL 0 Z<|aA Z<|fN h λP Y h=>aG (aL.callQ Zv (MN U  P Y) Z .nil) Z λal=>aA Z<|aD Z<|aD Z<|aM<|aS<|bM<|aI ?_;cases h;exact mS () Z Z (RV.tmp Z) (RV.tmp Z) .nil aF.nil
 refine aU<|bU Z<|dL 0 Z<|aC (Cr Z Z) Z<|aD Z<|aM ?_;refine fC h Z (λh=>?_) λh=>?_
 ·refine aU<|aA Z<|bU Z<|dL 0 Z<|aA Z<|AQ (A:=fH) (B:=Unit) (vs:=[vP b,vI ((at' a.2.2.2 m).1),vI (m)]) (λn=>mT  n=some r) (λn G=>Value.tuple #[vI (n.1),vI (n.2)]) (λn G=>[]) (λn G=>[bV b [vP f,w,vI (a.2.2.1),d] 207,bV f [vS (a.1.1.1),q,s,t,u,vI (a.1.2.2.1),v] 137,Sl aQ q a.1.1.2.1,Sl aH s a.1.1.2.2,Sl bP t a.1.2.1.1,S2 bA u C a.1.2.1.2,S2 bP v D a.1.2.2.2,S2 bP w g a.2.1,Sl bA d a.2.2.2]) (sS.fn (show aT Tryz.prog 167 from Tryz.call167) Z) Tryz.func167 Z Tryz.ntmps167 Z Z ?_ ?_
  ·refine aU<|aD Z<|aD Z<|aM<|aU ?_;refine aG (aL.alloc (cs:=cellsOf b_ (List.replicate 24 (0:Int))) Z (by kernel_rfl)) Z λo=>?_;refine aM<|aJ ?_;refine JR.start [0,1,3,7,15,31,63,127,0,256,768,1792,4095,8191,16383,32767] 12 mixedOrders (by decide +kernel) ?_;refine JR.open (by exact rfl) ?_;refine bG Z<|iH Z (bW Z)<|cY Z<|bJ Z .nil (nA 0 Z) (dB Z (aE.fact 0 Z) Z Z Z) aK.z<|iH Z (bW Z)<|cY Z<|cY Z<|bJ Z .nil (nA 1 Z) (dB Z (aE.fact 0 Z) Z Z Z) aK.z<|bG Z<|iH Z (bW Z)<|cY Z<|bJ Z .nil (nA 0 Z) (dB Z (aE.fact 0 Z) Z Z Z) aK.z<|bN 12 Z Z<|dH h λE h=>aC (cL Z Z (aE.fact 5 Z) Z Z E) Z<|aC (cT Z (aE.fact 5 Z) Z Z E) Z<|aC (jC Z (aE.el (aE.fact 5 Z) E.1 E.2) Z) Z<|aD Z<|aM<|aJ<|fF (λk=>qL U a m k=some r) (λk H=>[(0,vP b),(1,vI ((at' a.2.2.2 m).1)),(2,vI (m)),(7,vI (k.1)),(8,vP o),(9,vI (List.length (at' a.1.2.1.2 a.2.2.1):Int))]) (λk H=>[bV o (cellsOf b_ k.2) 235]) ?_ ?_
   ·refine aU<|aA Z<|aA Z<|aM<|aV<|e_ (kA U a m X) (λj J=>[(0,vP b),(1,vI ((at' a.2.2.2 m).1)),(2,vI (m)),(7,vI (j.1)),(8,vP o),(9,vI (List.length (at' a.1.2.1.2 a.2.2.1):Int)),(26,vI (List.length (at' a.1.2.1.2 a.2.2.1):Int)),(27,vI (j.2.1))]) (λj J=>[bV o (cellsOf b_ j.2.2) 235]) ((0:Int),(0:Int),(List.replicate 24 (0:Int))) () h SF (aZ.ix [0] Z Z) ?_;intro aj j J h;refine aU<|cX Z<|aM<|aJ ?_;refine fC h Z (λh=>?_) λh=>?_
    ·refine cV<|aJ<|aV<|aU<|aA Z<|aD Z<|aM<|aR<|aA Z<|aA Z<|aA Z<|cP Z<|aA Z<|fN h λF ac h=>aG (aL.callQ AC (p b f q s t u C v D w g d F ac) Z (qB [0,1,2,3,4,5,6,7,8] Z)) Z λao=>aA Z<|iK Z<|iK Z<|dH h λL h=>aC (nV Z Z Z Z Z L.1) Z<|IF 0 (e:=b_) F.1 L Z Z Z Z Z Z Z<|aD Z<|eR<|o_<|aR<|cP Z<|aA Z<|aM ?_;exact AT (F.2,(wI .i64 (j.2.1+(1:Int))),(List.set j.2.2 (Int.toNat j.2.1) F.1)) () h SF Z
    refine gK ?_;exact jP (j.1,j.2.2) () h SF Z
   intro k H h;refine aJ<|fF (λy=>j_ U a m k y=some r) (λy I=>[(1,vI ((at' a.2.2.2 m).1)),(7,vI (y)),(8,vP o),(9,vI (List.length (at' a.1.2.1.2 a.2.2.1):Int))]) (λy I=>[bV o (cellsOf b_ k.2) 235]) ?_ ?_
   ·refine aU<|aA Z<|cN Z<|aM ?_;refine fC h Z (λh=>?_) λh=>?_
    ·refine aR<|aA Z<|aC (bW Z) Z<|bU Z<|aC (dB Z (aE.fact 0 Z) Z Z Z) Z<|aA Z<|fN h λO ab h=>aG (aL.callQ Zs (Rm U d O ab) Z (qB [8] Z)) Z λan=>aD Z<|aM ?_;exact jP (O) () h SF Z
    refine cV ?_;exact jP (k.1) () h SF Z
   intro y I h;refine aU<|aA Z<|aA Z<|dH h λK h=>aC (Qh Z Z Z Z K) Z<|fN h λN aa h=>aG (aL.callQ Zz (Pe U (Value.slice (some ⟨o,0,none⟩) (Int.toNat (List.length (at' a.1.2.1.2 a.2.2.1):Int)) 24) N aa) Z (aF.cons (UX (i:=0) Z cZ K (by decide)) .nil)) Z λam=>?_;refine aA Z<|aD Z<|aD Z<|aM<|aS ?_;exact uC (N,y) () h (.inl Z) (Gw.r2 Z (RV.tmp Z) (RV.tmp Z)) Z .nil (aF.refl _ _)
  intro n G h;unfold mT at h;refine iK Z<|iK Z<|aD Z<|aD Z<|aM<|aS<|bM<|aI ?_;cases h;exact mS () Z Z (RV.tmp Z) (RV.tmp Z) (aZ.refl _) aF.nil
 refine aU<|bU Z<|dL 0 Z<|aC (Cr Z Z) Z<|aD Z<|aM ?_;refine fC h Z (λh=>?_) λh=>?_
 ·refine aU<|aA Z<|aA Z<|cP Z<|aA Z<|fN h λQ ad h=>aG (aL.callQ AC (p b f q s t u C v D w g d Q ad) Z (qB [0,1,2,3,4,5,6,7,8] Z)) Z λap=>aA Z<|iK Z<|iK Z<|aD Z<|aD Z<|aM<|aU<|aA Z<|aA Z<|aA Z<|fN h λR ae h=>aG (aL.callQ AC (p b f q s t u C v D w g d R ae) Z (qB [0,1,2,3,4,5,6,7,8] Z)) Z λaq=>aA Z<|iK Z<|iK Z<|aD Z<|aD Z<|aM<|aU<|bU Z<|dL 0 Z<|aA Z<|aA Z<|fN h λS af h=>aG (aL.callQ Zw (Kq U  S af) Z .nil) Z λar=>aA Z<|aD Z<|aD Z<|aM<|aS<|bM<|aI ?_;cases h;exact mS () Z Z (RV.tmp Z) (RV.tmp Z) .nil aF.nil
 refine dX<|o_<|aU<|aA Z<|aA Z<|cP Z<|aA Z<|fN h λT ag h=>aG (aL.callQ AC (p b f q s t u C v D w g d T ag) Z (qB [0,1,2,3,4,5,6,7,8] Z)) Z λau=>aA Z<|iK Z<|iK Z<|aD Z<|aD Z<|aM<|aU<|aA Z<|aA Z<|aA Z<|fN h λV ah h=>aG (aL.callQ AC (p b f q s t u C v D w g d V ah) Z (qB [0,1,2,3,4,5,6,7,8] Z)) Z λav=>aA Z<|iK Z<|iK Z<|aD Z<|aD Z<|aM<|aU<|aA Z<|aA Z<|aA Z<|fN h λW ai h=>aG (aL.callQ AC (p b f q s t u C v D w g d W ai) Z (qB [0,1,2,3,4,5,6,7,8] Z)) Z λaw=>aA Z<|iK Z<|iK Z<|aD Z<|aD Z<|aM<|aJ<|aU<|aA Z<|pI Z<|aM ?_;refine fC h Z (λh=>?_) λh=>?_
 ·refine aU<|aA Z<|aA Z<|aD Z<|aD Z<|aM<|aS<|aI ?_;cases h;exact mS () Z Z (RV.tmp Z) (RV.tmp Z) .nil aF.nil
 refine cV<|aU<|aA Z<|aA Z<|aD Z<|aD Z<|aM<|aS ?_;cases h;exact mS () Z Z (RV.tmp Z) (RV.tmp Z) .nil aF.nil
theorem Dq (U:Nat):∀{a:MX} {p:Int} {q:Int} (b:Nat)  (c:Nat)  (f:Value)  (g:Value)  (i:Value)  (j:Value)  (n:mZ)  (k:Value)  (o:sD)  (m:Value)  (e:sD)  (d:Value) (r:fH),bO U a p q=some r->
  aY Tryz.prog 151 #[vP b,vI (p),vI (q)] [bV b [vP c,m,vI (a.2.2.1),d] 207,bV c [vS (a.1.1.1),f,g,i,j,vI (a.1.2.2.1),k] 137,Sl aQ f a.1.1.2.1,Sl aH g a.1.1.2.2,Sl bP i a.1.2.1.1,S2 bA j n a.1.2.1.2,S2 bP k o a.1.2.2.2,S2 bP m e a.2.1,Sl bA d a.2.2.2] (λx:Unit=>Value.tuple #[vI (r.1),vI (r.2)]) (λx l=>l) (λ_ l=>l):=by
 induction U with
 |zero=>intros;rename_i h;cases h
 |succ U s=>exact λb c f g i j n k o m e d r h=>Ck (bO U) U s b c f g i j n k o m e d r h
end Go.Proofs.YtmdlcmbplnhdnaaGreatDoor