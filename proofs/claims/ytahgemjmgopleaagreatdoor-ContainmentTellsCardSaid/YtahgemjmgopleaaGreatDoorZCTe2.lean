/- Models and proofs. Conditions: none. -/
import Derived.Test.YtahgemjmgopleaaGreatDoorZCTe1
import Derived.Maps.RangeRun
set_option linter.unusedVariables false
set_option linter.unusedSimpArgs false
set_option maxHeartbeats 4000000
set_option maxRecDepth 20000
namespace Go.Sx
open Go.RowKit
section
variable {P:Program} {rd:Option Nat} {c:yO} {n:Sz} {σ:Fr} {M L M' L':List bI} {Q:Exit->Act->World->Prop} {ops:Array Oper} {rest:List Oper} {K:Act->World->Prop}
variable {d:Option Tmp} {D:Nat} {ty:TypeId} {pos:String} {aft:Array Edge} {g:Option (Nat×Bool)}
variable {α β:Type} {e:fE α} {r:fU α}
theorem aU.b {A:Nat->Bool} {f a M L:List bI} {j:Nat} {H:List (Nat×List bI×List bI)} (h:A j=true) (k:aU A f a H):aU A f a ((j,M,L)::H):=⟨.inl h,k⟩
theorem aU.h {A:Nat->Bool} {b a M L:List bI} {j:Nat} {H:List (Nat×List bI×List bI)} (h:bA M b) (f:Ce L a) (k:aU A b a H):aU A b a ((j,M,L)::H):=⟨.inr ⟨h,f⟩,k⟩
theorem aU.z {A:Nat->Bool} {b a:List bI}:aU A b a []:=trivial
theorem Do.b {A:Nat->Bool} {f a M L:List bI} {j:Nat} {H:List (Nat×List bI×List bI)} (h:A j=true) (k:Do A M L H):Do A M L ((j,f,a)::H):=⟨.inl h,k⟩
theorem Do.h {A:Nat->Bool} {b a M L:List bI} {j:Nat} {H:List (Nat×List bI×List bI)} (h:bA M b) (f:Ce L a) (k:Do A M L H):Do A M L ((j,b,a)::H):=⟨.inr ⟨h,f⟩,k⟩
theorem Do.z {A:Nat->Bool} {M L:List bI}:Do A M L []:=trivial
theorem bR {v:Value} {vs:List Value} (h:one v=true) (k:vs.all one=true):(v::vs).all one=true:=by simp[h,k]
theorem cT (k:IntKind) (x:Int):(Value.int k x).cells = #[.int k x]:=rfl
theorem b_ (b:Bool):(Value.bool b).cells = #[.bool b]:=rfl
theorem bW (a:Option Addr) (l k:Nat):(Value.slice a l k).cells = #[.slice a l k]:=rfl
theorem cU (a:Option Addr):(Value.pointer a).cells = #[.pointer a]:=rfl
theorem cV (a:ByteArray):(Value.string a).cells = #[.string a]:=rfl
theorem cA (f:Fn) (a b:Array Value):(Value.func f a b).cells = #[.func f a b]:=rfl
theorem Dc (q:Nat) {vs:List Value} {a:List (List α)} {k:Int} {u:Value} (s:M[q]? = some (k_ e (vs.set k.toNat u) a)) (h:0<=k∧k<a.length):∀c w,St c M L w->Go.Sx.one u=true:=λc w t=>by
 obtain⟨S,p,x,m,_⟩:=t.res s;have f:k.toNat<vs.length:=by simp at p;omega
 obtain⟨_,_,o⟩:=m k.toNat u _ (by rw[zAk f]) (zA0 (by omega));rcases o with⟨i,_⟩|⟨b,v,j,T,l,i,_⟩<;>(rw[i];rfl)
theorem Jp [eF P] [Inhabited α] {T o:TypeId} {C:Nat} {z:Value} {l:TypeDesc} {x:Operand} {b k:Nat} {i:Int} {f:List α} {u:Value} (m:ev σ x=some (.pointer (some ⟨b,i.toNat*1,none⟩)))
  (q:aD M L (cJ b (cellsOf e f) o)) (v:eF.tab P T=some ⟨l,1,C,z⟩) (y:Ax l=false) (A:e.sz=1) (B:(e.enc (at' f i))=[u]) (h:(0<=i∧i<(k:Int))∧f.length=k):
  Y P c n σ M L ⟨d,.load T x,ty,pos,aft,g⟩ u:=λa w s t=>by
 obtain⟨F,p⟩:=q.st t;have j:=yV e f i.toNat (at' f i) (mG h.1.1 (by omega)) 0 u (by rw[B];rfl);rw[A,Nat.add_zero]at j;rw[Nat.mul_one]at m j;simp[execOp,s.eval m,AW (eF.ok v) y (cJ.cell p j)]
theorem HF [eF P] (q:Nat) {T j:TypeId} {B:Nat} {z:Value} {p:TypeDesc} {x y:Operand} {b k:Nat} {i:Int} {a:List α} {u:Value} (o:α) (h:(0<=i∧i<(k:Int))∧a.length=k) (m:ev σ x=some (.pointer (some ⟨b,i.toNat*1,none⟩))) (A:ev σ y=some u)
  (s:M[q]? = some (cJ b (cellsOf e a) j)) (w:e.enc o=[u]) (f:one u=true) (t:eF.tab P T=some ⟨p,1,B,z⟩) (l:e.sz=1)
  (v:J c n σ (M.set q (cJ b (cellsOf e (a.set i.toNat o)) j)) L (wpList P ops Q rest)):
  J c n σ M L (wpList P ops Q (⟨none,.store T x y,ty,pos,aft,none⟩::rest)):=by
 rw[Nat.mul_one]at m;refine gJ q m A f s t ?_ ?_
 ·have:=fK e a;rw[l]at this;rw[zAw];omega
 ·rw[<-zK l w];exact v
end
end Go.Sx
namespace Go.Sx
section
abbrev vI (x:Int):Value:= .int .i64 x
abbrev vU (x:Int):Value:= .int .u32 x
abbrev vP (b:Nat):Value:= .pointer (some ⟨b,0,none⟩)
open Go.RowKit
variable {P:Program} {rd:Option Nat} {c:yO} {n:Sz} {σ:Fr} {M L:List bI} {Q:Exit->Act->World->Prop} {ops:Array Oper} {rest:List Oper} {d:Nat} {ty:TypeId} {pos:String} {aft:Array Edge} {x y:Operand} {v:Value} {K:Act->World->Prop}
theorem aA (h:(ev σ x,Nat.blt d n.sz)=(some v,true)) (k:J c n ((d,v)::σ) M L (wpList P ops Q rest)):J c n σ M L (wpList P ops Q (⟨some d,.move x,ty,pos,aft,none⟩::rest)):=aC (oC (Prod.mk.inj h).1) (Prod.mk.inj h).2 k
theorem aB (h:(ev σ x,Nat.blt d n.sz)=(some v,true)) (k:J c n ((d,v)::σ) M L (wpList P ops Q rest)):J c n σ M L (wpList P ops Q (⟨some d,.assign x,ty,pos,aft,none⟩::rest)):=aC (wS (Prod.mk.inj h).1) (Prod.mk.inj h).2 k
theorem bN [eF P] {T:TypeId} {r s i t:Nat} {z w:Value} {e:Array Field} {p u q:String} {m:Bool} {g a j:Nat} {l:TypeDesc} {b o f:Nat} (h:(ev σ x,eF.tab P T,e[f]?,eF.tab P g,i==0,Nat.blt d n.sz)=(some (.pointer (some ⟨b,o,none⟩)),some ⟨.struct e,r,s,z⟩,some ⟨p,g,a,m,u,q,j⟩,some ⟨l,i,t,w⟩,false,true)) (k:J c n ((d,.pointer (some ⟨b,o+a,none⟩))::σ) M L (wpList P ops Q rest)):J c n σ M L (wpList P ops Q (⟨some d,.fieldAddr T x f,ty,pos,aft,none⟩::rest)):=by
  simp only[Prod.mk.injEq]at h;exact aC (cQ h.1 h.2.1 h.2.2.1 h.2.2.2.1 h.2.2.2.2.1) h.2.2.2.2.2 k
theorem dL [eF P] (i:Nat) {T e:TypeId} {f g:Nat} {z:Value} {a:TypeDesc} {b o:Nat} {cs:List Value} (h:(ev σ x,M[i]?,eF.tab P T,Ax a,cs[o]?,Nat.blt d n.sz)=(some (.pointer (some ⟨b,o,none⟩)),some (cJ b cs e),some ⟨a,f,g,z⟩,false,some v,true)) (k:J c n ((d,v)::σ) M L (wpList P ops Q rest)):J c n σ M L (wpList P ops Q (⟨some d,.load T x,ty,pos,aft,none⟩::rest)):=by
  simp only[Prod.mk.injEq]at h;exact aC (dN i h.1 h.2.1 h.2.2.1 h.2.2.2.1 h.2.2.2.2.1) h.2.2.2.2.2 k
theorem cM [eF P] (i:Nat) {T e:TypeId} {f:Nat} {z:Value} {a:TypeDesc} {b:Nat} {cs:List Value} (h:(ev σ x,M[i]?,eF.tab P T,Ax a,Nat.blt d n.sz)=(some (.pointer (some ⟨b,0,none⟩)),some (cJ b cs e),some ⟨a,cs.length,f,z⟩,true,true)) (k:J c n ((d,.agg cs.toArray)::σ) M L (wpList P ops Q rest)):J c n σ M L (wpList P ops Q (⟨some d,.load T x,ty,pos,aft,none⟩::rest)):=by
  simp only[Prod.mk.injEq]at h;exact aC (lN i h.1 h.2.1 h.2.2.1 h.2.2.2.1) h.2.2.2.2 k
theorem aE {e:Op} {j:Nat} {b a:Bool} (h:(gv ops σ j,a==b,Nat.blt d n.sz)=(some a,false,true)) (k:J c n ((d,undef)::σ) M L (wpList P ops Q rest)):J c n σ M L (wpList P ops Q (⟨some d,e,ty,pos,aft,some (j,b)⟩::rest)):=by
  simp only[Prod.mk.injEq]at h;exact XI h.1 h.2.1 h.2.2 k
theorem bZ {j:Nat} {b:Bool} (h:(gv ops σ j,ev σ x,Nat.blt d n.sz)=(some b,some v,true)) (k:J c n ((d,v)::σ) M L (wpList P ops Q rest)):J c n σ M L (wpList P ops Q (⟨some d,.move x,ty,pos,aft,some (j,b)⟩::rest)):=by
  simp only[Prod.mk.injEq]at h;exact aM h.1 (oC h.2.1) h.2.2 k
theorem cZ {t a:TypeId} {i:IntKind} {p q:Int} (h:(ev σ x,ev σ y,Nat.blt d n.sz)=(some (.int i p),some (.int i q),true)) (k:J c n ((d,.bool (decide (p<q)))::σ) M L (wpList P ops Q rest)):J c n σ M L (wpList P ops Q (⟨some d,.binOp .lss t x y a,ty,pos,aft,none⟩::rest)):=by
  simp only[Prod.mk.injEq]at h;exact aC (BD h.1 h.2.1) h.2.2 k
theorem bS {t a:TypeId} {i:IntKind} {p q:Int} (h:(ev σ x,ev σ y,Nat.blt d n.sz)=(some (.int i p),some (.int i q),true)) (k:J c n ((d,.bool (decide (p=q)))::σ) M L (wpList P ops Q rest)):J c n σ M L (wpList P ops Q (⟨some d,.binOp .eql t x y a,ty,pos,aft,none⟩::rest)):=by
  simp only[Prod.mk.injEq]at h;exact aC (Cy h.1 h.2.1) h.2.2 k
theorem cD {t a:TypeId} {i:IntKind} {p q:Int} (h:(ev σ x,ev σ y,Nat.blt d n.sz)=(some (.int i p),some (.int i q),true)) (k:J c n ((d,.int i (wI i (p+q)))::σ) M L (wpList P ops Q rest)):J c n σ M L (wpList P ops Q (⟨some d,.binOp .add t x y a,ty,pos,aft,none⟩::rest)):=by
  simp only[Prod.mk.injEq]at h;exact aC (yR h.1 h.2.1) h.2.2 k
theorem cdI {e b:Code} {p:Prop} {_:Decidable p} {f:Type} {u w:Option f} {r:f} (h:(if p then u else w)=some r) (j:ev σ x=some (.bool (decide p))) (i:p->u=some r->J c n σ M L (e.wpr rd P Q)) (g:¬p->w=some r->J c n σ M L (b.wpr rd P Q)):J c n σ M L ((Code.cond x e b).wpr rd P Q):=aaU j (λa=>i a (LS a h)) (λa=>g a (ifN a h))
theorem d_ {b a:Code} {p:Prop} {_:Decidable p} {e:Type} {u w:Option e} {r:e} (h:(if p then u else w)=some r) (i:ev σ x=some (.bool (decide p))) (g:u=some r->J c n σ M L (b.wpr rd P Q)) (f:w=some r->J c n σ M L (a.wpr rd P Q)):J c n σ M L ((Code.cond x b a).wpr rd P Q):=cdI h i (λ_=>g) (λ_=>f)
theorem tT {f e:Code} {b:Bool} {g:Type} {u w:Option g} {r:g} (h:(if b=true then u else w)=some r) (k:ev σ x=some (.bool b)) (j:b=true->u=some r->J c n σ M L (f.wpr rd P Q)) (i:b=false->w=some r->J c n σ M L (e.wpr rd P Q)):J c n σ M L ((Code.cond x f e).wpr rd P Q):=OM k (λa=>j a (LS a h)) (λa=>i a (HU a h))
theorem wN {d:Option Tmp} {f:Op} {j e:Nat} {p:Prop} {_:Decidable p} {b:Bool} {i:Type} {u w:Option i} {r:i} (h:(if p then u else w)=some r) (g:((ops[j]?).bind (·.dst),lk σ e)=(some e,some (.bool (decide p)))) (l:p->u=some r->J c n ((e,.bool true)::σ) M L (wpList P ops Q (⟨d,f,ty,pos,aft,some (j,b)⟩::rest))) (k:¬p->w=some r->J c n ((e,.bool false)::σ) M L (wpList P ops Q (⟨d,f,ty,pos,aft,some (j,b)⟩::rest))):J c n σ M L (wpList P ops Q (⟨d,f,ty,pos,aft,some (j,b)⟩::rest)):=XH (Prod.mk.inj g).1 (Prod.mk.inj g).2 (λa=>l a (LS a h)) (λa=>k a (ifN a h))
theorem aL {ops:Array Oper} (h:J c n σ M L K):J c n σ M L (wpList P ops (Exit.then K Q) []):=h
theorem aR {id:Nat} {l:List Oper} {z:Code} (h:J c n σ M L (wpList P l.toArray (Exit.then (z.wpr rd P Q) Q) l)) (a:l.all kF=true:=by rfl):J c n σ M L ((Code.seq (Code.region id l.toArray false) z).wpr rd P Q):=aK (aO h a)
variable {A B:Type} {ret:Unit->Value} {MO LO:Unit->List bI->List bI} {fn:Func} {C:A->Prop} {σI:A->B->Fr} {MI LI:A->B->List bI}
theorem fW {t:Tmp} (h:(ret (),fn.results,lk σ t,MO () [],LO () [],n.ds)=(v,#[.tmp t],some v,M,[],[])):J c n σ M L (iV P fn (QJ c ret MO LO) .ret):=by
  simp only[Prod.mk.injEq]at h;exact gE () h.1 h.2.1 (RV.tmp h.2.2.1) (h.2.2.2.1▸bA.refl _) (by rw[h.2.2.2.2.1];exact aG.nil) h.2.2.2.2.2
theorem oA {t:Tmp} (h:(ret (),fn.results,lk σ t,MO () [],LO () [],n.ds)=(v,#[.tmp t],some v,[],[],[])):J c n σ M L (iV P fn (QJ c ret MO LO) .ret):=by
  simp only[Prod.mk.injEq]at h;exact gE () h.1 h.2.1 (RV.tmp h.2.2.1) (by rw[h.2.2.2.1];exact bA.nil) (by rw[h.2.2.2.2.1];exact aG.nil) h.2.2.2.2.2
theorem CM {x:Code} (C:A->Prop) (σI:A->B->Fr) (MI:A->B->List bI) (e:J c n σ M L (x.wpr rd P (Exit.then (XU c n C σI MI (λ_ _=>L)) Q))) (f:∀a b,C a->J c n (σI a b) (MI a b) L K):J c n σ M L (x.wpr rd P (Exit.then K Q)):=FE C σI MI (λ_ _=>L) e f
theorem eB {R:Type} {f:Code} (e:A->(A->Option R)->Option R) {r:R} {U:Nat} (σI:A->B->Fr) (MI:A->B->List bI) (i:A) (j:B) (h:bK e U i=some r) (m:BC σ (σI i j)) (l:bA M (MI i j)) (g:∀k a b,e a (bK e k)=some r->J c n (σI a b) (MI a b) L (f.wpr rd P (Exit.then (aaT c n e r σI MI (λ_ _=>L) k) Q))):J c n σ M L ((Code.loop f).wpr rd P Q):=KD e σI MI (λ_ _=>L) i j h m l (aG.refl _ _) g
theorem dK {x:Code} (C:A->Prop) (σI:A->Unit->Fr) (MI:A->Unit->List bI) (e:J c n σ M L (x.wpr rd P (Exit.then (XU c n C σI MI (λ_ _=>L)) Q))) (f:∀a b,C a->J c n (σI a b) (MI a b) L K):J c n σ M L (x.wpr rd P (Exit.then K Q)):=CM C σI MI e f
theorem cE (h:J c n σ M L K):J c n σ M L (Code.skip.wpr rd P (Exit.then K Q)):=dM h
theorem jH {id:Nat} (h:J c n σ M L K):J c n σ M L (Exit.inBlock id (Exit.then K Q) .normal):=h
theorem eS {id:Nat} {a b:Act->World->Prop} (h:J c n σ M L K):J c n σ M L ((Code.exit id).wpr rd P (Exit.then a (Exit.then b (Exit.inBlock id (Exit.then K Q))))):=qC (eZ (eZ (wQ (Cd h))))
theorem eW (x:A) (y:B) (a:C x) (b:BC σ (σI x y)) (h:(MI x y,LI x y)=(M,L)):J c n σ M L (XU c n C σI MI LI):=bU x y a b ((Prod.mk.inj h).1▸bA.refl _) ((Prod.mk.inj h).2▸aG.refl _ _)
theorem tV {R:Type} {a:A->(A->Option R)->Option R} {r:R} {k:Nat} (x:A) (y:B) (h:bK a k x=some r) (b:BC σ (σI x y)) (e:(MI x y,LI x y)=(M,L)):J c n σ M L (aaT c n a r σI MI LI k):=nC x y h b ((Prod.mk.inj e).1▸bA.refl _) ((Prod.mk.inj e).2▸aG.refl _ _)
theorem zBg {A:Type} {ret:A->Value} {MO:A->List bI->List bI} {f:FuncId} {h:List Operand} {vs:List Value} {a:Array TypeId} {e:List bI} {d:Option Tmp} {g:Option (Nat×Bool)} (j:aV P f) (k:aW P f vs.toArray e ret MO (λ_ l=>l)) (m:h.map (ev σ)=vs.map some) (i:aG M L e) (b:∀x l,MO x l=MO x []++l:=by exact λ_ _=>rfl):aN P c n σ M L ⟨d,.call ⟨.value (.func f),h.toArray,a⟩,ty,pos,aft,g⟩ ret (λx=>MO x M) (λ_=>L):=Te j k m i b
variable {l:List Oper} {m:List Nat} {k0:Nat} {Bs:List (Nat×List bI×List bI)} {rs:List Nat} {i:Nat}
theorem aY (h:(l[i]?,ev σ x,Nat.blt i k0,Nat.blt d n.sz)=(some ⟨some d,.move x,ty,pos,aft,none⟩,some v,true,true)) (k:JR c n ((d,v)::σ) M L [] ((i,[],[])::Bs) (RW P l.toArray Q (before m) (eM l) k0 rs)):JR c n σ M L [] Bs (RW P l.toArray Q (before m) (eM l) k0 (i::rs)):=by
  simp only[Prod.mk.injEq]at h;exact bM h.1 bA.nil Ce.nil (oC h.2.1) aU.z k h.2.2.1 Z h.2.2.2
theorem cB [eF P] {T:TypeId} {u w j D:Nat} {z F:Value} {e:Array Field} {s E t:String} {r:Bool} {g a p:Nat} {q:TypeDesc} {b o f:Nat} (h:(l[i]?,ev σ x,eF.tab P T,e[f]?,eF.tab P g,j==0,Nat.blt i k0,Nat.blt d n.sz)=(some ⟨some d,.fieldAddr T x f,ty,pos,aft,none⟩,some (.pointer (some ⟨b,o,none⟩)),some ⟨.struct e,u,w,z⟩,some ⟨s,g,a,r,E,t,p⟩,some ⟨q,j,D,F⟩,false,true,true)) (k:JR c n ((d,.pointer (some ⟨b,o+a,none⟩))::σ) M L [] ((i,[],[])::Bs) (RW P l.toArray Q (before m) (eM l) k0 rs)):JR c n σ M L [] Bs (RW P l.toArray Q (before m) (eM l) k0 (i::rs)):=by
  simp only[Prod.mk.injEq]at h;exact bM h.1 bA.nil Ce.nil (cQ h.2.1 h.2.2.1 h.2.2.2.1 h.2.2.2.2.1 h.2.2.2.2.2.1) aU.z k h.2.2.2.2.2.2.1 Z h.2.2.2.2.2.2.2
theorem fD [eF P] (p:Nat) {T a:TypeId} {f g:Nat} {z:Value} {e:TypeDesc} {b o:Nat} {cs:List Value} (h:(l[i]?,ev σ x,M[p]?,eF.tab P T,Ax e,cs[o]?,Nat.blt i k0,Nat.blt d n.sz)=(some ⟨some d,.load T x,ty,pos,aft,none⟩,some (.pointer (some ⟨b,o,none⟩)),some (cJ b cs a),some ⟨e,f,g,z⟩,false,some v,true,true)) (k:JR c n ((d,v)::σ) M L [] ((i,[cJ b cs a],[])::Bs) (RW P l.toArray Q (before m) (eM l) k0 rs)):JR c n σ M L [] Bs (RW P l.toArray Q (before m) (eM l) k0 (i::rs)):=by
  simp only[Prod.mk.injEq]at h;exact bM h.1 (bA.cons p h.2.2.1 bA.nil) Ce.nil (dN 0 h.2.1 Z h.2.2.2.1 h.2.2.2.2.1 h.2.2.2.2.2.1) aU.z k h.2.2.2.2.2.2.1 Z h.2.2.2.2.2.2.2
theorem gK [eF P] (p:Nat) {T a:TypeId} {f:Nat} {z:Value} {e:TypeDesc} {b:Nat} {cs:List Value} (h:(l[i]?,ev σ x,M[p]?,eF.tab P T,Ax e,Nat.blt i k0,Nat.blt d n.sz)=(some ⟨some d,.load T x,ty,pos,aft,none⟩,some (.pointer (some ⟨b,0,none⟩)),some (cJ b cs a),some ⟨e,cs.length,f,z⟩,true,true,true)) (k:JR c n ((d,.agg cs.toArray)::σ) M L [] ((i,[cJ b cs a],[])::Bs) (RW P l.toArray Q (before m) (eM l) k0 rs)):JR c n σ M L [] Bs (RW P l.toArray Q (before m) (eM l) k0 (i::rs)):=by
  simp only[Prod.mk.injEq]at h;exact bM h.1 (bA.cons p h.2.2.1 bA.nil) Ce.nil (lN 0 h.2.1 Z h.2.2.2.1 h.2.2.2.2.1) aU.z k h.2.2.2.2.2.1 Z h.2.2.2.2.2.2
end
theorem GM {X R:Type} {b:X->(X->Option R)->Option R} {r:R} (I:X->Prop) (e:X->Nat)
  (h:∀x f,I x->(∀c,I c->e c<e x->f c=some r)->b x f=some r):∀(a:Nat) (x:X),I x->e x<a->bK b a x=some r:=by
 intro a
 induction a with
 |zero=>intro x _ j;omega
 |succ k l=>
  intro x g j;exact h x _ g λc d i=>l c d (by omega)
def OK {R:Type} (Q:R->Prop) (o:Option R):Prop:=∃r,o=some r∧Q r
theorem A_ {X R:Type} {step:X->(X->Option R)->Option R} {Q:R->Prop} (I:X->Prop) (d:X->Nat)
  (h:∀x e,I x->(∀b,I b->d b<d x->OK Q (e b))->OK Q (step x e)):∀(a:Nat) (x:X),I x->d x<a->OK Q (bK step a x):=by
 intro a
 induction a with
 |zero=>intro x _ i;omega
 |succ k j=>
  intro x f i;exact h x _ f λb c g=>j b c (by omega)
theorem cO {b:Type} {p:Prop} [Decidable p] (a:p) (x:Option b):ck p x=x:=if_pos a
theorem wr {x:Int} (a : -9223372036854775808<=x) (b:x<=9223372036854775807):wI .i64 x=x:=if_pos ⟨a,b⟩
theorem aZ {a b:Type} {x:Option a} {y:a} {f:a->Option b} (h:x=some y):x.bind f=f y:=by rw[h];rfl
theorem akP {a:Type} (l r:List a) (x y:a) (i:Nat) (h:l.length=i):(l++x::r).set i y=l++y::r:=by
 rw[List.set_append_right _ _ (by omega)];simp[<-h]
theorem Wr {a:Type} [Inhabited a] (l r:List a) (x:a) (i:Nat) (h:l.length=i):at' (l++x::r) (i:Int)=x:=by
 rw[lZ,zA7,zAb (by omega)];simp[<-h]
theorem cR {X R:Type} {step:X->(X->Option R)->Option R} {K:Option R} (N:Nat) (F:Nat->X) (c:∀(k:Nat) g,k<N->step (F k) g=g (F (k+1))) (e:∀g,step (F N) g=K):∀b,N<b->bK step b (F 0)=K:=by
 have i:∀(d a b:Nat),a+d=N->d<b->bK step b (F a)=K:=by
  intro d
  induction d with
  |zero=>
   intro a b j h;obtain rfl:a=N:=by omega
   obtain⟨f,rfl⟩:∃f,b=f+1:=⟨b - 1,by omega⟩
   exact e _
  |succ d l=>
   intro a b j h;obtain⟨f,rfl⟩:∃f,b=f+1:=⟨b - 1,by omega⟩
   show step (F a) (bK step f)=K;rw[c a _ (by omega)];exact l (a+1) f (by omega) (by omega)
 exact λb h=>i N 0 b (by omega) h
theorem TU {X R:Type} {step:X->(X->Option R)->Option R} {K bad:Option R} (N:Nat) (p:Nat->Prop) (F:Nat->X) (r:∀(k:Nat) c,k<N->p k->step (F k) c=c (F (k+1))) (i:∀(k:Nat) c,k<N->¬p k->step (F k) c=bad) (j:∀c,step (F N) c=K):
  ∀b,N<b->((∀k,k<N->p k)->bK step b (F 0)=K)∧(¬(∀k,k<N->p k)->bK step b (F 0)=bad):=by
 have s:∀(d a b:Nat),a+d=N->d<b->((∀k,a<=k->k<N->p k)->bK step b (F a)=K)∧(¬(∀k,a<=k->k<N->p k)->bK step b (F a)=bad):=by
  intro d
  induction d with
  |zero=>
   intro a b t q;obtain rfl:a=N:=by omega
   obtain⟨f,rfl⟩:∃f,b=f+1:=⟨b - 1,by omega⟩
   exact⟨λ_=>j _,λh=>absurd (λk m g=>by omega) h⟩
  | succ d ih =>
   intro a b t q;obtain⟨f,rfl⟩:∃f,b=f+1:=⟨b - 1,by omega⟩
   obtain⟨u,v⟩:=ih (a+1) f (by omega) (by omega);have e:bK step (f+1) (F a)=step (F a) (bK step f):=rfl;rw[e];by_cases n:p a
   ·rw[r a _ (by omega) n];refine⟨λh=>u λk m g=>h k (by omega) g,λh=>v λo=>h λk m g=> ?_⟩
    by_cases l:k=a
    ·subst l;exact n
    ·exact o k (by omega) g
   ·exact⟨λh=>absurd (h a (zAd _) (by omega)) n,λ_=>i a _ (by omega) n⟩
 intro b q;obtain⟨m,g⟩:=s N 0 b (by omega) q;exact⟨λh=>m λk _ l=>h k l,λh=>g λo=>h λk l=>o k (by omega) l⟩
theorem zN {X R:Type} {step:X->(X->Option R)->Option R} {K:X->Option R} (N:Nat) (I:Nat->X->Prop) (e:∀(k:Nat) x i,k<N->I k x->∃c,I (k+1) c∧step x i=i c) (h:∀x i,I N x->step x i=K x):∀b x,I 0 x->N<b->∃c,I N c∧bK step b x=K c:=by
 have m:∀(d a b:Nat) (x:X),a+d=N->d<b->I a x->∃c,I N c∧bK step b x=K c:=by
  intro d
  induction d with
  |zero=>
   intro a b x p l g;obtain rfl:a=N:=by omega
   obtain⟨f,rfl⟩:∃f,b=f+1:=⟨b - 1,by omega⟩
   exact⟨x,g,h _ _ g⟩
  |succ d r=>
   intro a b x p l g;obtain⟨f,rfl⟩:∃f,b=f+1:=⟨b - 1,by omega⟩
   obtain⟨c,j,q⟩:=e a x (bK step f) (by omega) g;obtain⟨s,n,o⟩:=r (a+1) f c (by omega) (by omega) j;exact⟨s,n,by rw[<-o];exact q⟩
 exact λb x g l=>m N 0 b x (by omega) l g
def AM (q:Nat->Bool):Nat->Bool
 |0=>false
 |k+1=>AM q k||q k
theorem Lq {q:Nat->Bool}:∀{k:Nat},AM q k=true↔∃i,i<k∧q i=true
 |0=>by simp[AM]
 | k + 1 => by
  simp only[AM,zAu,Lq (k:=k)];constructor
  ·rintro(⟨i,b,a⟩|h)
   ·exact⟨i,by omega,a⟩
   ·exact⟨k,by omega,h⟩
  ·rintro⟨i,b,a⟩;by_cases e:i=k
   ·subst e;exact .inr a
   ·exact .inl ⟨i,by omega,a⟩
def mM (p:Nat->Bool):Nat->Nat
 |0=>0
 |k+1=>if p k then mM p k ||| 2^k else mM p k
theorem Rs (p:Nat->Bool):∀k,mM p k<2^k
 |0=>by simp[mM]
 |k+1=>by
  have h:=Rs p k;simp only[mM];split
  ·exact Nat.or_lt_two_pow (by omega) (Nat.pow_lt_pow_right (by omega) (by omega))
  ·omega
theorem Cs (p:Nat->Bool) (j:Nat):∀k,(mM p k).testBit j=(decide (j<k)&&p j)
 |0=>by simp[mM]
 | k + 1 => by
  have h:=Cs p j k;simp only[mM];by_cases e:j=k
  ·subst e;cases c:p j<;>simp[h,c]
  ·have a:decide (j<k+1)=decide (j<k):=decide_eq_decide.2 (by omega);have b:¬k=j:=λh=>e h.symm;split
   ·rw[Nat.testBit_or,h,zAp,a];simp[b]
   ·rw[h,a]
end Go.Sx
section
set_option linter.unusedSectionVars false
namespace Go.Sx
open Go.RowKit
section defs
variable {κ ν:Type} [DecidableEq κ]
def F_ (a:κ->Value) (b:ν->Value):Nat->List (κ×ν)->List MapEntry
 |_,[]=>[]
 |i,x::xs=>⟨a x.1,b x.2,i⟩::F_ a b (i+1) xs
def nX (k:κ):List (κ×ν)->Option ν
 | []=>none
 |x::xs=>if k=x.1 then some x.2 else nX k xs
def ES (k:κ) (v:ν):List (κ×ν)->List (κ×ν)
 | []=>[(k,v)]
 |x::xs=>if k=x.1 then(k,v)::xs else x::ES k v xs
def WM (a:ν->Value) (k:κ):Nat->List (κ×ν)->Option (Nat×Value)
 |_,[]=>none
 |i,x::xs=>if k=x.1 then some (i,a x.2)else WM a k (i+1) xs
theorem Po (a:ν->Value) (k:κ):∀(i:Nat) (l:List (κ×ν)),(WM a k i l).map (·.2)=(nX k l).map a
 |_,[]=>rfl
 |i,x::xs=>by
  simp only[WM,nX];split
  ·rfl
  ·exact Po a k (i+1) xs
theorem Mc (a:κ->Value) (b:ν->Value):∀(i:Nat) (l:List (κ×ν)) (x:κ×ν),F_ a b i (l++[x])=F_ a b i l++[⟨a x.1,b x.2,i+l.length⟩]
 |i,[],x=>rfl
 |i,y::ys,x=>by
  simp only[List.cons_append,F_,Mc a b (i+1) ys x,zAh];rw[show i+1+ys.length=i+(ys.length+1) by omega]
theorem JD (k:κ) (v:ν):∀l:List (κ×ν),nX k l=none->ES k v l=l++[(k,v)]
 | [],_=>rfl
 | x :: xs, h => by
  simp only[nX]at h;split at h
  ·cases h
  ·rename_i a;simp only[ES,if_neg a,JD k v xs h,List.cons_append]
theorem Vf (a:κ->Value) (b:ν->Value) (k:κ) (v:ν):∀(i0 i:Nat) (l:List (κ×ν)) (j:Nat) (u:Value),WM b k i l=some (j,u)->
  i<=j∧((F_ a b i l)[j - i]?).map (·.key)=some (a k)∧F_ a b i (ES k v l)=(F_ a b i l).modify (j - i) (λe=>{e with key:=a k,val:=b v})∧(ES k v l).length=l.length
 |_,i,[],j,u,h=>by simp[WM]at h
 | i0, i, x :: xs, j, u, h => by
  simp only[WM]at h;split at h
  ·rename_i n;simp only[Option.some.injEq,Prod.mk.injEq]at h;obtain⟨rfl,_⟩:=h;simp[F_,ES,n]
  ·rename_i c;obtain⟨o,f,g,m⟩:=Vf a b k v i0 (i+1) xs j u h;have d:j - i=(j - (i+1))+1:=by omega
   refine⟨by omega,?_,?_,?_⟩
   ·rw[d];simpa [F_]using f
   ·simp only[ES,if_neg c,F_];rw[d,List.modify_succ_cons,g]
   ·simp[ES,c,m]
end defs
structure Lh (P:Program) (kt:TypeId) {κ:Type} [DecidableEq κ] (ek:κ->Value):Prop where
 chk:∀b k w,(Instr.checkKey b 10000 kt (ek k)).run P w = .ok () w
 find:∀{ν:Type} (ev:ν->Value) (k:κ) (l:List (κ×ν)) w,(Instr.findKey kt (ek k) (F_ ek ev 0 l)).run P w = .ok (WM ev k 0 l) w
 same:∀k,Instr.sameBits 10000 (ek k) (ek k)=true
def Mp {b c:Type} (d:b->Value) (e:c->Value) (r:Nat) (l:List (b×c)):bI where
 p w F:=F r∧w.heap[r]? = some (.map (F_ d e 0 l).toArray l.length)
 mono:=fun⟨f,a⟩ h=>by
  obtain⟨g,i⟩:=h r f (zA9.1 a).1;exact⟨g,by rw[i];exact a⟩
section
variable {P:Program} {rd:Option Nat} {c:yO} {n:Sz} {σ:Fr} {M L:List bI} {Q:Exit->Act->World->Prop} {ops:Array Oper} {rest:List Oper}
variable {d:Option Tmp} {ty:TypeId} {pos:String} {aft:Array Edge} {g:Option (Nat×Bool)}
theorem St.push {w:World} (t:St c M L w) (o:Obj) {m:bI} (z:m.p (w.alloc o) (λk=>k=w.heap.size)):St c (m::M) L (w.alloc o):=by
 have e:NF w (w.alloc o):=(Below.refl _ _).alloc (zAd _) _;obtain⟨v,F,b,x⟩:=t;have u:∀k,k<w.heap.size->(w.alloc o).heap[k]? = w.heap[k]? := e.block;refine⟨v.trans e,λi k=>match i with|0=>k=w.heap.size|i+1=>F i k,⟨?_,?_,?_⟩,λf y=> ?_⟩
 ·intro i A a;cases i with
  |zero=>simp at a;subst a;exact z
  |succ i=>exact bI.same (b.res i A (by simpa using a)) (λ_ h=>h) (λk _ s=>u k s)
 ·intro i k q;cases i with
  |zero=>subst q;exact⟨.inl v.size,by simp⟩
  |succ i=>exact⟨(b.rng i k q).1,zAj (b.rng i k q).2 e.size⟩
 ·intro i j k l r;cases i with
  |zero=>
   cases j with
   |zero=>rfl
   |succ j=>have:=(b.rng j k r).2;simp only at l;omega
  |succ i=>
   cases j with
   |zero=>have:=(b.rng i k l).2;simp only at r;omega
   |succ j=>exact congrArg (· + 1) (b.dis i j k l r)
 ·exact f.mono (x f y) λk q s=>⟨⟨q.1,λi l=>by
   cases i with
   |zero=>simp only at l;omega
   |succ i=>exact q.2 i l⟩,u k s⟩
variable {κ ν:Type} [DecidableEq κ] {ek:κ->Value} {ev:ν->Value}
theorem aN.makeMap (ek:κ->Value) (ev:ν->Value) {T:TypeId}:aN P c n σ M L ⟨d,.makeMap T none,ty,pos,aft,g⟩ (λr:Nat=> .map (some r)) (λr=>Mp ek ev r []::M) (λ_=>L):=λa w s t=>by
 have b:(execOp a.eval ⟨d,.makeMap T none,ty,pos,aft,g⟩).run P w = .ok (.value (.map (some w.heap.size))) (w.alloc (.map #[] 0)):=by
  simp[execOp,Instr.makeMap]
 simp only[Oper.wp,b,Oper.upon];exact⟨w.heap.size,rfl,t.push _ ⟨rfl,heap_alloc_new w _⟩⟩
theorem Uf [eF P] {T j m:TypeId} {C D E G:Nat} {z f:Value} {o:TypeDesc} {w:World} {r:Nat} {l:List (κ×ν)} {F:Nat->Prop} (i:Lh P j ek) (q:(Mp ek ev r l).p w F)
  (s:eF.tab P T=some ⟨.map j m,C,D,z⟩) (t:eF.tab P m=some ⟨o,E,G,f⟩) (k:κ) (b:Bool):
  (Instr.lookup T (.map (some r)) (ek k) b).run P w = .ok (if b then .tuple #[((nX k l).map ev).getD f,.bool (nX k l).isSome]else((nX k l).map ev).getD f) w:=by
 have y:(getObj r).run P w = .ok (.map (F_ ek ev 0 l).toArray l.length) w:=by
  simp[getObj,Sem.run,q.2]
 have u:=i.find ev k l w;have a:=Po ev k 0 l;simp only[Instr.lookup];simp[(eF.ok s).run_und w,y,i.chk,u];cases e:WM ev k 0 l with
 |none=>
  rw[e]at a;have:nX k l=none:=by cases h:nX k l<;>simp[h]at a ⊢
  simp[this,(eF.ok t).run_zero w]
 | some x =>
  rw[e]at a;obtain⟨v,A,B⟩:∃v,nX k l=some v∧ev v=x.2:=by
   cases h:nX k l with
   |none=>simp[h]at a
   |some v=>simp[h]at a;exact⟨v,rfl,a.symm⟩
  simp[A,B]
theorem QX [eF P] (j:Nat) {T e f:TypeId} {D E G H:Nat} {z h:Value} {i:TypeDesc} {x y:Operand} {r:Nat} {l:List (κ×ν)} (k:κ) {b:Bool} (v:Lh P e ek) (B:Go.Sx.ev σ x=some (.map (some r))) (C:Go.Sx.ev σ y=some (ek k)) (q:M[j]? = some (Mp ek ev r l))
  (o:eF.tab P T=some ⟨.map e f,D,E,z⟩) (p:eF.tab P f=some ⟨i,G,H,h⟩) {u:Value} (A:((nX k l).map ev).getD h=u):
  Y P c n σ M L ⟨d,.lookup T x y b,ty,pos,aft,g⟩ (if b then .tuple #[u,.bool (nX k l).isSome]else u):=λa w s t=>by
 obtain⟨F,m⟩:=t.res q;subst A;simp[execOp,s.eval B,s.eval C,Uf v m o p]
theorem Ge {w:World} {r:Nat} {a:Array MapEntry} {k:Nat} (h:w.heap[r]? = some (.map a k)) (o:Obj):(setObj r o).run P w = .ok () {w with heap:=w.heap.setIfInBounds r o}:=by
 simp[setObj,Sem.run,h]
theorem St.setMap {w:World} (t:St c M L w) {j r:Nat} {l b:List (κ×ν)} (f:M[j]? = some (Mp ek ev r l)) (o:Obj) (m:o = .map (F_ ek ev 0 b).toArray b.length):
  St c (M.set j (Mp ek ev r b)) L {w with heap:=w.heap.setIfInBounds r o}:=
 t.upd f Z Z Z (by simp) λF a _=>⟨λk _ i=>by
   rw[zAz (λe=>i (by subst e;exact a.1))],F,⟨a.1,by
    rw[zB6 (zA9.1 a.2).1,m]⟩,λ_ h=> .inl h⟩
theorem Qy [eF P] (j:Nat) {T R vt:TypeId} {s1 s2:Nat} {z:Value} {x y v:Operand} {r:Nat} {l:List (κ×ν)} (k:κ) (f:ν) (C:Lh P R ek) (Y:Go.Sx.ev σ x=some (.map (some r))) (hy:Go.Sx.ev σ y=some (ek k)) (X:Go.Sx.ev σ v=some (ev f)) (K:M[j]? = some (Mp ek ev r l))
  (I:eF.tab P T=some ⟨.map R vt,s1,s2,z⟩) (h:J c n σ (M.set j (Mp ek ev r (ES k f l))) L (wpList P ops Q rest)):
  J c n σ M L (wpList P ops Q (⟨none,.mapUpdate T x y v,ty,pos,aft,none⟩::rest)):=λa w s t=>by
 refine nT Z ?_;obtain⟨F,E⟩:=t.res K;have N:(getObj r).run P w = .ok (.map (F_ ek ev 0 l).toArray l.length) w:=by
  simp[getObj,Sem.run,E.2]
 have b:=C.find ev k l w;have A:=Po ev k 0 l;have B:∃o:Obj,(execOp a.eval ⟨none,.mapUpdate T x y v,ty,pos,aft,none⟩).run P w = .ok .skip {w with heap:=w.heap.setIfInBounds r o}∧o = .map (F_ ek ev 0 (ES k f l)).toArray (ES k f l).length:=by
  simp only[execOp,s.eval Y,s.eval hy,s.eval X,Instr.mapUpdate];cases m:WM ev k 0 l with
  |none=>
   rw[m]at A b;have U:nX k l=none:=by cases h:nX k l<;>simp[h]at A ⊢
   refine⟨.map (F_ ek ev 0 l++[(⟨ek k,ev f,l.length⟩:MapEntry)]).toArray (l.length+1),by simp[(eF.ok I).run_und w,N,C.chk,b,Ge E.2],?_⟩
   rw[JD k f l U,Mc];simp
  | some q =>
   obtain⟨i,u⟩:=q;rw[m]at b;obtain⟨_,D,H,S⟩:=Vf ek ev k f 0 0 l i u m;rw[Nat.sub_zero]at D H;have O:(((F_ ek ev 0 l).toArray[i]?).map (·.key)).getD (ek k)=ek k:=by
    rw[List.getElem?_toArray,D];rfl
   refine⟨.map ((F_ ek ev 0 l).toArray.modify i λe=>{e with key:=ek k,val:=ev f}) l.length,?_,?_⟩
   ·have G:(Instr.keyThatStays (ek k) (ek k)).run P w = .ok (ek k) w:=by simp[Instr.keyThatStays,C.same k]
    have p:(Option.map (λx=>x.key) (F_ ek ev 0 l)[i]?).getD (ek k)=ek k:=by rw[D];rfl
    simp[(eF.ok I).run_und w,N,C.chk,b,p,G,Ge E.2]
   ·rw[H,S];simp
 obtain⟨o,W,V⟩:=B;simp only[Oper.wp,W,Oper.upon];exact h _ _ s (t.setMap K o V)
end
end Go.Sx
end
section
set_option linter.unusedSectionVars false
namespace Go.Sx
open Go.RowKit Go.ChangeMaps
def It (b m a:Nat) (c:List Nat):bI where
 p w F:=F b∧w.heap[b]? = some (.mapIter (some m) a c.toArray a)
 mono:=fun⟨e,d⟩ h=>by
  obtain⟨f,g⟩:=h b e (zA9.1 d).1;exact⟨f,by rw[g];exact d⟩
section
variable {κ ν:Type} [DecidableEq κ] {ek:κ->Value} {ev:ν->Value} {R:Type}
theorem PD (ek:κ->Value) (ev:ν->Value):∀(k:Nat) (l:List (κ×ν)) (e:MapEntry),e∈F_ ek ev k l->∃i a,l[i]? = some a∧e=⟨ek a.1,ev a.2,k+i⟩
 |_,[],e,h=>by simp[F_]at h
 | k, x :: xs, e, h => by
  rcases zAl.1 h with rfl|h
  ·exact⟨0,x,rfl,rfl⟩
  ·obtain⟨i,a,b,c⟩:=PD ek ev (k+1) xs e h;exact⟨i+1,a,b,by rw[c,show k+1+i=k+(i+1) by omega]⟩
theorem PC (ek:κ->Value) (ev:ν->Value):∀(k:Nat) (l:List (κ×ν)) (i:Nat) (a:κ×ν),l[i]? = some a->(⟨ek a.1,ev a.2,k+i⟩:MapEntry)∈F_ ek ev k l
 |_,[],i,a,h=>by simp at h
 |k,x::xs,0,a,h=>by simp at h;subst h;exact zAa
 |k,x::xs,i+1,a,h=>by
  have:=PC ek ev (k+1) xs i a (by simpa using h);rw[show k+1+i=k+(i+1) by omega]at this;exact zAg _ this
theorem Rz (ek:κ->Value) (ev:ν->Value):∀(k:Nat) (l:List (κ×ν)),(F_ ek ev k l).map (·.born)=List.range' k l.length
 |_,[]=>rfl
 |k,x::xs=>by simp[F_,Rz ek ev (k+1) xs,List.range'_succ]
def Ng (a:κ×ν->Option R->Option R) (K:Option R) (l:List (κ×ν)):Option R:=l.foldr a K
def rem (l:List (κ×ν)) (a:List Nat):List (κ×ν):=((List.range l.length).filter (λi=> !a.contains i)).filterMap (λi=>l[i]?)
theorem Om:∀l:List (κ×ν),(List.range l.length).filterMap (λi=>l[i]?)=l
 | []=>rfl
 |x::xs=>by
  rw[zAh,List.range_succ_eq_map,List.filterMap_cons];simp only[List.getElem?_cons_zero,List.filterMap_map];congr 1;have:=Om xs;simpa [Function.comp_def]using this
theorem adf (l:List (κ×ν)):rem l []=l:=by
 unfold rem;rw[List.filter_eq_self.2 (by simp),Om]
theorem aaf {l:List (κ×ν)} {a:List Nat} {i:Nat} {m:κ×ν} (k:l[i]? = some m) (t:i∉a):∃n o,rem l a=n++m::o∧rem l (a++[i])=n++o:=by
 have g:=bL k;have d:i∈(List.range l.length).filter (λi=> !a.contains i):=by simp[g,t]
 obtain⟨A,B,b⟩:=List.append_of_mem d;have c:((List.range l.length).filter (λi=> !a.contains i)).Nodup:=List.Pairwise.filter _ List.nodup_range;rw[b]at c;have r:i∉A:=λh=>by
  have:=(List.nodup_append.1 c).2.2 i h i zAa;exact this Z
 have s:i∉B:=λh=>by
  have:=(zBb.1 (List.nodup_append.1 c).2.1).1;exact this h
 refine⟨A.filterMap (λi=>l[i]?),B.filterMap (λi=>l[i]?),?_,?_⟩
 ·unfold rem;rw[b,List.filterMap_append,List.filterMap_cons,k]
 ·unfold rem;have e:(List.range l.length).filter (λj=> !(a++[i]).contains j)=((List.range l.length).filter (λj=> !a.contains j)).filter (λj=>decide (j≠i)):=by
   rw[List.filter_filter];apply List.filter_congr;intro j _;rw[Bool.eq_iff_iff];simp[and_comm]
  rw[e,b,List.filter_append,List.filter_cons];have p:A.filter (λj=>decide (j≠i))=A:=List.filter_eq_self.2 (λj f=>by simp;rintro rfl;exact r f);have q:B.filter (λj=>decide (j≠i))=B:=List.filter_eq_self.2 (λj f=>by simp;rintro rfl;exact s f);rw[p,q,List.filterMap_append.symm];simp
theorem Ol {c:κ×ν->Option R->Option R} (f:∀a b x,c a (c b x)=c b (c a x)) (K:Option R) (d:κ×ν) (e:List (κ×ν)):∀g:List (κ×ν),Ng c K (g++d::e)=c d (Ng c K (g++e))
 | []=>rfl
 |x::xs=>by
  have:=Ol f K d e xs;unfold Ng at this ⊢;rw[List.cons_append,List.cons_append,List.foldr_cons,List.foldr_cons,this,f]
end
section
variable {P:Program} {rd:Option Nat} {c:yO} {n:Sz} {σ σ':Fr} {M L M' L':List bI} {Q:Exit->Act->World->Prop} {ops:Array Oper} {rest:List Oper}
variable {d:Option Tmp} {ty:TypeId} {pos:String} {aft:Array Edge} {g:Option (Nat×Bool)}
variable {κ ν:Type} [DecidableEq κ] {ek:κ->Value} {ev:ν->Value} {R:Type}
theorem aN.range [eF P] (j:Nat) {T f h:TypeId} {q r:Nat} {z:Value} {x:Operand} {m:Nat} {l:List (κ×ν)} (p:Go.Sx.ev σ x=some (.map (some m))) (o:M[j]? = some (Mp ek ev m l)) (k:eF.tab P T=some ⟨.map f h,q,r,z⟩):
  aN P c n σ M L ⟨d,.range T x,ty,pos,aft,g⟩ (λb:Nat=> .pointer (some ⟨b,0,none⟩)) (λb=>It b m l.length []::M) (λ_=>L):=λa w s t=>by
 obtain⟨F,i⟩:=t.res o;have e:(execOp a.eval ⟨d,.range T x,ty,pos,aft,g⟩).run P w = .ok (.value (.pointer (some ⟨w.heap.size,0,none⟩))) (w.alloc (.mapIter (some m) l.length #[] l.length)):=by
  simp[execOp,s.eval p,run_range_map w T f h m _ _ (eF.ok k).und i.2]
 simp only[Oper.wp,e,Oper.upon];exact⟨w.heap.size,rfl,t.push _ ⟨rfl,heap_alloc_new w _⟩⟩
def IG (ek:κ->Value) (ev:ν->Value) (l:List (κ×ν)):Option Nat->Value
 |none=> .tuple #[.bool false]
 |some i=>match l[i]? with
  |some a=> .tuple #[.bool true,ek a.1,ev a.2]
  |none=>undef
def afB (b:Nat) (a:List Nat):Option Nat->Prop
 |none=>∀i,i<b->i∈a
 |some i=>i<b∧i∉a
def Vr (M:List bI) (f b m e:Nat) (a:List Nat):Option Nat->List bI
 |none=>M
 |some i=>M.set f (It b m e (a++[i]))
theorem St.pureL {w:World} {p:Prop} (hp:p) (t:St c M L w):St c M (ad_ p::L) w:=by
 obtain⟨ho,F,hF,hL⟩:=t;refine⟨ho,F,hF,λf hf=> ?_⟩
 rcases zAl.1 hf with rfl|hf
 ·exact hp
 ·exact hL f hf
theorem aN.next (jm ji:Nat) {x:Operand} {b m:Nat} {l:List (κ×ν)} {seen:List Nat} (hx:Go.Sx.ev σ x=some (.pointer (some ⟨b,0,none⟩))) (hf:M[jm]? = some (Mp ek ev m l)) (hi:M[ji]? = some (It b m l.length seen)):
  aN P c n σ M L ⟨d,.next x false,ty,pos,aft,g⟩ (IG ek ev l) (Vr M ji b m l.length seen) (λo=>ad_ (afB l.length seen o)::L):=λa w s t=>by
 obtain⟨F,hF⟩:=t.res hf;obtain⟨G,hG⟩:=t.res hi;have hold:∀e∈(F_ ek ev 0 l).toArray.toList,e.born<l.length:=λe he=>by
  obtain⟨i,kv,h1,h2⟩:=PD ek ev 0 l e (by simpa using he);rw[h2];have:=bL h1;simp;omega
 rcases run_next_at (P:=P) w ty b m l.length l.length seen.toArray (F_ ek ev 0 l).toArray l.length hG.2 hF.2 hold (zAd _)with⟨h0,hr⟩|⟨e,he,w1,hw1,hr⟩
 ·have hrun:(execOp a.eval ⟨d,.next x false,ty,pos,aft,g⟩).run P w = .ok (.value (.tuple #[.bool false])) w:=by
   simp[execOp,s.eval hx,hr]
  simp only[Oper.wp,hrun,Oper.upon];refine⟨none,rfl,t.pureL λi hi'=> ?_⟩
  obtain⟨kv,hkv⟩:∃kv,l[i]? = some kv:=⟨_,zA0 hi'⟩
  have:=all_seen _ _ h0 _ (by simpa using PC ek ev 0 l i kv hkv);simpa using this
 ·have hml:=_root_.Go.mem_left he;obtain⟨i,kv,h1,h2⟩:=PD ek ev 0 l e (by simpa using hml.1);subst h2;rw[Nat.zero_add]at hr hml;have hrun:(execOp a.eval ⟨d,.next x false,ty,pos,aft,g⟩).run P w = .ok (.value (.tuple #[.bool true,ek kv.1,ev kv.2])) (setBlock w1 b (.mapIter (some m) l.length (seen.toArray.push i) l.length)):=by
   simp[execOp,s.eval hx,hr]
  simp only[Oper.wp,hrun,Oper.upon];have t1:St c M L w1:=by
   rcases hw1 with rfl|rfl
   ·exact t
   ·exact t.ext ((Below.refl _ _).drew)
  refine⟨some i,by simp[IG,h1],St.pureL ⟨bL h1,by simpa using hml.2⟩ ?_⟩
  refine t1.upd hi Z Z Z (by simp[setBlock]) λF hF _=>⟨λk _ hk=> ?_,F,⟨hF.1,?_⟩,λ_ h=> .inl h⟩
  ·simp only[setBlock];rw[zAz (λe=>hk (by subst e;exact hF.1))]
  ·simp only[setBlock];rw[zB6 (zA9.1 hF.2).1];simp
theorem aN.entry (A z:Nat) {x:Operand} {b m i:Nat} {l:List (κ×ν)} {f:List Nat} {e:κ×ν} (j:l[i]? = some e) (y:Go.Sx.ev σ x=some (.pointer (some ⟨b,0,none⟩))) (q:M[A]? = some (Mp ek ev m l)) (r:M[z]? = some (It b m l.length (f++[i]))):
  aN P c n σ M L ⟨d,.entry x,ty,pos,aft,g⟩ (λ_:Unit=> .tuple #[ek e.1,ev e.2]) (λ_=>M) (λ_=>L):=λa w s t=>by
 obtain⟨F,o⟩:=t.res q;obtain⟨G,p⟩:=t.res r;have k:=PC ek ev 0 l i e j;rw[Nat.zero_add]at k;have u:((F_ ek ev 0 l).toArray.toList.map (·.born)).Nodup:=by
  simp only[Rz];exact List.nodup_range'
 have v:=run_entry_at (P:=P) w b m l.length f.toArray (F_ ek ev 0 l).toArray l.length ⟨ek e.1,ev e.2,i⟩ (by rw[p.2];simp) o.2 (by simpa using k) u;have h:(execOp a.eval ⟨d,.entry x,ty,pos,aft,g⟩).run P w = .ok (.value (.tuple #[ek e.1,ev e.2])) w:=by
  simp[execOp,s.eval y,v]
 simp only[Oper.wp,h,Oper.upon];exact⟨(),by first|rfl|trivial,t⟩
theorem aaX {G:Act->World->Prop} (σ':Fr) (M' L':List bI) (f:BC σ σ') (e:bA M M') (b:aG [] L L') (h:J c n σ' M' L' G):J c n σ M L G:=λa w s t=>h a w (s.weak f) (t.weakE e b)
theorem Td {e:TypeId} {d:TypeDesc} (p:P.underlying e=some d) (m:∀b k w,(Instr.checkKey b 10000 e (ek k)).run P w = .ok () w) (o:∀a b,Instr.sameNow d (ek a) (ek b)=none)
  (r:∀a b w,(Op.equal e (ek a) (ek b)).run P w = .ok (decide (a=b)) w) (f:∀k,Instr.sameBits 10000 (ek k) (ek k)=true):Lh P e ek:=by
 refine⟨m,λ{ν'} ev' k l w=> ?_,f⟩
 have j:∀(l:List (κ×ν')) (i:Nat),(Instr.findAsking e (ek k) (F_ ek ev' i l) i).run P w = .ok (WM ev' k i l) w:=by
  intro l
  induction l with
  |nil=>intro i;simp[F_,WM,Instr.findAsking]
  |cons x q t=>
   intro i;simp only[F_,WM,Instr.findAsking];simp[r];by_cases h:k=x.1
   ·simp[h]
   ·simp[h,t]
 unfold Instr.findKey;cases l with
 |nil=>simp[F_,WM,Instr.findNow,run_underlying p w]
 |cons x q=>
  have s:Instr.findNow d (ek k) (F_ ek ev' 0 (x::q)) 0=none:=by simp[F_,Instr.findNow,o]
  simp[run_underlying p w,s,j]
def XT {R:Type} (c:yO) (n:Sz) (σ:Fr) (M L:List bI) (x:Option R) (r:R) (a:Act) (w:World):Prop:=x=some r∧HJ n σ a∧St c M L w
theorem Tb {R:Type} {x:Option R} {r:R} (h:x=some r) (e:BC σ' σ) (b:bA M' M) (a:aG [] L' L):J c n σ' M' L' (XT c n σ M L x r):=λ_ _ s t=>⟨h,s.weak e,t.weakE b a⟩
theorem Wi (p:κ×ν->Option R->Option R) {K:Option R} {r:R} (O s:Nat) {b m:Nat} {l:List (κ×ν)} (hc:∀a b x,p a (p b x)=p b (p a x)) (h:Ng p K l=some r)
  (hf:M[O]? = some (Mp ek ev m l)) (U:M[s]? = some (It b m l.length [])) (af:Nat.beq s O=false) {t0 S T:Tmp} (hx:lk σ t0=some (.pointer (some ⟨b,0,none⟩))) (ab:Nat.blt S n.sz=true) (E:Nat.blt T n.sz=true)
  {id ex:Nat} {y1 y2:TypeId} {q1 q2:String} {f1 f2:Array Edge} {y:Code}
  (C:∀(t:κ×ν) (i:Nat) (k:List Nat) (x:Option R),l[i]? = some t->p t x=some r->
   J c n ((T,.bool true)::(S,.tuple #[.bool true,ek t.1,ev t.2])::σ) (M.set s (It b m l.length (k++[i]))) L (y.wpr rd P (Exit.then (XT c n σ (M.set s (It b m l.length (k++[i]))) L x r) Q)))
  (V:∀k,K=some r->J c n ((T,.bool false)::(S,.tuple #[.bool false])::σ) (M.set s (It b m l.length k)) L (Q (.exit ex))):
  J c n σ M L ((Code.loop (Code.seq (Code.region id [⟨some S,.next (.tmp t0) false,y1,q1,f1,none⟩,⟨some T,.extract (.tmp S) 0,y2,q2,f2,none⟩].toArray false) (Code.seq (Code.cond (.tmp T) .skip (.exit ex)) y))).wpr rd P Q):=by
 have z:=bL U;have ae:O≠s:=λe=>by subst e;simp at af
 have H:M.set s (It b m l.length [])=M:=by
  apply List.ext_getElem?;intro q;by_cases eq:q=s
  ·subst eq;rw[zAk z,U]
  ·rw[zAx (Ne.symm eq)]
 refine XK (X:=List Nat) (λk=>k.Nodup∧(∀i∈k,i<l.length)∧Ng p K (rem l k)=some r) (λ_=>σ) (λk=>M.set s (It b m l.length k)) (λ_=>L) (λk=>l.length - k.length) [] ⟨List.nodup_nil,by simp,by rw[adf];exact h⟩ (BC.refl _) (by rw[H];exact bA.refl _) (λ_ h=>h) ?_;rintro k ⟨G,F,v⟩;have ac:(M.set s (It b m l.length k))[O]? = some (Mp ek ev m l):=by rw[zAx (Ne.symm ae)];exact hf
 have ad:(M.set s (It b m l.length k))[s]? = some (It b m l.length k):=zAk z;refine aK (aO (aH (aN.next O s (x:= .tmp t0) hx ac ad) ab λo=> ?_));refine adY zAa λho=> ?_;refine adZ (M':=Vr (M.set s (It b m l.length k)) s b m l.length k o) (L':=L) ?_ (BC.refl _) (bA.refl _) (λf hf=>zAg _ hf);cases o with
 | none =>
  refine aC (AL (vs:=[.bool false]) (by simp[IG,lk,Go.Sx.ev]) Z) E (eN (Cd (aK (KC (by simp[lk,Go.Sx.ev]) (qC (eZ (eZ ?_)))))));refine V k ?_;have:rem l k=[]:=by
   unfold rem;rw[List.filter_eq_nil_iff.2 (λi U=>by simpa using ho i (by simpa using U))];rfl
  rw[this]at v;exact v
 | some i =>
  obtain⟨W,Y⟩:=ho;obtain⟨t,A⟩:∃t,l[i]? = some t:=⟨_,zA0 W⟩
  have N:IG ek ev l (some i) = .tuple #[.bool true,ek t.1,ev t.2]:=by simp[IG,A]
  obtain⟨l1,l2,e1,e2⟩:=aaf A Y;have B:p t (Ng p K (rem l (k++[i])))=some r:=by
   rw[e2,<-Ol hc K t l2 l1,<-e1];exact v
  have aa:Vr (M.set s (It b m l.length k)) s b m l.length k (some i)=M.set s (It b m l.length (k++[i])):=by simp[Vr]
  rw[N,aa];refine aC (AL (vs:=[.bool true,ek t.1,ev t.2]) (by simp[lk,Go.Sx.ev]) Z) E (eN (Cd (aK (Uw (by simp[lk,Go.Sx.ev]) (dM (Cd ?_))))));refine XL (C t i k _ A B) λa w hw=>Jg (λe a' w' q=> ?_) hw;cases e with
  | normal =>
   obtain⟨ai,ag,ah⟩:=q;refine⟨k++[i],⟨?_,?_,ai⟩,?_,ag,ah⟩
   ·rw[List.nodup_append];exact⟨G,by simp,λa ha b D=>by simp at D;subst D;rintro rfl;exact Y ha⟩
   ·intro j u;rcases List.mem_append.1 u with u|u
    ·exact F j u
    ·simp at u;subst u;exact W
   ·have:k.length<l.length:=by
     have I:(k++[i]).length<=(List.range l.length).length:=by
      apply List.Nodup.length_le_of_subset
      ·rw[List.nodup_append];exact⟨G,by simp,λa ha b D=>by simp at D;subst D;rintro rfl;exact Y ha⟩
      ·intro j u;rcases List.mem_append.1 u with u|u
       ·simpa using F j u
       ·simp at u;subst u;simpa using W
     simp at I;omega
    simp;omega
  |exit id=>exact q
  |goto l=>exact q
  |ret=>exact q
  |panic ch=>exact q
  |outgrown=>exact q
end
end Go.Sx
end
namespace Go.Sx
open Go.RowKit
section
variable {P:Program} {rd:Option Nat} {c:yO} {n:Sz} {σ σ':Fr} {M L M' L':List bI} {Q:Exit->Act->World->Prop} {ops:Array Oper} {rest:List Oper} {K:Act->World->Prop} {G:Act->World->Prop}
variable {d:Option Tmp} {D:Nat} {ty:TypeId} {pos:String} {aft:Array Edge} {g:Option (Nat×Bool)}
variable {α β:Type} {e:fE α} {r:fU α}
def HG (P:Program) (f:FuncId) (a:Array Value) (Min L:List bI) {A:Type} (b:A->Value) (h:A->List bI->List bI):Prop:=
 ∀c:yO,St c Min L c.w0->Calls P f a c.w0 λe i=>∃x:A,e = .returned (b x)∧St c (h x []) [] i
theorem HG.of {A:Type} {b:A->Value} {q:A->List bI->List bI} {f:FuncId} {i:Func} {a:Code} {vs:List Value} {m:Nat} {Min:List bI}
  (u:P.funcs[f]? = some i) (s:i.body=some a) (x:i.ntmps=m) (w:Nat.ble vs.length m=true)
  (h:∀c:yO,J c ⟨m,[]⟩ (AR 0 vs) Min L (a.wpr none P (iV P i (QJ c b q (λ_ l=>l))))):HG P f vs.toArray Min L b q:=λc t=>by
 have o:vs.length<=m:=by simpa using w
 refine vC u s (h c _ _ ⟨rfl,by simp[x,o],?_⟩ t);intro t v y;obtain⟨_,j⟩:=FX vs 0 t v y;rw[Nat.sub_zero]at j;have p:t<vs.length:=by
  rcases zAm t vs.length with k|k
  ·exact k
  ·rw[zAt k]at j;cases j
 rw[zBd (by simpa using p)];simpa using j
theorem Yb {w S:World} {l H v:List bI} {F:Nat->Nat->Prop} {U:Nat->Prop} (y:DW c.O c.w0 w) (o:Own c w (l++H) F) (Y:∀f∈L,f.p w (G_ c F))
  (t:St ⟨w,U,λk=>∃i,i<l.length∧F i k⟩ v [] S):St c (v++H) L S:=by
 obtain⟨s,T,u,_⟩:=t;have C:=s.size;have x:∀k,k<w.heap.size->(∀i,i<l.length->¬F i k)->S.heap[k]? = w.heap[k]? := λk a hn=>s.block k a (fun⟨i,B,o⟩=>hn i B o);have b:∀i k,T i k->w.heap.size<=k∨∃j,j<l.length∧F j k:=λi k a=>(u.rng i k a).1;refine⟨⟨s.os.trans y.os,s.tape.trans y.tape,s.output.trans y.output,zB0 y.size C,λk a W=> ?_⟩,
  λi k=>(i<v.length∧T i k)∨(v.length<=i∧F (i - v.length+l.length) k),⟨?_,?_,?_⟩,λf hf=> ?_⟩
 ·refine(x k (zAj a y.size) (λi _ I=> ?_)).trans (y.block k a W);rcases(o.rng i k I).1 with h|h
  ·omega
  ·exact W h
 ·intro i m E;by_cases B:i<v.length
  ·rw[zAc B]at E;exact bI.same (u.res i m E) (λk a=> .inl ⟨B,a⟩) (λ_ _ _=>rfl)
  ·rw[zAb (by omega)]at E;have R:(l++H)[i - v.length+l.length]? = some m:=by
    rw[zAb (by omega),Nat.add_sub_cancel];exact E
   exact bI.same (o.res _ m R) (λk a=> .inr ⟨by omega,a⟩) (λk a N=>x k N (λj X J=>by have:=o.dis _ _ k J a;omega))
 ·rintro i k (⟨_,a⟩|⟨_,a⟩)
  ·refine⟨?_,(u.rng i k a).2⟩
   rcases b i k a with h|⟨j,_,h⟩
   ·exact .inl (zB0 y.size h)
   ·exact(o.rng j k h).1
  ·exact⟨(o.rng _ k a).1,zAj (o.rng _ k a).2 C⟩
 ·rintro i j k (⟨B,z⟩|⟨B,z⟩) (⟨X,A⟩|⟨X,A⟩)
  ·exact u.dis i j k z A
  ·rcases b i k z with h|⟨q,hq,h⟩
   ·have:=(o.rng _ k A).2;omega
   ·have:=o.dis _ _ k h A;omega
  ·rcases b j k A with h|⟨q,hq,h⟩
   ·have:=(o.rng _ k z).2;omega
   ·have:=o.dis _ _ k h z;omega
  ·have:=o.dis _ _ k z A;omega
 ·refine f.mono (Y f hf) λk a N=>⟨⟨a.1,?_⟩,x k N (λi _=>a.2 i)⟩
  rintro i (⟨_,h⟩|⟨_,h⟩)
  ·rcases b i k h with V|⟨q,_,V⟩
   ·omega
   ·exact a.2 q V
  ·exact a.2 _ h
theorem Wn {w:World} {a u t:List bI} {F:Nat->Nat->Prop} (o:Own c w (a++u) F) (y:∀f∈L,f.p w (G_ c F)) (B:aG u L t):
  St ⟨w,λk=>∀i,i<a.length->¬F i k,λk=>∃i,i<a.length∧F i k⟩ a t w:=by
 refine⟨DW.refl _,λi k=>i<a.length∧F i k,⟨λi m s=> ?_,λi k b=>⟨.inr ⟨i,b⟩,(o.rng i k b.2).2⟩,λi j k v x=>o.dis i j k v.2 x.2⟩,λf z=> ?_⟩
 ·have l:i<a.length:=by
   rcases zAm i a.length with q|q
   ·exact q
   ·rw[zAt q]at s;cases s
  exact bI.same (o.res i m (by rw[zAc l];exact s)) (λk b=>⟨l,b⟩) (λ_ _ _=>rfl)
 ·refine B f z w (G_ c F) (λj k=>F (j+a.length) k) _ y (λj m A=> ?_) (λk b=> ?_) (λj k b=> ?_)
  ·exact o.res _ m (by rw[zAb (by omega),Nat.add_sub_cancel];exact A)
  ·exact⟨.inl λi _=>b.2 i,λi l=>b.2 i l.2⟩
  ·exact⟨.inl λi l h=>by have:=o.dis _ _ k h b;omega,λi l=>by have:=o.dis _ _ k l.2 b;omega⟩
theorem Ey {A:Type} {k:A->Value} {m:A->List bI->List bI} {f:FuncId} {p:List Operand} {vs:List Value} {b:Array TypeId} {q Min Mr:List bI} (z:aV P f)
  (C:HG P f vs.toArray Min q k m) (H:p.map (ev σ)=vs.map some) (y:bA M (Min++Mr)) (v:aG Mr L q) (o:∀x l,m x l=m x []++l):
  aN P c n σ M L ⟨d,.call ⟨.value (.func f),p.toArray,b⟩,ty,pos,aft,g⟩ k (λx=>m x Mr) (λ_=>L):=λa w s t=>by
 have j:(execOp a.eval ⟨d,.call ⟨.value (.func f),p.toArray,b⟩,ty,pos,aft,g⟩).run P w = .ok (.enter f vs.toArray) w:=by
  have e:=evs s H;simp[execOp,resolve,Act.eval,Deferred.ofValue,invoke,z _ w,e]
 simp only[Oper.wp,j,Oper.upon];obtain⟨B,F,u,i⟩:=t.weak (L':=L) y (λ_ h=>h);refine(C _ (Wn u i v)).mono ?_;rintro e I ⟨x,rfl,E⟩;refine⟨x,rfl,?_⟩
 rw[o];exact Yb B u i E
def aaZ {A B:Type} (c:yO) (C:A->Prop) (a:A->B->Value) (f b:A->B->List bI) (e:Ending) (w:World):Prop:=∃x y,C x∧e = .returned (a x y)∧St c (f x y) (b x y) w
theorem LN {j:Func} {a:List Value} {m:Nat} (l:j.ntmps=m) (k:Nat.ble a.length m=true):HJ ⟨m,[]⟩ (AR 0 a) {tmps:=a.toArray++Array.replicate (j.ntmps - a.toArray.size) undef,defers:=[]}:=by
 have h:a.length<=m:=by simpa using k
 refine⟨rfl,by simp[l,h],?_⟩
 intro t v o;obtain⟨_,b⟩:=FX a 0 t v o;rw[Nat.sub_zero]at b;have i:t<a.length:=by
  rcases zAm t a.length with f|f
  ·exact f
  ·rw[zAt f]at b;cases b
 rw[zBd (by simpa using i)];simpa using b
structure Ca (P:Program) (c:yO) (n:Sz) (σ:Fr) (M L:List bI) (o:Oper) (f:FuncId) (vs:List Value):Prop where
 run:∀a w,HJ n σ a->St c M L w->(execOp a.eval o).run P w = .ok (.enter f vs.toArray) w
theorem Ca.fn {f:FuncId} {xs:List Operand} {vs:List Value} {b:Array TypeId} (h:aV P f) (i:xs.map (ev σ)=vs.map some):Ca P c n σ M L ⟨d,.call ⟨.value (.func f),xs.toArray,b⟩,ty,pos,aft,g⟩ f vs:=⟨λa w s _=>by
 have e:=evs s i;simp[execOp,resolve,Act.eval,Deferred.ofValue,invoke,h _ w,e]⟩
theorem Wg {f:FuncId} {t:Tmp} {h:List Operand} {us cs vs:List Value} {b:Array TypeId} (j:aV P f) (k:lk σ t=some (.func (.func f) #[] cs.toArray)) (m:h.map (ev σ)=us.map some) (l:us++cs=vs):Ca P c n σ M L ⟨d,.call ⟨.value (.tmp t),h.toArray,b⟩,ty,pos,aft,g⟩ f vs:=⟨λa w s _=>by
 have e:=evs s m;have i:a.eval (.tmp t) = .func (.func f) #[] cs.toArray:=s.eval (x:= .tmp t) k;subst l;simp[execOp,resolve,i,Deferred.ofValue,invoke,j _ w,e]⟩
def MX (P:Program) (c:yO) (n:Sz) (σ:Fr) (M L:List bI) (b:Func) (v:Value):Prop:=∀a w,HJ n σ a->St c M L w->(results b a.tmps).run P w = .ok v w
variable {fn:Func}
theorem MX.r0 (b:fn.results = #[]):MX P c n σ M L fn (.tuple #[]):=λa w _ _=>by simp[results,b]
theorem MX.r1 {f:ResultVar} {h:Value} (b:fn.results = #[f]) (i:RV P c n σ M L f h):MX P c n σ M L fn h:=λa w s t=>by
 have:=i a w s t;simp only[CO,b];simp[this]
theorem MX.r2 {i j:ResultVar} {k l:Value} (b:fn.results = #[i,j]) (f:RV P c n σ M L i k) (h:RV P c n σ M L j l):MX P c n σ M L fn (.tuple #[k,l]):=λa w s t=>by
 have f:=f a w s t;have h:=h a w s t;simp only[CO,b];simp[f,h]
theorem Dp {A B:Type} {m:Sz} {v:Value} {f:Exit} {C:A->Prop} {b:A->B->Value} {k j:A->B->List bI} (x:A) (y:B) (l:C x) (i:f = .ret∨f = .normal) (q:MX P c m σ' M L fn v) (u:v=b x y) (p:bA M (k x y)) (o:aG [] L (j x y)) (h:m.ds=[]:=by rfl):
  J c m σ' M L (iV P fn (aaZ c C b k j) f):=λa w s t=>by
 exact body_end i (s.defers.trans h) (q a w s t) ⟨x,y,l,by rw[u],t.weakE p o⟩
end
section
variable {P:Program} {rd:Option Nat} {c:yO} {n:Sz} {σ σ':Fr} {M L M' L':List bI} {Q:Exit->Act->World->Prop} {ops:Array Oper} {rest:List Oper} {K:Act->World->Prop} {G:Act->World->Prop}
variable {d:Option Tmp} {D:Nat} {ty:TypeId} {pos:String} {aft:Array Edge} {g:Option (Nat×Bool)}
variable {α β:Type} {e:fE α} {r:fU α}
theorem QS (i:Nat) {k:Int} {vs:List Value} {xss:List (List α)} (hf:M[i]? = some (k_ e vs xss)) (h:0<=k∧k<xss.length):
  mQ M L (Ar e (at' vs k) (at' xss k)::M.set i (k_ e (vs.set k.toNat (.slice none 0 0)) (xss.set k.toNat []))) L:=λc w t=>by
 obtain⟨ho,F,hF,hL⟩:=t;obtain⟨hlen,G,g1,g2,g3⟩:=hF.res i _ hf;have hkl:k.toNat<vs.length:=by omega
 have hlt:i<M.length:=(List.getElem?_eq_some_iff.1 hf).1;have hrow:=g1 k.toNat _ _ (mG h.1 (by omega)) (mG h.1 h.2);refine⟨ho,λj q=>match j with|0=>G k.toNat q|j+1=>(j=i∧∃j',j'≠k.toNat∧G j' q)∨(j≠i∧F j q),⟨?_,?_,?_⟩,λf hf=> ?_⟩
 ·intro j m hm;cases j with
  |zero=>simp at hm;subst hm;exact hrow
  | succ j =>
   rw[List.getElem?_cons_succ]at hm;by_cases ej:j=i
   ·subst ej;rw[zAk hlt]at hm;cases hm;refine⟨by simp[hlen],λj' q=>j'≠k.toNat∧G j' q,λj' v xs hv hx=> ?_,λj' q hq=> .inl ⟨rfl,j',hq⟩,λj1 j2 q h1 h2=>g3 _ _ q h1.2 h2.2⟩
    by_cases e2:j'=k.toNat
    ·subst e2;rw[zAk hkl]at hv;rw[zAk (by omega)]at hx;cases hv;cases hx;exact⟨by simp,rfl,.inl ⟨rfl,rfl⟩⟩
    ·rw[zAx (Ne.symm e2)]at hv hx;exact bI.same (f:=Ar e v xs) (g1 j' v xs hv hx) (λq hq=>⟨e2,hq⟩) (λ_ _ _=>rfl)
   ·rw[zAx (Ne.symm ej)]at hm;exact bI.same (hF.res j m hm) (λq hq=> .inr ⟨ej,hq⟩) (λ_ _ _=>rfl)
 ·intro j q hq;cases j with
  |zero=>exact hF.rng i q (g2 _ q hq)
  |succ j=>
   rcases hq with⟨_,j',_,hq⟩|⟨_,hq⟩
   ·exact hF.rng i q (g2 _ q hq)
   ·exact hF.rng j q hq
 ·intro j1 j2 q h1 h2;cases j1 with
  | zero =>
   cases j2 with
   |zero=>rfl
   |succ j2=>
    rcases h2 with⟨_,j',hne,h2⟩|⟨hne,h2⟩
    ·exact absurd (g3 _ _ q h2 h1) hne
    ·exact absurd (hF.dis _ _ q h2 (g2 _ q h1)) hne
  | succ j1 =>
   cases j2 with
   |zero=>
    rcases h1 with⟨_,j',hne,h1⟩|⟨hne,h1⟩
    ·exact absurd (g3 _ _ q h1 h2) hne
    ·exact absurd (hF.dis _ _ q h1 (g2 _ q h2)) hne
   |succ j2=>
    congr 1;rcases h1 with⟨e1,j',_,h1⟩|⟨e1,h1⟩<;>rcases h2 with⟨e2,j'',_,h2⟩|⟨e2,h2⟩
    ·rw[e1,e2]
    ·exact absurd (hF.dis _ _ q h2 (g2 _ q h1)) e2
    ·exact absurd (hF.dis _ _ q h1 (g2 _ q h2)) e1
    ·exact hF.dis _ _ q h1 h2
 ·refine bI.same (hL f hf) (λq hq=>⟨hq.1,λj hj=> ?_⟩) (λ_ _ _=>rfl);cases j with
  |zero=>exact hq.2 i (g2 _ q hj)
  |succ j=>
   rcases hj with⟨_,j',_,hj⟩|⟨_,hj⟩
   ·exact hq.2 i (g2 _ q hj)
   ·exact hq.2 j hj
theorem QP (i j:Nat) {u:Value} {k:Int} {vs:List Value} {xss:List (List α)} {ys:List α} (a:Nat.beq i j=false) (b:M[i]? = some (k_ e (vs.set k.toNat (.slice none 0 0)) (xss.set k.toNat []))) (f:M[j]? = some (Ar e u ys)) (h:0<=k∧k<(xss.set k.toNat []).length):
  mQ M L ((M.set i (k_ e (vs.set k.toNat u) (xss.set k.toNat ys))).eraseIdx j) L:=by
 have:=yQ (L:=L) i j a b f h;rwa[List.set_set,List.set_set]at this
theorem NP {α:Type} [Inhabited α] (l:List α) {j k:Int} (y:α) (h:j.toNat≠k.toNat):at' (l.set j.toNat y) k=at' l k:=by
 rw[at',at',zA7,zA7,zAx h]
theorem BO [eF P] (i:Nat) {r:fU α} (f:e.Fits r) {x y:Operand} {u o:Value} {k j:Int} {vs:List Value} {a:List (List α)} {l b:List α} {T E:TypeId} {S U m s:Nat} {z t:Value} {v:TypeDesc} (N:ev σ x=some (at' vs k)) (O:ev σ y=some u) (H:M[i]? = some (k_ e (vs.set j.toNat o) (a.set j.toNat b))) (I:aD M L (Sl r u l))
  (F:eF.tab P T=some ⟨.slice E,S,U,z⟩) (C:eF.tab P E=some ⟨v,m,s,t⟩) (A:e.sz=m) (B:Nat.ble s 1024=true) (w:0<=k∧k<a.length) (J:((at' a k).length:Int)+l.length<=1099511627) (R:t.cells.size=m) (h:j.toNat≠k.toNat):
  aN P c n σ M L ⟨d,.call ⟨.builtin .append,#[x,y],#[T,T]⟩,ty,pos,aft,g⟩ (λp:Value=>p) (λp=>M.set i (k_ e ((vs.set j.toNat o).set k.toNat p) ((a.set j.toNat b).set k.toNat (at' a k++l)))) (λ_=>L):=by
 have q:at' (a.set j.toNat b) k=at' a k:=NP _ _ h;have:=sI (P:=P) (c:=c) (n:=n) (σ:=σ) (M:=M) (L:=L) (d:=d) (ty:=ty) (pos:=pos) (aft:=aft) (g:=g) (x:=x) (y:=y) (u:=u) (k:=k) (vs:=vs.set j.toNat o) (xss:=a.set j.toNat b) (ys:=l) i f (by rw[NP _ _ h];exact N) O H I F C A B (by simpa using w) (by rw[q];exact J) R;rwa[q]at this
theorem Ew (q:Nat) {vs:List Value} {a:List (List α)} {k j:Int} {u z:Value} (x:M[q]? = some (k_ e ((vs.set k.toNat u).set j.toNat z) a)) (i:k.toNat≠j.toNat) (h:0<=k∧k<a.length):∀c w,St c M L w->Go.Sx.one u=true:=λc w t=>by
 obtain⟨S,v,A,p,_⟩:=t.res x;have f:k.toNat<vs.length:=by simp at v;omega
 obtain⟨_,_,s⟩:=p k.toNat u _ (by rw[zAx (Ne.symm i),zAk f]) (zA0 (by omega));rcases s with⟨l,_⟩|⟨b,y,m,T,o,l,_⟩<;>(rw[l];rfl)
theorem Ux {A:Type} {b:A->Value} {M' L':A->List bI} {f:Op} (j:aN P c n σ M L ⟨none,f,ty,pos,aft,none⟩ b M' L') (h:∀x,J c n σ (M' x) (L' x) (wpList P ops Q rest)):
  J c n σ M L (wpList P ops Q (⟨none,f,ty,pos,aft,none⟩::rest)):=λa w s t=>
 nT Z (Mf (oT (λm l ⟨x,i,k⟩=>by subst i;exact h x _ l s k) (j a w s t)))
end
section
variable {P:Program} {rd:Option Nat} {c:yO} {n:Sz} {σ σ':Fr} {M L M' L':List bI} {Q:Exit->Act->World->Prop} {ops:Array Oper} {rest:List Oper} {K:Act->World->Prop} {G:Act->World->Prop}
variable {d:Option Tmp} {D:Nat} {ty:TypeId} {pos:String} {aft:Array Edge} {g:Option (Nat×Bool)}
variable {α β:Type} {e:fE α} {r:fU α}
theorem QE [eF P] (j:Nat) {T:TypeId} {s2:Nat} {z:Value} {dT:TypeDesc} {x y:Operand} {v u:Value} {i:Int} {m:List α} (yv:α) (hx:ev σ x=some (GD v (i.toNat*1))) (hy:ev σ y=some u) (hu:e.enc yv=[u]) (B:one u=true)
  (X:M[j]? = some (Ar e v m)) (hT:eF.tab P T=some ⟨dT,1,s2,z⟩) (N:e.sz=1) (h0:0<=i) (W:i<m.length):
  aN P c n σ M L ⟨none,.store T x y,ty,pos,aft,none⟩ (λ_:Unit=>undef) (λ_=>M.set j (Ar e v (m.set i.toNat yv))) (λ_=>L):=λa w s t=>by
 obtain⟨F,J⟩:=t.res X;have Y:i.toNat<m.length:=by omega
 have E:m[i.toNat]? = some m[i.toNat]:=zA0 Y;have H:m≠[]:=by intro e;subst e;simp at Y
 obtain⟨p,hp⟩:∃p,e.enc m[i.toNat]=[p]:=List.length_eq_one_iff.1 ((e.len _).trans N);have f:=Gv.cell J E (j:=0) (u:=p) (by rw[hp];rfl);rw[N,Nat.add_zero,Nat.mul_one]at f;rw[Nat.mul_one]at hx;have o:=Qt J H i.toNat;have I:(execOp a.eval ⟨none,.store T x y,ty,pos,aft,none⟩).run P w = .ok .skip (w.setCell (MY v i.toNat) u):=by
  simp only[execOp,s.eval hx,s.eval hy,GD];simp[EZ (eF.ok hT) Z B f o]
 simp only[Oper.wp,I,Oper.upon];refine⟨(),trivial,t.upd X Z Z Z (by simp[World.setCell]) λF J _=> ?_⟩
 obtain⟨hl,W,S⟩:=J;rcases S with⟨_,S⟩|⟨b,l,A,T',O,hv,C,hb,hk,hc,ht⟩
 ·exact absurd S H
 ·subst hv;have ha:MY (.slice (some ⟨b,l,none⟩) m.length A) i.toNat=⟨b,l+i.toNat,none⟩:=by simp[MY,fO]
  rw[ha];refine⟨λk _ U=>Below.heap_setCell _ _ _ _ (λe=>U (by simp only at e;subst e;exact C)),F,⟨by simpa using hl,?_,.inr ⟨b,l,A,T',O.setIfInBounds (l+i.toNat) u,by simp,C,?_,by simpa using hk,by simpa using hc,?_⟩⟩,λ_ h=> .inl h⟩
  ·rw[zK N hu,zA4];intro q V;rcases List.mem_or_eq_of_mem_set V with R|R
   ·exact zA4.1 W q R
   ·rw[R];exact B
  ·simp[World.setCell,Array.getElem?_modify,hb]
  ·rw[zK N hu,<-ht,Array.toList_setIfInBounds,zA2,<-take_set];congr 1;rw[List.drop_set,if_neg (by omega),Nat.add_sub_cancel_left]
theorem QD [eF P] (i:Nat) {T j:TypeId} {C:Nat} {z:Value} {m:TypeDesc} {x y:Operand} {b o:Nat} {cs:List Value} {v:Value} (A:ev σ x=some (.pointer (some ⟨b,o,none⟩)))
  (B:ev σ y=some v) (u:one v=true) (l:M[i]? = some (cJ b cs j)) (p:eF.tab P T=some ⟨m,1,C,z⟩) (q:Nat.blt o cs.length=true):
  aN P c n σ M L ⟨none,.store T x y,ty,pos,aft,none⟩ (λ_:Unit=>undef) (λ_=>M.set i (cJ b (cs.set o v) j)) (λ_=>L):=λa w s t=>by
 obtain⟨F,k⟩:=t.res l;have h:o<cs.length:=by simpa [zAw]using q
 have f:(execOp a.eval ⟨none,.store T x y,ty,pos,aft,none⟩).run P w = .ok .skip (w.setCell ⟨b,o,none⟩ v):=by
  simp[execOp,s.eval A,s.eval B,EZ (eF.ok p) Z u (cJ.cell k (zA0 h)) (Qv k o)]
 simp only[Oper.wp,f,Oper.upon];exact⟨(),trivial,t.store l v⟩
theorem Dq [eF P] (j q:Nat) {T:TypeId} {E:Nat} {z:Value} {m:TypeDesc} {x y:Operand} {v u:Value} {i:Int} {vs b:List Value} {f:List (List α)} (h:0<=i∧i<f.length) (B:ev σ x=some (GD v (i.toNat*1))) (C:ev σ y=some u)
  (p:M[j]? = some (Ar fE.raw v vs)) (A:M[q]? = some (k_ e b f)) (F:b.length=vs.length) (k:one u=true) (o:eF.tab P T=some ⟨m,1,E,z⟩):
  aN P c n σ M L ⟨none,.store T x y,ty,pos,aft,none⟩ (λ_:Unit=>undef) (λ_=>M.set j (Ar fE.raw v (vs.set i.toNat u))) (λ_=>L):=λa w s t=>by
 have l:b.length=f.length:=by obtain⟨_,h⟩:=t.res A;exact h.1
 exact QE j u B C Z k p o Z h.1 (by omega) a w s t
section
variable {l:List Oper} {m:List Nat} {k0:Nat} {H Bs:List (Nat×List bI×List bI)} {rs:List Nat}
theorem FG {A:Type} {j:A->Value} {M' L':A->List bI} {i:Nat} {b:Op}
  (o:l[i]? = some ⟨none,b,ty,pos,aft,none⟩) (v:Nat.blt i k0=true) (y:fI b=true) (z:aN P c n σ M L ⟨none,b,ty,pos,aft,none⟩ j M' L')
  (q:∀x,Do (before m i) (M' x) (L' x) Bs) (h:∀x,JR c n σ (M' x) (L' x) ((i,M,L)::H) Bs (RW P l.toArray Q (before m) (eM l) k0 rs)):
  JR c n σ M L H Bs (RW P l.toArray Q (before m) (eM l) k0 (i::rs)):=λa w X Y s t u k=>by
 have f:l.toArray[i]? = some ⟨none,b,ty,pos,aft,none⟩:=by simpa using o
 simp only[RW,f];rw[if_pos (by simp[Region.wanted])];refine .inr (.inr ⟨by simpa [zAw]using v,by simp[eM,o,y],oT ?_ (z a w s t)⟩);rintro C B ⟨x,rfl,p⟩;exact⟨(q x).use p k,h x _ B _ Y s p ⟨rfl,t,u⟩ k⟩
end
theorem NK {A B:Type} {f:FuncId} {j:Func} {b:Code} {k:List Value} {m:Nat} {q:Op} (C:A->Prop) (i:A->B->Value) (o l:A->B->List bI) (E:Ca P c n σ M L ⟨d,q,ty,pos,aft,g⟩ f k) (F:P.funcs[f]? = some j) (z:j.body=some b) (I:j.ntmps=m) (H:Nat.ble k.length m=true)
  (u:J c ⟨m,[]⟩ (AR 0 k) M L (b.wpr none P (iV P j (aaZ c C i o l)))):
  aN P c n σ M L ⟨d,q,ty,pos,aft,g⟩ (λx:{p:A×B // C p.1}=>i x.1.1 x.1.2) (λx=>o x.1.1 x.1.2) (λx=>l x.1.1 x.1.2):=λa w s t=>by
 have h:=E.run a w s t;simp only[Oper.wp,h,Oper.upon];refine(vC F z (u _ w (LN I H) t)).mono ?_;rintro e O ⟨x,y,v,rfl,N⟩;exact⟨⟨(x,y),v⟩,rfl,N⟩
theorem HE {A B:Type} {f:FuncId} {j:Func} {h:Code} {vs:List Value} {m:Nat} {o:Op} (C:A->Prop) (i:A->B->Value) (l k:A->B->List bI) (v:Ca P c n σ M L ⟨some D,o,ty,pos,aft,none⟩ f vs) (w:P.funcs[f]? = some j) (u:j.body=some h) (y:j.ntmps=m) (x:Nat.ble vs.length m=true) (t:Nat.blt D n.sz=true)
  (p:J c ⟨m,[]⟩ (AR 0 vs) M L (h.wpr none P (iV P j (aaZ c C i l k)))) (q:∀a b,C a->J c n ((D,i a b)::σ) (l a b) (k a b) (wpList P ops Q rest)):J c n σ M L (wpList P ops Q (⟨some D,o,ty,pos,aft,none⟩::rest)):=
 aH (NK C i l k v w u y x p) t fun⟨⟨a,b⟩,s⟩=>q a b s
section
variable {l:List Oper} {mm:List Nat} {k0:Nat} {H Bs:List (Nat×List bI×List bI)} {rs:List Nat}
theorem Uy {A B:Type} {i:Nat} {f:FuncId} {p:Func} {h:Code} {vs:List Value} {m:Nat} {q:Op} (C:A->Prop) (j:A->B->Value) (o k:A->B->List bI) (E:l[i]? = some ⟨some D,q,ty,pos,aft,none⟩) (F:Nat.blt i k0=true) (I:fI q=true) (y:Ca P c n σ M L ⟨some D,q,ty,pos,aft,none⟩ f vs) (z:P.funcs[f]? = some p) (x:p.body=some h) (O:p.ntmps=m) (N:Nat.ble vs.length m=true) (w:Nat.blt D n.sz=true)
  (u:∀a b,Do (before mm i) (o a b) (k a b) Bs) (s:J c ⟨m,[]⟩ (AR 0 vs) M L (h.wpr none P (iV P p (aaZ c C j o k)))) (t:∀a b,C a->JR c n ((D,j a b)::σ) (o a b) (k a b) ((i,M,L)::H) Bs (RW P l.toArray Q (before mm) (eM l) k0 rs)):
  JR c n σ M L H Bs (RW P l.toArray Q (before mm) (eM l) k0 (i::rs)):=
 zBh E F I (NK C j o k y z x O N s) w (λ_=>u _ _) fun⟨⟨a,b⟩,v⟩=>t a b v
end
theorem GA [eF P] {T E:TypeId} {k q u b A:Nat} {z B:Value} {f:TypeDesc} {x y:Operand} {v:Value} {o:Nat} {i:Int} (m:ev σ x=some (GD v o)) (p:ev σ y=some (.int .i64 i))
  (l:eF.tab P T=some ⟨.array k E,q,u,z⟩) (j:eF.tab P E=some ⟨f,b,A,B⟩) (_h3:(b==0)=false) (h:0<=i∧i<(k:Int)):
  Y P c n σ M L ⟨d,.indexAddr T x y,ty,pos,aft,g⟩ (GD v (o+i.toNat*b)):=λa w s t=>by
 simp[execOp,s.eval m,s.eval p,Instr.indexAt,asIntOf,(eF.ok l).run_und w,h,Instr.sureAddr,GD,(eF.ok j).run_size w,KL]
theorem dB {x:Operand} {b o:Nat} (f:ev σ x=some (.pointer (some ⟨b,o,none⟩))):Y P c n σ M L ⟨d,.nilCheck x,ty,pos,aft,g⟩ (.pointer (some ⟨b,o,none⟩)):=λa w s t=>by
 simp[execOp,s.eval f]
theorem QF [eF P] [Inhabited α] (j:Nat) {T:TypeId} {s2 k o q:Nat} {z:Value} {dT:TypeDesc} {x y:Operand} {v u:Value} {C:List Value} {i:Int} {p:List α} (N:α) (h:0<=i∧i<p.length) (hx:ev σ x=some (GD v (i.toNat*q+o))) (hy:ev σ y=some u)
  (hf:M[j]? = some (Ar e v p)) (hq:e.sz=q) (V:u.cells=C.toArray) (hk:C.length=k) (ho:Nat.ble (o+k) q=true) (J:e.enc N=(e.enc (at' p i)).take o++C++(e.enc (at' p i)).drop (o+k)) (X:C.all one=true) (hT:eF.tab P T=some ⟨dT,k,s2,z⟩):
  aN P c n σ M L ⟨none,.store T x y,ty,pos,aft,none⟩ (λ_:Unit=>undef) (λ_=>M.set j (Ar e v (p.set i.toNat N))) (λ_=>L):=λa w s t=>by
 subst hq hk;have ar:o+C.length<=e.sz:=by simpa using ho
 have hi:i.toNat<p.length:=by omega
 have t0:=t;obtain⟨ak,FF,hO,ag⟩:=t0;obtain⟨h0,A,hh⟩:=hO.res j _ hf;rcases hh with⟨_,rfl⟩|⟨b,m,W,T',f,rfl,Y,aa,ab,hc,ht⟩
 ·simp at hi
 -- the parts of the row
 obtain⟨l,B,E,I,hl⟩:∃l B E,p=l++B::E∧l.length=i.toNat:=⟨p.take i.toNat,p[i.toNat],p.drop (i.toNat+1),by rw[List.getElem_cons_drop,List.take_append_drop],by simp;omega⟩
 have ai:at' p i=B:=by
  rw[at',zA7,<-hl,I,zAb (zAd _)];simp
 rw[ai]at J;have eE:=e.len B;have eA:(cellsOf e l).length=i.toNat*e.sz:=by rw[fK,hl]
 have F:cellsOf e p=cellsOf e l++(e.enc B++cellsOf e E):=by rw[I];simp[cellsOf]
 have U:cellsOf e (p.set i.toNat N)=cellsOf e l++(e.enc N++cellsOf e E):=by
  have:p.set i.toNat N=l++N::E:=by rw[I,<-hl,List.set_append_right _ _ (zAd _)];simp
  rw[this];simp[cellsOf]
 have ap:p.length*e.sz<=W*e.sz:=zB9 _ ab;obtain⟨O,R,S,hH⟩:∃O R,f.toList=O++(cellsOf e l++(e.enc B++(cellsOf e E++R)))∧O.length=m:=by
  refine⟨f.toList.take m,(f.toList.drop m).drop (p.length*e.sz),?_,by simp;omega⟩
  have e1:cellsOf e l++(e.enc B++(cellsOf e E++(f.toList.drop m).drop (p.length*e.sz)))=f.toList.drop m:=by
   have:cellsOf e l++(e.enc B++(cellsOf e E++(f.toList.drop m).drop (p.length*e.sz)))=cellsOf e p++(f.toList.drop m).drop (p.length*e.sz):=by rw[F];simp
   rw[this,<-ht,List.take_append_drop]
  rw[e1,List.take_append_drop]
 have an:f.size=f.toList.length:=by simp
 have al:f.toList.take (m+(i.toNat*e.sz+o))=O++(cellsOf e l++(e.enc B).take o):=by
  have:f.toList=(O++(cellsOf e l++(e.enc B).take o))++((e.enc B).drop o++(cellsOf e E++R)):=by
   rw[S,zB2,zB2,<-zB2 ((e.enc B).take o),List.take_append_drop]
  rw[this];exact List.take_left' (by simp[hH,eA,eE];omega)
 have am:f.toList.drop (m+(i.toNat*e.sz+o)+C.length)=(e.enc B).drop (o+C.length)++(cellsOf e E++R):=by
  have:f.toList=(O++(cellsOf e l++(e.enc B).take (o+C.length)))++((e.enc B).drop (o+C.length)++(cellsOf e E++R)):=by
   rw[S,zB2,zB2,<-zB2 ((e.enc B).take (o+C.length)),List.take_append_drop]
  rw[this];exact List.drop_left' (by simp[hH,eA,eE];omega)
 have af:(i.toNat+1)*e.sz<=p.length*e.sz:=zB9 _ (by omega);have aq:(i.toNat+1)*e.sz=i.toNat*e.sz+e.sz:=by rw[zB3,Nat.one_mul]
 have ac:m+(i.toNat*e.sz+o)+0+C.length<=f.size:=by omega
 have ae:=run_storeCells_at P b (m+(i.toNat*e.sz+o)) T' C 0 f w aa ac (λu V=>rX (zA4.1 X u V));simp only[Nat.add_zero]at ae;have au:(eF.ok hT).run_size w=(eF.ok hT).run_size w:=rfl;have ad:(execOp a.eval ⟨none,.store T x y,ty,pos,aft,none⟩).run P w = .ok .skip (w.setRow b (f.toList.take (m+(i.toNat*e.sz+o))++C++f.toList.drop (m+(i.toNat*e.sz+o)+C.length)).toArray):=by
  simp[execOp,s.eval hx,s.eval hy,GD,MY,Instr.storeAt,Instr.sureAddr,storeVar,V,(eF.ok hT).run_size w,fO,ae]
 simp only[Oper.wp,ad,Oper.upon];refine⟨(),trivial,?_⟩
 refine KG ak hO ag hf Z Z Z (by simp) (λk _ aj=>setRow_other w b k _ (λe=>aj (by subst e;exact Y))) (F':=FF j) ?_ (λk hk=> .inl hk);have H:(e.enc N).length=e.sz:=e.len N;refine⟨by simpa using h0,?_,.inr ⟨b,m,W,T',_,by simp,Y,setRow_heap w b _ _ T' _ aa,by simpa using ab,?_,?_⟩⟩
 ·rw[U];rw[F]at A;simp only[List.all_append,zA1]at A ⊢;refine⟨A.1,?_,A.2.2⟩
  rw[J];simp only[List.all_append,zA1];refine⟨⟨zA4.2 λu V=>zA4.1 A.2.1 u (List.mem_of_mem_take V),X⟩,zA4.2 λu V=>zA4.1 A.2.1 u (List.mem_of_mem_drop V)⟩
 ·simp only[List.size_toArray,zAi,List.length_take,List.length_drop];omega
 ·show((f.toList.take _++C++f.toList.drop _).drop m).take ((p.set i.toNat N).length*e.sz)=_;rw[al,am,U,J,zA2];have e3:(O++(cellsOf e l++(e.enc B).take o)++C++((e.enc B).drop (o+C.length)++(cellsOf e E++R)))=O++((cellsOf e l++(((e.enc B).take o++C++(e.enc B).drop (o+C.length))++cellsOf e E))++R):=by simp
  rw[e3,<-hH,List.drop_left];refine List.take_left' ?_;have ah:(cellsOf e E).length=E.length*e.sz:=fK e E;have ao:p.length=i.toNat+1+E.length:=by rw[I,<-hl];simp;omega
  rw[J]at H;rw[zAi,zAi,H,eA,ah,ao,zB3,zB3,Nat.one_mul];omega
end
def Dfr (D:Nat):bI where
 p w F:=F D∧w.heap[D]? = some (.deferred (some []))
 mono:=fun⟨b,a⟩ h=>by
  obtain⟨c,d⟩:=h D b (zA9.1 a).1;exact⟨c,by rw[d];exact a⟩
structure XX where
 n:Nat
 σ:Fr
 ps:Array Tmp
 assign:Code
 body:Code
 D:Nat
def Lp (l:Nat) (R:XX) (i:LoopState) (a:Option Code):bI where
 p w F:=F l∧∃(fn:FuncId) (tmps:Array Value),tmps.size=R.n∧(∀t v,lk R.σ t=some v->tmps[t]? = some v)∧
  w.heap[l]? = some (.loop {state:=i,pending:=a,fn:=fn,tmps:=tmps,params:=R.ps,assign:=R.assign,body:=R.body,defers:=R.D})
 mono:=fun⟨c,fn,tmps,d,e,b⟩ h=>by
  obtain⟨f,g⟩:=h l c (zA9.1 b).1;exact⟨f,fn,tmps,d,e,by rw[g];exact b⟩
def ZF (D:Nat):Deferred:={target:= .collected D,args:= #[]}
def Aw (l:Nat):Value:= .func (.yield l) #[] #[]
section
variable {P:Program} {rd:Option Nat} {c:yO} {n m:Sz} {σ σ':Fr} {M L:List bI} {Q:Exit->Act->World->Prop} {K G:Act->World->Prop}
theorem St.putLp {w:World} {l i:Nat} {R:XX} {y d:LoopState} {b a:Option Code} (t:St c M L w) (v:M[i]? = some (Lp l R y b)) {r:Loop} (o:w.heap[l]? = some (.loop r)):
  St c (M.set i (Lp l R d a)) L (w.putObj l (.loop {r with state:=d,pending:=a})):=by
 refine t.upd v Z Z Z (by simp) λF j _=>⟨λk _ x=> ?_,F,?_,λ_ h=> .inl h⟩
 ·exact World.putObj_heap_other (λe=>x (by subst e;exact j.1))
 ·obtain⟨q,p,f,s,u,g⟩:=j;rw[g]at o;cases o;exact⟨q,p,f,s,u,World.putObj_heap_same (zA9.1 g).1⟩
def XY (P:Program) (n:Sz) (σ:Fr) (l D:Nat) (Q:Exit->Act->World->Prop) (e:Ending) (w:World):Prop:=
 ∀a,HJ ⟨n.sz,ZF D::n.ds⟩ σ a->rangePost (FR none) 0 P l Q a e w
theorem Qz {g:Operand} {ps:Array Tmp} {assign body:Code} {f:FuncId} {fn:Func} {code:Code} {cs:List Value} {k:Nat} (hb:aV P f) (hx:ev σ g=some (.func (.func f) #[] cs.toArray)) (hf:P.funcs[f]? = some fn) (hbd:fn.body=some code) (hn:fn.ntmps=k) (hm:Nat.ble (cs.length+1) k=true)
  (h:∀l D,J c ⟨k,[]⟩ (AR 0 (Aw l::cs)) (Lp l ⟨n.sz,σ,ps,assign,body,D⟩ .ready none::Dfr D::M) L (code.wpr none P (iV P fn (XY P n σ l D Q)))):
  J c n σ M L ((Code.rangeFunc g ps assign body).wpr none P Q):=λa w s t=>by
 refine wpIn_rangeFunc λfn' _=> ?_;have hev:a.eval g = .func (.func f) #[] cs.toArray:=s.eval hx;let W:World:=(w.alloc (.deferred (some []))).alloc (.loop {state:= .ready,pending:=none,fn:=fn',tmps:=a.tmps,params:=ps,assign:=assign,body:=body,defers:=w.heap.size});refine⟨_,_,_,{target:= .fn (.func f) cs.toArray,args:= #[Aw (w.heap.size+1)]},W,f,(Aw (w.heap.size+1)::cs).toArray,W,run_enterLoop_outer fn' a.tmps ps assign body,?_,λ_ _=>trivial,?_,(λhc=>by cases hc),?_⟩
 ·have hc:∀v,a.eval (.const v)=v:=λ_=>rfl;simp[resolve,hev,hc,Deferred.ofValue,Aw,W]
 ·simp[invoke,hb _ _,Aw]
 ·have t1:St c (Dfr w.heap.size::M) L (w.alloc (.deferred (some []))):=t.push _ ⟨rfl,heap_alloc_new w _⟩;have t2:St c (Lp (w.heap.size+1) ⟨n.sz,σ,ps,assign,body,w.heap.size⟩ .ready none::Dfr w.heap.size::M) L ((w.alloc (.deferred (some []))).alloc (.loop {state:= .ready,pending:=none,fn:=fn',tmps:=a.tmps,params:=ps,assign:=assign,body:=body,defers:=w.heap.size})):=by
   have:=t1.push (.loop {state:= .ready,pending:=none,fn:=fn',tmps:=a.tmps,params:=ps,assign:=assign,body:=body,defers:=w.heap.size}) (m:=Lp (w.heap.size+1) ⟨n.sz,σ,ps,assign,body,w.heap.size⟩ .ready none)
    ⟨by simp,fn',a.tmps,s.size,s.slot,by rw[<-World.size_alloc w (.deferred (some []))];exact heap_alloc_new _ _⟩
   exact this
  refine UX ((vC hf hbd (h (w.heap.size+1) w.heap.size _ _ (LN hn (by simpa using hm)) t2)).mono ?_);intro e w' he;exact he _ ⟨by simp[ZF,s.defers],s.size,s.slot⟩
theorem XN {f:Func} {b:Exit} {v:Value} {l D i:Nat} {R:XX} (e:b = .ret∨b = .normal) (j:M[i]? = some (Lp l R .ready none)) (q:MX P c m σ' M L f v) (h:J c ⟨n.sz,ZF D::n.ds⟩ σ (M.set i (Lp l R .exhausted none)) L (Q .normal)) (d:m.ds=[]:=by rfl):
  J c m σ' M L (iV P f (XY P n σ l D Q) b):=λa w s t=>by
 refine body_end e (s.defers.trans d) (q a w s t) λo r=> ?_;obtain⟨F,u,p,k,x,y,g⟩:=t.res j;exact⟨none,_,run_endLoop g (by simp),h o _ r (t.putLp j g)⟩
theorem aaW {f:Func} {b:Exit} {v:Value} {l D i:Nat} {R:XX} (e:b = .ret∨b = .normal) (j:M[i]? = some (Lp l R .done (some .ret))) (q:MX P c m σ' M L f v) (h:J c ⟨n.sz,ZF D::n.ds⟩ σ (M.set i (Lp l R .exhausted (some .ret))) L (Q .ret)) (d:m.ds=[]:=by rfl):
  J c m σ' M L (iV P f (XY P n σ l D Q) b):=λa w s t=>by
 refine body_end e (s.defers.trans d) (q a w s t) λo r=> ?_;obtain⟨F,u,p,k,x,y,g⟩:=t.res j;exact⟨some .ret,_,run_endLoop g (by simp),wpIn_ret (h o _ r (t.putLp j g))⟩
def XB (P:Program) (l:Nat) (G:Act->World->Prop) (a:Act) (w:World):Prop:=∃b,(Instr.beginRound l).run P w = .ok () b∧G a b
theorem Uv {l i:Nat} {R:XX} {b:Option Code} (e:M[i]? = some (Lp l R .ready b)) (h:J c n σ (M.set i (Lp l R .busy b)) L G):J c n σ M L (XB P l G):=λa w s t=>by
 obtain⟨F,j,g,f,k,o,d⟩:=t.res e;exact⟨_,run_beginRound d Z,h a _ s (t.putLp e d)⟩
def XZ (n:Sz) (σ:Fr) (d:Nat) (K:Act->World->Prop) (e:Ending) (w:World):Prop:=∃v,e = .returned v∧∀a,HJ n ((d,v)::σ) a->K a w
theorem Lg {l i d:Nat} {R:XX} {b:Option Code} (f:M[i]? = some (Lp l R .busy b)) (h:J c m ((d,.bool true)::σ') (M.set i (Lp l R .ready none)) L K):J c n σ M L (roundPost P l (XZ m σ' d K) .normal):=λa w s t=>by
 obtain⟨F,p,k,g,q,r,e⟩:=t.res f;exact⟨_,_,run_endRound none e,_,rfl,λj o=>h j _ o (t.putLp f e)⟩
theorem XO {l i d:Nat} {R:XX} {b:Option Code} (f:M[i]? = some (Lp l R .busy b)) (h:J c m ((d,.bool false)::σ') (M.set i (Lp l R .done (some .ret))) L K):J c n σ M L (roundPost P l (XZ m σ' d K) .ret):=λa w s t=>by
 obtain⟨F,p,k,g,q,r,e⟩:=t.res f;exact⟨_,_,run_endRound (some .ret) e,_,rfl,λj o=>h j _ o (t.putLp f e)⟩
def HY:List Tmp->List Value->Fr->Fr
 |t::ts,v::vs,σ=>HY ts vs ((t,v)::σ)
 |_,_,σ=>σ
theorem LM:∀(d:List Tmp) (f:List Value) (a:Array Value) (σ:Fr) (k:Nat),a.size=k->d.all (λt=>Nat.blt t k)=true->(∀t v,lk σ t=some v->a[t]? = some v)->
  ((d.zip f).foldl (λa (x:Tmp×Value)=>a.setIfInBounds x.1 x.2) a).size=k∧∀t v,lk (HY d f σ) t=some v->((d.zip f).foldl (λa (x:Tmp×Value)=>a.setIfInBounds x.1 x.2) a)[t]? = some v
 | [],_,a,σ,k,h1,_,h3=>by simpa [HY]using ⟨h1,h3⟩
 |_::_,[],a,σ,k,h1,_,h3=>by simpa [HY]using ⟨h1,h3⟩
 | p :: d, x :: f, a, σ, k, h1, h2, h3 => by
  simp only[List.all_cons,zA1]at h2;have g:p<k:=by simpa [zAw]using h2.1
  simp only[List.zip_cons_cons,List.foldl_cons,HY];refine LM d f _ _ k (by simp[h1]) h2.2 λt v b=> ?_;simp only[lk]at b;by_cases e:t=p
  ·subst e;simp at b;subst b;simp[h1,g]
  ·rw[oF e]at b;simp only[cond_false]at b;rw[zAz (Ne.symm e)];exact h3 t v b
theorem aaY {f:Array Oper} {b:List Oper} {t:Tmp} {z:List Operand} {g:List Value} {o:Array TypeId} {d:Nat} {B:TypeId} {y:String} {k:Array Edge} {l i:Nat} {R:XX} {j:List Tmp} (U:lk σ t=some (Aw l)) (W:z.map (ev σ)=g.map some) (T:M[i]? = some (Lp l R .ready none)) (r:R.ps=j.toArray) (q:g.length=j.length) (p:j.all (λt=>Nat.blt t R.n)=true) (S:Nat.blt d n.sz=true)
  (h:J c ⟨R.n,[]⟩ (HY j g R.σ) M L (R.assign.wpr (some l) P (Exit.then (XB P l (R.body.wpr (some l) P (roundPost P l (XZ n σ d (wpList P f Q b))))) (λ_ _ _=>False)))):
  J c n σ M L (wpList P f Q (⟨some d,.call ⟨.value (.tmp t),z.toArray,o⟩,B,y,k,none⟩::b)):=λa w s A=>by
 obtain⟨F,h1,H,tmps,I,N,O⟩:=A.res T;have e:=evs s W;have C:a.eval (.tmp t)=Aw l:=s.eval (x:= .tmp t) U;have X:=run_yield (P:=P) (args:=g.toArray) O (by simp[r,q]);have u:(execOp a.eval ⟨some d,.call ⟨.value (.tmp t),z.toArray,o⟩,B,y,k,none⟩).run P w=(Instr.yield l g.toArray).run P w:=by
  simp[execOp,resolve,C,Aw,Deferred.ofValue,invoke,e]
 unfold wpList;rw[if_pos (show Region.wanted _ _=true from rfl)];refine .inr ⟨_,_,_,_,_,_,u.trans X,?_⟩;refine RoundIn.mono (R:=XZ n σ d (wpList P f Q b)) (roundIn_of_wpIn (F:=FR none) trivial ?_) ?_
 ·obtain⟨D,E⟩:=LM j g tmps R.σ R.n I p N;have:=h {tmps:=(j.zip g).foldl (λtmps (x:Tmp×Value)=>tmps.setIfInBounds x.1 x.2) tmps,defers:=[]} w ⟨rfl,D,E⟩ A;simp only[r,List.zip_toArray,List.foldl_toArray];exact this
 ·rintro e Y ⟨v,rfl,V⟩;exact⟨v,rfl,V _ (s.put d v S)⟩
theorem ON {g:Operand} {ps:Array Tmp} {assign body:Code} {f:FuncId} {fn:Func} {code:Code} {cs:List Value} {k:Nat} (hb:aV P f) (hx:ev σ g=some (.func (.func f) #[] cs.toArray)) (hf:P.funcs[f]? = some fn) (hbd:fn.body=some code) (hn:fn.ntmps=k) (hm:Nat.ble (cs.length+1) k=true)
  (h:∀(l D:Nat) (R:XX),R.n=n.sz∧R.σ=σ∧R.ps=ps∧R.assign=assign∧R.body=body->J c ⟨k,[]⟩ (AR 0 (Aw l::cs)) (Lp l R .ready none::Dfr D::M) L (code.wpr none P (iV P fn (XY P n σ l D Q)))):
  J c n σ M L ((Code.rangeFunc g ps assign body).wpr none P Q):=Qz hb hx hf hbd hn hm λl D=>h l D _ ⟨rfl,rfl,rfl,rfl,rfl⟩
theorem QB {j:Array Oper} {e:List Oper} {t:Tmp} {u:List Operand} {us:List Value} {r:Array TypeId} {d:Nat} {B:TypeId} {s:String} {q:Array Edge} {l i k:Nat} {R:XX} {p:List Tmp} {o:Fr} {a b:Code} (w:R.n=k∧R.σ=o∧R.ps=p.toArray∧R.assign=a∧R.body=b) (z:lk σ t=some (Aw l)) (A:u.map (ev σ)=us.map some) (y:M[i]? = some (Lp l R .ready none)) (g:us.length=p.length) (f:p.all (λt=>Nat.blt t k)=true) (x:Nat.blt d n.sz=true)
  (h:J c ⟨k,[]⟩ (HY p us o) M L (a.wpr (some l) P (Exit.then (XB P l (b.wpr (some l) P (roundPost P l (XZ n σ d (wpList P j Q e))))) (λ_ _ _=>False)))):
  J c n σ M L (wpList P j Q (⟨some d,.call ⟨.value (.tmp t),u.toArray,r⟩,B,s,q,none⟩::e)):=by
 obtain⟨rfl,rfl,v,rfl,rfl⟩:=w;exact aaY z A y v g f x h
end
def LZ (Ds:List Nat):List Deferred:=Ds.map ZF
def OI (Ds:List Nat):bI where
 p w F:=Ds.Nodup∧∀D∈Ds,F D∧w.heap[D]? = some (.deferred (some []))
 mono:=fun⟨c,a⟩ h=>⟨c,λD b=>by
  obtain⟨d,e⟩:=h D (a D b).1 (zA9.1 (a D b).2).1;exact⟨d,by rw[e];exact(a D b).2⟩⟩
section
variable {P:Program} {rd:Option Nat} {c:yO} {n m:Sz} {σ σ':Fr} {M L:List bI} {Q:Exit->Act->World->Prop} {K G:Act->World->Prop}
theorem QQ:mQ M L (OI []::M) L:=mQ.add λ_=>⟨List.nodup_nil,by simp⟩
theorem QR (i j:Nat) {D:Nat} {e:List Nat} (d:i≠j) (l:M[i]? = some (OI e)) (o:M[j]? = some (Dfr D)):mQ M L ((M.set i (OI (D::e))).eraseIdx j) L:=λc w t=>
 t.merge i j d l o (by
  rintro w q r ⟨g,b⟩ ⟨f,h⟩ k;refine⟨zBb.2 ⟨λp=>k D (b D p).1 f,g⟩,λE a=> ?_⟩
  rcases zAl.1 a with rfl|a
  ·exact⟨.inr f,h⟩
  ·exact⟨.inl (b E a).1,(b E a).2⟩)
theorem Ii {g:Operand} {ps:Array Tmp} {assign body:Code} {f:FuncId} {fn:Func} {code:Code} {cs:List Value} {k i s:Nat} (Ds:List Nat) (hi:M[i]? = some (OI Ds)) (hb:aV P f) (hx:ev σ g=some (.func (.func f) #[] cs.toArray)) (hf:P.funcs[f]? = some fn) (hbd:fn.body=some code) (hn:fn.ntmps=k) (hm:Nat.ble (cs.length+1) k=true)
  (h:∀(l D:Nat) (R:XX),R.n=s∧R.σ=σ∧R.ps=ps∧R.assign=assign∧R.body=body->J c ⟨k,[]⟩ (AR 0 (Aw l::cs)) (Lp l R .ready none::M.set i (OI (D::Ds))) L (code.wpr none P (iV P fn (XY P ⟨s,LZ Ds⟩ σ l D Q)))):
  J c ⟨s,LZ Ds⟩ σ M L ((Code.rangeFunc g ps assign body).wpr none P Q):=ON hb hx hf hbd hn hm λl D R hR=>
 gF (QR (i+2) 1 (by omega) hi Z) (h l D R hR)
theorem t_ {o:Func} {R:Ending->World->Prop} {f:Exit} {i k:Nat} (b:f = .ret∨f = .normal):∀{Ds:List Nat} {M:List bI},M[i]? = some (OI Ds)->J c ⟨k,[]⟩ σ (M.set i (OI [])) L (iV P o R f)->J c ⟨k,LZ Ds⟩ σ M L (iV P o R f)
 | [], M, hi, h => by
  have:M.set i (OI [])=M:=by
   apply List.ext_getElem?;intro j;by_cases e:i=j
   ·subst e;rw[hi];simp[(List.getElem?_eq_some_iff.1 hi).1]
   ·simp[zAx e]
  rw[this]at h;exact h
 | D :: Ds, M, hi, h => λa w s t => by
  obtain⟨F,v,q⟩:=t.res hi;have u:St c (M.set i (OI Ds)) L (w.putObj D (.deferred none)):=by
   refine t.upd hi Z Z Z (by simp) λF d _=>⟨λk _ r=> ?_,F,?_,λ_ h=> .inl h⟩
   ·exact World.putObj_heap_other (λe=>r (e▸(d.2 D (by simp)).1))
   ·obtain⟨p,d⟩:=d;refine⟨(zBb.1 p).2,λE g=>⟨(d E (by simp[g])).1,?_⟩⟩
    rw[World.putObj_heap_other (λe=>(zBb.1 p).1 (by subst e;exact g))];exact(d E (by simp[g])).2
  refine Ww b s.defers (q D (by simp)).2 ?_;have l:(M.set i (OI Ds))[i]? = some (OI Ds):=by simp[(List.getElem?_eq_some_iff.1 hi).1]
  have:=t_ b l (by rw[List.set_set];exact h) {tmps:=a.tmps,defers:=LZ Ds} _ ⟨rfl,s.size,s.slot⟩ u;rcases b with rfl|rfl<;>exact this
def agw {A B:Type} (c:yO) (f:A->B->Sz) (C:A->Prop) (b:A->B->Fr) (e d:A->B->List bI) (a:Act) (w:World):Prop:=∃x y,C x∧HJ (f x y) (b x y) a∧St c (e x y) (d x y) w
theorem Tc {A B:Type} {x:Code} (h:A->B->Sz) (C:A->Prop) (d:A->B->Fr) (g f:A->B->List bI) (j:J c n σ M L (x.wpr rd P (Exit.then (agw c h C d g f) Q))) (k:∀a b,C a->J c (h a b) (d a b) (g a b) (f a b) K):
  J c n σ M L (x.wpr rd P (Exit.then K Q)):=λa w s t=>Jg (λe i u q=>by
 cases e with
 |normal=>obtain⟨z,y,o,p,r⟩:=q;exact k z y o i u p r
 |exit id=>exact q
 |goto l=>exact q
 |ret=>exact q
 |panic v=>exact q
 |outgrown=>exact q) (j a w s t)
theorem KE {A B:Type} {e:A->B->Sz} {C:A->Prop} {a:A->B->Fr} {d b:A->B->List bI} (x:A) (y:B) (i:n=e x y) (f:C x) (j:BC σ (a x y)) (h:bA M (d x y)) (g:aG [] L (b x y)):J c n σ M L (agw c e C a d b):=
 λ_ _ s t=>⟨x,y,f,i▸s.weak j,t.weakE h g⟩
end
def Gb (b:Nat) (cs:List Value):bI where
 p w S:=S b∧∃T,w.heap[b]? = some (.cells cs.toArray T (0,0))
 mono:=fun⟨c,T,a⟩ h=>by
  obtain⟨d,e⟩:=h b c (zA9.1 a).1;exact⟨d,T,by rw[e];exact a⟩
section
variable {P:Program} {c:yO} {n:Sz} {σ:Fr} {M L:List bI} {d:Option Tmp} {ty:TypeId} {pos:String} {aft:Array Edge} {g:Option (Nat×Bool)} {α:Type} {e:fE α}
theorem QV [eF P] {T E:TypeId} {u:IntKind} {k v A f B:Nat} {z C:Value} {l:TypeDesc} {x y:Operand} {b:Nat} {i:Int} (q:ev σ x=some (.pointer (some ⟨b,0,none⟩))) (r:ev σ y=some (.int u i))
  (p:eF.tab P T=some ⟨.array k E,v,A,z⟩) (o:eF.tab P E=some ⟨l,f,B,C⟩) (m:(f==0)=false) (h:0<=i∧i<(k:Int)):
  Y P c n σ M L ⟨d,.indexAddr T x y,ty,pos,aft,g⟩ (.pointer (some ⟨b,i.toNat*f,none⟩)):=λa w s t=>by
 have j:f≠0:=by simpa using m
 simp[execOp,s.eval q,s.eval r,Instr.indexAt,asIntOf,(eF.ok p).run_und w,h,Instr.sureAddr,(eF.ok o).run_size w,j,fO]
theorem Wo [eF P] [Inhabited α] {T:TypeId} {E:Nat} {z:Value} {o:TypeDesc} {x:Operand} {b k:Nat} {i:Int} {f:List α} {u:Value} (q:ev σ x=some (.pointer (some ⟨b,i.toNat*1,none⟩)))
  (y:aD M L (Gb b (cellsOf e f))) (A:eF.tab P T=some ⟨o,1,E,z⟩) (B:Ax o=false) (C:e.sz=1) (D:(e.enc (at' f i))=[u]) (h:(0<=i∧i<(k:Int))∧f.length=k):
  Y P c n σ M L ⟨d,.load T x,ty,pos,aft,g⟩ u:=λa w s t=>by
 obtain⟨F,j,r,l⟩:=y.st t;have v:(cJ b (cellsOf e f) r).p w F:=⟨j,l⟩
 have m:=yV e f i.toNat (at' f i) (mG h.1.1 (by omega)) 0 u (by rw[D];rfl);rw[C,Nat.add_zero]at m;rw[Nat.mul_one]at q m;simp[execOp,s.eval q,AW (eF.ok A) B (cJ.cell v m)]
end
end Go.Sx
namespace Go.Sx
section
variable {P:Program} {M L:List bI} {α β γ:Type} {r:fU α} {s:fU γ} {q:fU β}
def fU.Deep (r:fU α) (q:fU β) (f:α->Value×List β):Prop:=∀{w S es x},r.R w S es x->OQ q w S (f x).1 (f x).2
theorem FJ (q:fU β):(fU.sl q).Deep q (λx=>x):=λh=>h.2
theorem Wl {f:α->Value×List β} (h:r.Deep q f):(r.pair s).Deep q (λx=>f x.1):=by
 rintro w S d x ⟨b,c,rfl,a,_⟩;exact h a
theorem Gz {f:α->Value×List β} (h:r.Deep q f):(s.pair r).Deep q (λx=>f x.2):=by
 rintro w S d x ⟨b,c,rfl,_,a⟩;exact h a
theorem jD [Inhabited α] {v:Value} {a:List α} {i:Int} {f:α->Value×List β} (h:aD M L (Sl r v a)) (d:r.Deep q f) (b:0<=i) (c:i<a.length):aD M L (Sl q (f (at' a i)).1 (f (at' a i)).2):=h.mono λ{w U} hs=>by
 obtain⟨g,e,_⟩:=sl_cell hs (mG b c);exact d e
def Lv (s:ByteArray):List Int:=s.data.toList.map λb=>(b.toNat:Int)
theorem ED [eF P] {c:yO} {n:Sz} {l:Fr} {d:Option Tmp} {H:TypeId} {e:String} {b:Array Edge} {g:Option (Nat×Bool)} {T:TypeId} {F G:Nat} {z:Value} {x y:Operand} {s:ByteArray} {f:List Int} {k:IntKind} {i:Int} (D:ev l x=some (.string s)) (E:ev l y=some (.int k i)) (u:eF.tab P T=some ⟨.string,F,G,z⟩) (A:Lv s=f) (h:0<=i∧i<f.length):
  Y P c n l M L ⟨d,.index T x y,H,e,b,g⟩ (.int .u8 (at' f i)):=λa w p t=>by
 subst A;obtain⟨I,m⟩:=h;obtain⟨j,rfl⟩:∃j:Nat,i=(j:Int):=⟨i.toNat,by omega⟩
 have o:j<s.data.toList.length:=by unfold Lv at m;simp at m ⊢;omega
 have C:j<s.size:=by have:=Lib.size_eq s;simp at o;omega
 have B:s[j]? = some (s.data.toList[j]):=by
  rw[getElem?_pos s j C];rfl
 have v:at' (Lv s) (j:Int)=((s.data.toList[j]).toNat:Int):=by
  unfold at' Lv;simp[zA7,zA0 o]
 rw[v];simp[execOp,p.eval D,p.eval E,Instr.index,asIntOf,(eF.ok u).run_und w,B]
theorem Tq [eF P] {c:yO} {n:Sz} {j:Fr} {d:Option Tmp} {F:TypeId} {i:String} {e:Array Edge} {g:Option (Nat×Bool)} {T E:TypeId} {A B C D m b:Nat} {z G:Value} {o:TypeDesc} {x l:Operand} {k:Int} (y:ev j x=some (.pointer (some ⟨b,0,none⟩))) (f:ev j l=some (.int .i64 k))
  (v:eF.tab P T=some ⟨.array m E,A,B,z⟩) (u:eF.tab P E=some ⟨o,C,D,G⟩) {q:Int} (h:0<=k∧k<=((m:Nat):Int)∧k<=q):Y P c n j M L ⟨d,.slice T x none (some l) none,F,i,e,g⟩ (.slice (some ⟨b,0,none⟩) k.toNat m):=λa w s t=>by
 have p:0<=k∧k<=(m:Int):=⟨h.1,h.2.1⟩
 simp[execOp,s.eval y,s.eval f,Instr.sliceAt,Instr.slice,(eF.ok v).run_und w,Instr.sliceBounds,Instr.sliceBound,asIntOf,(eF.ok u).run_size w,p,asAddr,Addr.add,Instr.sureAddr]
theorem XR {e:fE α} {i b T m:Nat} {k:Int} {a:List α} (t:M[i]? = some (cJ b (cellsOf e a) T)) (c:e.Fits r) (h:0<=k∧k<=((m:Nat):Int)∧k<=(a.length:Int)) (p:m<=9223372036854775807):aD M L (Sl r (.slice (some ⟨b,0,none⟩) k.toNat m) (a.take k.toNat)):=λw S T U B f C v=>by
 have n:=f i _ t;have o:(a.take k.toNat).length=k.toNat:=by simp;omega
 refine⟨some ⟨b,0,none⟩,m,by rw[o],by rw[o];omega,.inr ⟨b,0,rfl,v _ _ n.1,λj x d=> ?_⟩⟩
 have l:a[j]? = some x:=by
  rw[zAr]at d;split at d
  ·exact d
  ·cases d
 obtain⟨g,D,z,_⟩:=c;refine⟨e.enc x,λq u A=> ?_,z⟩
 have y:=yV e a _ _ l _ _ A;rw[g,Nat.zero_add];exact cJ.cell n y
def fU.All (r:fU α) (n:Nat) (g:α->List Value):Prop:=r.sz=n∧∀{w S es x},r.R w S es x->es=g x
theorem Tj {e:fE α} (h:e.Fits r):r.All e.sz e.enc:=⟨h.1,h.2.1⟩
theorem Tk (q:fU β):(fU.sl q).All 1 (λx=>[x.1]):=⟨rfl,λh=>h.1⟩
theorem OP {n m:Nat} {f:α->List Value} {g:γ->List Value} (h:r.All n f) (k:s.All m g):(r.pair s).All (n+m) (λx=>f x.1++g x.2):=⟨by show r.sz+s.sz=_;rw[h.1,k.1],by
 rintro w S e x ⟨c,d,rfl,a,b⟩;rw[h.2 a,k.2 b]⟩
theorem Tn [eF P] [Inhabited α] {c:yO} {n:Sz} {B:Fr} {d:Option Tmp} {O:TypeId} {o:String} {k:Array Edge} {g:Option (Nat×Bool)} {T:TypeId} {N q m:Nat} {z:Value} {p:TypeDesc} {x:Operand} {v:Value} {i:Int} {e:List α} {cs:List Value} {f:α->List Value} (K:ev B x=some (GD v (i.toNat*q))) (G:aD M L (Sl r v e)) (y:r.All m f) (l:f (at' e i)=cs)
  (E:eF.tab P T=some ⟨p,cs.length,N,z⟩) (F:Ax p=true) (H:m=q) (h:0<=i∧i<e.length):Y P c n B M L ⟨d,.load T x,O,o,k,g⟩ (.agg cs.toArray):=λa w s t=>by
 obtain⟨C,D⟩:=h;obtain⟨S,h⟩:=G.st t;obtain⟨Q,I,b⟩:=sl_cell h (mG C D);have:=y.2 I;subst this l;rw[y.1,H]at b;have:=BK (w:=w) (A:=MY v (i.toNat*q)) (cs:=f (at' e i)) (eF.ok E) F Z (λj u J=>by rw[KL];exact b j u J);simp[execOp,s.eval K,GD,this]
end
end Go.Sx
namespace Go.Sx
open Go.RowKit
section
variable {P:Program} {c:yO} {n:Sz} {σ:Fr} {M L:List bI} {d:Option Tmp} {ty:TypeId} {pos:String} {aft:Array Edge} {g:Option (Nat×Bool)}
def agz (v:Value) (m:Nat):Prop:=∃a e,v = .slice a m e∧(m=0∨∃b f,a=some ⟨b,f,none⟩)
theorem Know.len {f:Type} {r:fU f} {v:Value} {xs:List f} (j:aD M L (Sl r v xs)):∀c w,St c M L w->agz v xs.length:=λc w t=>by
 obtain⟨S,i,cap,k,_,h⟩:=j.st t;exact⟨i,cap,k,h.imp (λh=>by simp[h]) fun⟨b,a,e,_⟩=>⟨b,a,e⟩⟩
theorem QW [eF P] {T E:TypeId} {B C k D m:Nat} {z F:Value} {o:TypeDesc} {x y:Operand} {v:Value} {i:Int} (u:ev σ x=some v) (A:ev σ y=some (.int .i64 i)) (f:agz v m)
  (s:eF.tab P T=some ⟨.slice E,B,C,z⟩) (r:eF.tab P E=some ⟨o,k,D,F⟩) (h:0<=i∧i<(m:Int)):Y P c n σ M L ⟨d,.indexAddr T x y,ty,pos,aft,g⟩ (GD v (i.toNat*k)):=λa w l t=>by
 obtain⟨G,e,rfl,f⟩:=f;obtain⟨p,q⟩:=h;rcases f with rfl|⟨b,j,rfl⟩
 ·omega
 ·simp[execOp,l.eval u,l.eval A,JK w (eF.ok s) Z (eF.ok r) b j _ e i p q]
theorem Li [eF P] (i:Nat) {T j:TypeId} {H m o b:Nat} {z:Value} {q:TypeDesc} {x y:Operand} {cs e us:List Value} {u:Value} (E:ev σ x=some (.pointer (some ⟨b,o,none⟩))) (G:ev σ y=some u) (l:u.cells=us.toArray) (B:us.length=m)
  (r:us.all one=true) (p:M[i]? = some (cJ b cs j)) (A:eF.tab P T=some ⟨q,m,H,z⟩) (C:Nat.ble (o+m) cs.length=true) (k:cs.take o++us++cs.drop (o+m)=e):
  aN P c n σ M L ⟨none,.store T x y,ty,pos,aft,none⟩ (λ_:Unit=>undef) (λ_=>M.set i (cJ b e j)) (λ_=>L):=λa w s t=>by
 subst B k;obtain⟨F,v⟩:=t.res p;have D:o+us.length<=cs.length:=by simpa using C
 have h:=run_storeCells_at P b o j us 0 cs.toArray w v.2 (by simp;omega) (λu l=>rX (zA4.1 r u l));simp only[Nat.add_zero]at h;have f:(execOp a.eval ⟨none,.store T x y,ty,pos,aft,none⟩).run P w = .ok .skip (w.setRow b (cs.take o++us++cs.drop (o+us.length)).toArray):=by
  simp[execOp,s.eval E,s.eval G,Instr.storeAt,Instr.sureAddr,storeVar,l,(eF.ok A).run_size w,h]
 simp only[Oper.wp,f,Oper.upon];exact⟨(),trivial,t.fill p⟩
theorem To [eF P] (i:Nat) {T k:TypeId} {B m o b:Nat} {z:Value} {h:TypeDesc} {x:Operand} {cs us:List Value} (y:ev σ x=some (.pointer (some ⟨b,o,none⟩))) (p:M[i]? = some (cJ b cs k)) (q:eF.tab P T=some ⟨h,m,B,z⟩) (r:Ax h=true)
  (f:(cs.drop o).take m=us) (v:us.length=m):Y P c n σ M L ⟨d,.load T x,ty,pos,aft,g⟩ (.agg us.toArray):=λa w s t=>by
 subst v;obtain⟨F,l⟩:=t.res p;have:=BK (w:=w) (A:=⟨b,o,none⟩) (cs:=us) (eF.ok q) r Z (λj u e=>by
  have:cs[o+j]? = some u:=by
   rw[<-f,zAr]at e;split at e
   ·rwa[zAs]at e
   ·cases e
  rw[fO];exact cJ.cell l this)
 simp[execOp,s.eval y,this]
theorem Mn {a:Type} [Inhabited a] (l:List a) (k:Int) (h:k.toNat<l.length) (b:0<=k):l.set k.toNat (at' l k)=l:=by
 have:=mG (xs:=l) b (by omega);refine List.ext_getElem? λi=> ?_;by_cases e:k.toNat=i
 ·subst e;rw[zAk h,this]
 ·rw[zAx e]
theorem FI [eF P] {l:Type} [Inhabited l] {e:fE l} (j:Nat) {T:TypeId} {Q m o q:Nat} {z:Value} {C:TypeDesc} {x y:Operand} {u:Value} {us:List Value} {i k:Int} {vs:List Value} {b:List (List l)} (f:l) (A:0<=k∧k<b.length) (h:0<=i∧i<(at' b k).length) (N:ev σ x=some (GD (at' vs k) (i.toNat*q+o))) (O:ev σ y=some u)
  (v:M[j]? = some (k_ e vs b)) (I:e.sz=q) (K:u.cells=us.toArray) (G:us.length=m) (H:Nat.ble (o+m) q=true) (B:e.enc f=(e.enc (at' (at' b k) i)).take o++us++(e.enc (at' (at' b k) i)).drop (o+m)) (p:us.all one=true) (D:eF.tab P T=some ⟨C,m,Q,z⟩):
  aN P c n σ M L ⟨none,.store T x y,ty,pos,aft,none⟩ (λ_:Unit=>undef) (λ_=>M.set j (k_ e vs (b.set k.toNat ((at' b k).set i.toNat f)))) (λ_=>L):=λa w s t=>by
 have U:=eT j v c w t;have F:j<M.length:=(List.getElem?_eq_some_iff.1 v).1;refine oT (λS R ⟨x,E,J⟩=>⟨x,E,?_⟩) (QF 0 f h N O Z I K G H B p D a w s (QS j v A c w t));have r:=QP (j+1) 0 (u:=at' vs k) (k:=k) (vs:=vs) (xss:=b) (ys:=(at' b k).set i.toNat f) (e:=e) Z (by simp[F]) Z (by simpa using A) c R J;simp only[List.set_cons_zero,List.set_cons_succ,List.eraseIdx_cons_zero,List.set_set]at r;rw[Mn vs k (by omega) A.1]at r;exact r
end
theorem bA.ix {M a:List bI} (l:List Nat) (c:decide l.Nodup=true) (h:l.map (λi=>M[i]?)=a.map some):bA M a:=by
 have c:l.Nodup:=zBf c;have k:l.length=a.length:=by simpa using congrArg List.length h
 refine⟨λi=>l.getD i 0,λi j b n e=> ?_,λi m d=> ?_⟩
 ·have f:i<l.length:=by omega
  have g:j<l.length:=by omega
  simp only[zA7,zA0 f,zA0 g,Option.getD_some]at e;exact(List.getElem_inj c).1 e
 ·have b:i<l.length:=by rw[k];exact(List.getElem?_eq_some_iff.1 d).1
  have:=congrArg (λq=>q[i]?) h;simp only[List.getElem?_map,zA0 b,d,Option.map_some,Option.some.injEq]at this;simpa [zA7,zA0 b]using this
def fE.fn:fE Nat:=⟨1,Nat.one_pos,λf=>[.func (.func f) #[] #[]],λ_=>rfl⟩
def fU.fn:fU Nat:=⟨1,Nat.one_pos,λ_ _ cs x=>cs=[.func (.func x) #[] #[]],λh=>by simp[h],λh _=>h⟩
theorem Qw:fE.fn.Fits fU.fn:=⟨rfl,λh=>h,rfl,λ_=>rfl⟩
section
variable {P:Program} {rd:Option Nat} {c:yO} {n:Sz} {σ:Fr} {M L:List bI} {Q:Exit->Act->World->Prop} {ops:Array Oper} {rest:List Oper} {d:Nat} {ty:TypeId} {pos:String} {aft:Array Edge} {x y:Operand} {v:Value} {K:Act->World->Prop}
abbrev vS (x:ByteArray):Value:= .string x
abbrev vB (x:Bool):Value:= .bool x
theorem dW {a:Type} {p G:Prop} {_:Decidable p} {u:Option a} {r:a} (h:ck p u=some r) (k:p->u=some r->G):G:=k (Pg h).1 (Pg h).2
theorem dZ {a b:Type} {G:Prop} {u:Option a} {f:a->Option b} {r:b} (h:u.bind f=some r) (k:∀y,u=some y->f y=some r->G):G:=by
  obtain⟨y,e,g⟩:=bnd h;exact k y e g
theorem jP (l:List Nat) {a:List bI} (h:l.map (L[·]?)=a.map some):aG M L a:=λf b=>by
  have g:some f∈l.map (L[·]?):=h▸List.mem_map_of_mem b;obtain⟨j,_,e⟩:=zB5.1 g;exact aD.fact j e
theorem Ce.ix (l:List Nat) {a:List bI} (h:l.map (L[·]?)=a.map some):Ce L a:=λf b=>by
  have g:some f∈l.map (L[·]?):=h▸List.mem_map_of_mem b;obtain⟨j,_,e⟩:=zB5.1 g;exact zAq e
theorem kH {f:bI} (i:Nat) (h:L[i]? = some f):Ce L [f]:=Ce.cons (zAq h) Ce.nil
/-- which of the early loads must still hold,with the numbers of what they have read -/
def bsW (A:Nat->Bool):List (List Nat×List Nat)->List (Nat×List bI×List bI)->List (List Nat×List Nat×List bI×List bI)
  |_,[]=>[]
  |q,(j,Mx,Lx)::B=>bif A j||(Mx.isEmpty&&Lx.isEmpty)then bsW A q B else((q.headD ([],[])).1,(q.headD ([],[])).2,Mx,Lx)::bsW A q.tail B
theorem kG {A:Nat->Bool} (q:List (List Nat×List Nat)) {B:List (Nat×List bI×List bI)} (h:(bsW A q B).map (λz=>(decide z.1.Nodup,z.1.map (M[·]?),z.2.1.map (L[·]?)))=(bsW A q B).map (λz=>(true,z.2.2.1.map some,z.2.2.2.map some))):Do A M L B:=by
  induction B generalizing q with
  |nil=>exact Do.z
  | cons b B ih =>
    obtain⟨j,k,i⟩:=b;cases a:A j with
    |true=>exact Do.b a (ih q (by simpa [bsW,a]using h))
    | false =>
      cases g:(k.isEmpty&&i.isEmpty)with
      | true =>
        obtain⟨e,f⟩:=Bool.and_eq_true_iff.1 g;rw[List.isEmpty_iff]at e f;subst e;subst f;exact Do.h bA.nil Ce.nil (ih q (by simpa [bsW,a]using h))
      | false =>
        simp only[bsW,a,g,Bool.or_self,cond_false,zBa,List.cons.injEq,Prod.mk.injEq]at h;exact Do.h (bA.ix _ h.1.1 h.1.2.1) (Ce.ix _ h.1.2.2) (ih q.tail h.2)
def hkB (A:Nat->Bool):List (Nat×List bI×List bI)->Bool
  | []=>true
  |(j,_,_)::H=>bif A j then hkB A H else false
theorem hkI {A:Nat->Bool} {f e:List bI} {H:List (Nat×List bI×List bI)} (h:hkB A H=true):aU A f e H:=by
  induction H with
  |nil=>exact aU.z
  | cons b B ih =>
    obtain⟨j,_,_⟩:=b;cases a:A j with
    |false=>simp[hkB,a]at h
    |true=>exact aU.b a (ih (by simpa [hkB,a]using h))
theorem hkN {A:Nat->Bool} {H:List (Nat×List bI×List bI)}:aU A [] [] H:=by
  induction H with
  |nil=>exact aU.z
  |cons b B a=>exact aU.h bA.nil Ce.nil a
theorem dA {T:Operand} (h:(ev σ T,ev σ x,Nat.blt d n.sz)=(some (.bool true),some v,true)) (k:J c n ((d,v)::σ) M L (wpList P ops Q rest)):J c n σ M L (wpList P ops Q (⟨some d,.pick T x y,ty,pos,aft,none⟩::rest)):=by
  simp only[Prod.mk.injEq]at h;exact aC (KH h.1 h.2.1) h.2.2 k
theorem c_ {T:Operand} (h:(ev σ T,ev σ y,Nat.blt d n.sz)=(some (.bool false),some v,true)) (k:J c n ((d,v)::σ) M L (wpList P ops Q rest)):J c n σ M L (wpList P ops Q (⟨some d,.pick T x y,ty,pos,aft,none⟩::rest)):=by
  simp only[Prod.mk.injEq]at h;exact aC (Ip h.1 h.2.1) h.2.2 k
theorem eQ {vs:List Value} {i:Nat} (h:(ev σ x,vs[i]?,Nat.blt d n.sz)=(some (.tuple vs.toArray),some v,true)) (k:J c n ((d,v)::σ) M L (wpList P ops Q rest)):J c n σ M L (wpList P ops Q (⟨some d,.extract x i,ty,pos,aft,none⟩::rest)):=by
  simp only[Prod.mk.injEq]at h;exact aC (AL h.1 h.2.1) h.2.2 k
theorem jQ {t a:TypeId} {i:IntKind} {p q:Int} (h:(ev σ x,ev σ y,Nat.blt d n.sz)=(some (.int i p),some (.int i q),true)) (k:J c n ((d,.bool (decide (p≠q)))::σ) M L (wpList P ops Q rest)):J c n σ M L (wpList P ops Q (⟨some d,.binOp .neq t x y a,ty,pos,aft,none⟩::rest)):=by
  simp only[Prod.mk.injEq]at h;exact aC (Dd h.1 h.2.1) h.2.2 k
theorem wE {t a:TypeId} {i:IntKind} {p q:Int} (h:(ev σ x,ev σ y,Nat.blt d n.sz)=(some (.int i p),some (.int i q),true)) (k:J c n ((d,.int i (eG i p q))::σ) M L (wpList P ops Q rest)):J c n σ M L (wpList P ops Q (⟨some d,.binOp .and t x y a,ty,pos,aft,none⟩::rest)):=by
  simp only[Prod.mk.injEq]at h;exact aC (NM h.1 h.2.1) h.2.2 k
theorem iF [eF P] {b:Type} {r:fU b} {T E:TypeId} {f g:Nat} {z:Value} {a:List b} (e:aD M L (Sl r v a)) (h:(ev σ x,eF.tab P T,Nat.blt d n.sz)=(some v,some ⟨.slice E,f,g,z⟩,true)) (k:J c n ((d,.int .i64 a.length)::σ) M L (wpList P ops Q rest)):J c n σ M L (wpList P ops Q (⟨some d,.call ⟨.builtin .len,#[x],#[T]⟩,ty,pos,aft,none⟩::rest)):=by
  simp only[Prod.mk.injEq]at h;exact aC (fX h.1 e h.2.1) h.2.2 k
variable {l:List Oper} {m:List Nat} {k0:Nat} {H Bs:List (Nat×List bI×List bI)} {rs:List Nat}
theorem iY {i a:Nat} {b:Op} (f:l[i]? = some ⟨some a,b,ty,pos,aft,none⟩) (k:Y P c n σ [] [] ⟨some a,b,ty,pos,aft,none⟩ v)
    (h:JR c n ((a,v)::σ) M L H ((i,[],[])::Bs) (RW P l.toArray Q (before m) (eM l) k0 rs))
    (g:Nat.blt i k0=true:=by exact rfl) (j:fI b=false:=by exact rfl) (e:Nat.blt a n.sz=true:=by exact rfl):JR c n σ M L H Bs (RW P l.toArray Q (before m) (eM l) k0 (i::rs)):=bM f bA.nil Ce.nil k hkN h g j e
end
end Go.Sx
namespace Go.Sx
abbrev aX:=List Int
abbrev eY:=List (Int×Int)
abbrev bO:=List aX
abbrev h_:=List eY
abbrev jC:=ByteArray×(List (ByteArray×Int×Int×Int×Int×Int))×(List (ByteArray×(Value×eY)×(Value×List (Int×(Value×eY)))))
abbrev JU:=(ByteArray×(List (ByteArray×Int×Int×Int×Int×Int))×(List (ByteArray×(Value×eY)×(Value×List (Int×(Value×eY))))))×((ByteArray×(List (ByteArray×Int×Int×Int×Int×Int))×(List (ByteArray×(Value×eY)×(Value×List (Int×(Value×eY))))))×(aX×h_)×Int×bO)×h_
abbrev Qo:=((ByteArray×(List (ByteArray×Int×Int×Int×Int×Int))×(List (ByteArray×(Value×eY)×(Value×List (Int×(Value×eY))))))×(aX×h_)×Int×bO)×bO×Int×eY
abbrev BY:=((aX×aX×bO×(Int×Int×Int×Int×Int))×Int)
abbrev cW:=aX×h_
abbrev iX:=List (Value×eY)
abbrev lU:=List (Value×aX)
abbrev Xo:=(ByteArray×(List (ByteArray×Int×Int×Int×Int×Int))×(List (ByteArray×(Value×eY)×(Value×List (Int×(Value×eY))))))×(aX×h_)×Int×bO
abbrev Es:=Int×aX×aX×aX×Bool×Bool
abbrev gC:=(Int×Int)
abbrev VO:=(((ByteArray×(List (ByteArray×Int×Int×Int×Int×Int))×(List (ByteArray×(Value×eY)×(Value×List (Int×(Value×eY))))))×(aX×h_)×Int×bO)×bO×Int×eY)
abbrev Ft:=aX×aX×bO×(Int×Int×Int×Int×Int)
abbrev eL:=Int×Int
abbrev gV:=List Value
abbrev BN:=Int×Int×Int×Int×Int
abbrev Gn:=ByteArray×Int×Int×Int×Int×Int
abbrev Je:=List (ByteArray×Int×Int×Int×Int×Int)
abbrev VP:=(ByteArray×List (ByteArray×Int×Int×Int×Int×Int)×List (eY×List (Int×eY)))
abbrev uZ:=((aX×h_))
abbrev MQ:=((Int×Int×Int×Int×Bool×bO)×Int)
abbrev Kn:=Value×Value×Value×List Value
abbrev Ko:=Int×(List ((Int×Int)×Int))
abbrev lW:=List Nat
abbrev qA:=Int×aX
abbrev wF:=(Int×aX)
abbrev MR:=List (eY×List (Int×eY))
abbrev Fu:=Value×List Value
abbrev Ow:=((Int×Int×Int×Int×Int)×Int)
abbrev VQ:=(aX×aX×bO×(Int×Int×Int×Int×Int))×Int
abbrev Ox:=(Int×(List ((Int×Int)×Int)))
abbrev VR:=Int×Int×Int×Int×Int×Int×aX×aX×bO
abbrev Sq:=Int×Int×Int×Int×Int×Int×Int
abbrev Sr:=Int×Int×Int×Int×Bool×bO
abbrev VS:=(ByteArray×Int×Int×Int×Int×Int)
abbrev Fv:=(aX×h_)
abbrev VT:=(Int×Int×Int×Int×Int×Int×Int)
abbrev aau:=((aX×aX×bO×(Int×Int×Int×Int×Int)))
abbrev Ss:=Value×Value×List Value
abbrev Gp:=(bO×Int)
abbrev lL:Value:=Value.slice none 0 0
abbrev FC:List Value:=[lL,lL,lL,vI (0:Int),vI (0:Int),vI (0:Int),vI (0:Int),vU (0:Int)]
abbrev SV:List Value:=[vI (0:Int),vI (0:Int),vI (0:Int),vI (0:Int),vU (0:Int)]
abbrev vD2:List Value:=[vU (0:Int),vI (0:Int),vI (0:Int),vI (0:Int),vB (false),lL]
abbrev vD3:List Value:=[Value.pointer none,lL,vI (0:Int),vU (0:Int),Value.nilFunc]
abbrev vD4:List Value:=[vS (ByteArray.mk #[]),vI (0:Int),vI (0:Int),vI (0:Int),vI (0:Int),vI (0:Int)]
abbrev XA:List Value:=[vI (0:Int),vI (0:Int)]
end Go.Sx
namespace Go.Proofs.YtahgemjmgopleaaGreatDoor
open Go.Sx
def Ji:aX:=[0,1,1,2,1,2,2,3,1,2,2,3,2,3,3,4,1,2,2,3,2,3,3,4,2,3,3,4,3,4,4,5,1,2,2,3,2,3,3,4,2,3,3,4,3,4,4,5,2,3,3,4,3,4,4,5,3,4,4,5,4,5,5,6,1,2,2,3,2,3,3,4,2,3,3,4,3,4,4,5,2,3,3,4,3,4,4,5,3,4,4,5,4,5,5,6,2,3,3,4,3,4,4,5,3,4,4,5,4,5,5,6,3,4,4,5,4,5,5,6,4,5,5,6,5,6,6,7,1,2,2,3,2,3,3,4,2,3,3,4,3,4,4,5,2,3,3,4,3,4,4,5,3,4,4,5,4,5,5,6,2,3,3,4,3,4,4,5,3,4,4,5,4,5,5,6,3,4,4,5,4,5,5,6,4,5,5,6,5,6,6,7,2,3,3,4,3,4,4,5,3,4,4,5,4,5,5,6,3,4,4,5,4,5,5,6,4,5,5,6,5,6,6,7,3,4,4,5,4,5,5,6,4,5,5,6,5,6,6,7,4,5,5,6,5,6,6,7,5,6,6,7,6,7,7,8]
theorem Pe:Lv (ByteArray.mk #[0,1,1,2,1,2,2,3,1,2,2,3,2,3,3,4,1,2,2,3,2,3,3,4,2,3,3,4,3,4,4,5,1,2,2,3,2,3,3,4,2,3,3,4,3,4,4,5,2,3,3,4,3,4,4,5,3,4,4,5,4,5,5,6,1,2,2,3,2,3,3,4,2,3,3,4,3,4,4,5,2,3,3,4,3,4,4,5,3,4,4,5,4,5,5,6,2,3,3,4,3,4,4,5,3,4,4,5,4,5,5,6,3,4,4,5,4,5,5,6,4,5,5,6,5,6,6,7,1,2,2,3,2,3,3,4,2,3,3,4,3,4,4,5,2,3,3,4,3,4,4,5,3,4,4,5,4,5,5,6,2,3,3,4,3,4,4,5,3,4,4,5,4,5,5,6,3,4,4,5,4,5,5,6,4,5,5,6,5,6,6,7,2,3,3,4,3,4,4,5,3,4,4,5,4,5,5,6,3,4,4,5,4,5,5,6,4,5,5,6,5,6,6,7,3,4,4,5,4,5,5,6,4,5,5,6,5,6,6,7,4,5,5,6,5,6,6,7,5,6,6,7,6,7,7,8])=Ji:=by kernel_rfl
def Au:aX:=[0,1,28,2,29,14,24,3,30,22,20,15,25,17,4,8,31,27,13,23,21,19,16,7,26,12,18,6,11,5,10,9]
theorem _root_.Go.Sx.Y.bld5 {P:Program} {c:yO} {n:Sz} {a:Fr} {M L:List bI} {d:Option Tmp} {E:TypeId} {k:String} {j:Array Edge} {g:Option (Nat×Bool)} {T:TypeId} {b e f h i:Nat} {s t u v x:Operand} {l m o p q:Value} {r:Value} (y:ev a s=some l) (z:ev a t=some m) (A:ev a u=some o) (B:ev a v=some p) (C:ev a x=some q) (D:∀w,(Instr.build T ([(b,l),(e,m),(f,o),(h,p),(i,q)]:List (Nat×Value)).toArray).run P w = .ok r w):Y P c n a M L ⟨d,.build T #[(b,s),(e,t),(f,u),(h,v),(i,x)],E,k,j,g⟩ r:=
 AK (ps:=[(b,s),(e,t),(f,u),(h,v),(i,x)]) (vs:=[(b,l),(e,m),(f,o),(h,p),(i,q)]) (by simp[y,z,A,B,C]) D
theorem _root_.Go.Sx.Y.bld6 {P:Program} {c:yO} {n:Sz} {a:Fr} {M L:List bI} {d:Option Tmp} {I:TypeId} {l:String} {k:Array Edge} {g:Option (Nat×Bool)} {T:TypeId} {b e f h i j:Nat} {u v x y z A:Operand} {m o p q s t:Value} {r:Value} (B:ev a u=some m) (C:ev a v=some o) (D:ev a x=some p) (E:ev a y=some q) (F:ev a z=some s) (G:ev a A=some t) (H:∀w,(Instr.build T ([(b,m),(e,o),(f,p),(h,q),(i,s),(j,t)]:List (Nat×Value)).toArray).run P w = .ok r w):Y P c n a M L ⟨d,.build T #[(b,u),(e,v),(f,x),(h,y),(i,z),(j,A)],I,l,k,g⟩ r:=
 AK (ps:=[(b,u),(e,v),(f,x),(h,y),(i,z),(j,A)]) (vs:=[(b,m),(e,o),(f,p),(h,q),(i,s),(j,t)]) (by simp[B,C,D,E,F,G]) H
abbrev ESt:fE ByteArray:=⟨1,Nat.one_pos,λx=>[.string x],λ_=>rfl⟩
abbrev RSt:fU ByteArray:=⟨1,Nat.one_pos,λ_ _ a x=>a=[.string x],λh=>by simp[h],λh _=>h⟩
theorem FSt:ESt.Fits RSt:=⟨rfl,λh=>h,rfl,λ_=>rfl⟩
abbrev cS:fE Int:=fE.int .i64
abbrev bX:fU Int:=fU.int .i64
theorem dD:cS.Fits bX:=Ih .i64
theorem eH:bX.Cell 0 (λx=> .int .i64 x):=Ik .i64
abbrev kP:fE VS:=fE.pair ESt (fE.pair cS (fE.pair cS (fE.pair cS (fE.pair cS (cS)))))
abbrev aP:fU VS:=fU.pair RSt (fU.pair bX (fU.pair bX (fU.pair bX (fU.pair bX (bX)))))
theorem wG:kP.Fits aP:=qB FSt (qB dD (qB dD (qB dD (qB dD (dD)))))
theorem lC:aP.Cell 1 (λx=> .int .i64 x.2.1):=eC (oB (eH))
theorem AA:aP.Cell 2 (λx=> .int .i64 x.2.2.1):=eC (eC (oB (eH)))
theorem AB:aP.Cell 3 (λx=> .int .i64 x.2.2.2.1):=eC (eC (eC (oB (eH))))
theorem AC:aP.Cell 4 (λx=> .int .i64 x.2.2.2.2.1):=eC (eC (eC (eC (oB (eH)))))
theorem AD:aP.Cell 5 (λx=> .int .i64 x.2.2.2.2.2):=eC (eC (eC (eC (eC (eH)))))
abbrev dO:fE gC:=fE.pair cS (cS)
abbrev bD:fU gC:=fU.pair bX (bX)
theorem cG:dO.Fits bD:=qB dD (dD)
theorem jS:bD.Cell 0 (λx=> .int .i64 x.1):=oB (eH)
theorem Ez:bD.Cell 1 (λx=> .int .i64 x.2):=eC (eH)
abbrev nM:fU (Int×(Value×eY)):=fU.pair bX ((fU.sl bD))
theorem MZ:nM.All 2 (λx=>[Value.int .i64 (x.1),x.2.1]):=(OP (Tj dD) (Tk bD))
theorem Fg:nM.Cell 0 (λx=> .int .i64 x.1):=oB (eH)
theorem Kq:nM.Cell 1 (λx=>x.2.1):=eC (fU.sl_cell bD)
theorem BP:nM.Deep bD (λx=>x.2):=Gz (FJ bD)
abbrev aJ:fU (ByteArray×(Value×eY)×(Value×List (Int×(Value×eY)))):=fU.pair RSt (fU.pair (fU.sl bD) ((fU.sl nM)))
theorem tH:aJ.Cell 1 (λx=>x.2.1.1):=eC (oB (fU.sl_cell bD))
theorem tJ:aJ.Deep bD (λx=>x.2.1):=Gz (Wl (FJ bD))
theorem tI:aJ.Cell 2 (λx=>x.2.2.1):=eC (eC (fU.sl_cell nM))
theorem cH:aJ.Deep nM (λx=>x.2.2):=Gz (Gz (FJ nM))
abbrev fG:fE Int:=fE.int .u32
abbrev wR:fU Int:=fU.int .u32
theorem cP:fG.Fits wR:=Ih .u32
theorem AI:wR.Cell 0 (λx=> .int .u32 x):=Ik .u32
abbrev EBo:fE Bool:=fE.bool
abbrev EFn:fE Nat:=fE.fn
abbrev RFn:fU Nat:=fU.fn
theorem FFn:EFn.Fits RFn:=Qw
abbrev KB:fE (Int×Nat):=fE.pair cS (EFn)
abbrev aa_:fU (Int×Nat):=fU.pair bX (RFn)
theorem Db:KB.Fits aa_:=qB dD (FFn)
abbrev J_:fE Int:=fE.int .u8
def SA (x:Int):Value:=Value.int .i64 (x)
def o_ (x:eL):Value:=Value.agg #[Value.int .i64 (x.1),Value.int .i64 (x.2)]
theorem Zx (x y:eL) (m:Nat) (w:World):(Op.equalIn (m+2) 211 (.agg #[.int .i64 x.1,.int .i64 x.2]) (.agg #[.int .i64 y.1,.int .i64 y.2])).run Tryz.prog w = .ok (decide (x=y)) w:=by
 have c:∀a b:Int,(Op.equalIn (m+1) 3 (.int .i64 a) (.int .i64 b)).run Tryz.prog w = .ok (a==b) w:=by
  intro a b;simp[Op.equalIn]
 unfold Op.equalIn;simp[show List.range' 0 2=[0,1]from rfl,part,isAgg,c];obtain⟨d,e⟩:=x;obtain⟨f,g⟩:=y;by_cases h:d=f<;>by_cases i:e=g<;>simp[h,i,c]
theorem YG (b:Bool) (k:eL) (w:World):(Instr.checkKey b 10000 211 (o_ k)).run Tryz.prog w = .ok () w:=by
 have a:∀m:Nat,(Instr.checkKey b (m+2) 211 (o_ k)).run Tryz.prog w = .ok () w:=by
  intro m;simp[Instr.checkKey,o_,part,isAgg,show List.range' 0 2=[0,1]from rfl]
 exact a 9998
theorem Pw:Lh Tryz.prog 211 o_:=Td Tryz.underlying211 YG (λ_ _=>rfl) (λa b w=>Zx a b 9998 w) (λk=>by
 have c:∀m:Nat,Instr.sameBits (m+2) (o_ k) (o_ k)=true:=λm=>by simp[Instr.sameBits,o_]
 exact c 9998)
theorem eV (b:Value) (c:one b=true) (a:Array Value) (h:a.size=1*1):Instr.fill (λi=>some (i*1,1)) a [(0,b)]=some [b].toArray:=by
 obtain⟨l⟩:=a
 match l,h with
 | [z0],_=>simp[Instr.fill,cI c]
theorem BG (b c:Value) (a:Array Value) (h:a.size=1*2):Instr.fill (λi=>some (i*2,2)) a [(0,.agg #[b,c])]=some [b,c].toArray:=by
 obtain⟨l⟩:=a
 match l,h with
 | [z0,z1],_=>simp[Instr.fill,Value.cells]
theorem Rm (b c d e f g:Value) (a:Array Value) (h:a.size=1*6):Instr.fill (λi=>some (i*6,6)) a [(0,.agg #[b,c,d,e,f,g])]=some [b,c,d,e,f,g].toArray:=by
 obtain⟨l⟩:=a
 match l,h with
 | [z0,z1,z2,z3,z4,z5],_=>simp[Instr.fill,Value.cells]
theorem Zf (b c:Value) (d:one b=true) (e:one c=true) (a:Array Value) (h:a.size=2*1):Instr.fill (λi=>some (i*1,1)) a [(0,b),(1,c)]=some [b,c].toArray:=by
 obtain⟨l⟩:=a
 match l,h with
 | [z0,z1],_=>simp[Instr.fill,cI d,cI e]
theorem Zg (b c d e f g:Value) (a:Array Value) (h:a.size=3*2):Instr.fill (λi=>some (i*2,2)) a [(0,.agg #[b,c]),(1,.agg #[d,e]),(2,.agg #[f,g])]=some [b,c,d,e,f,g].toArray:=by
 obtain⟨l⟩:=a
 match l,h with
 | [z0,z1,z2,z3,z4,z5],_=>simp[Instr.fill,Value.cells]
def Bz (a:Int) (b:Bool):Option (Int):=
 if b=true then(some (-1:Int))else(if a<=(17:Int)then(some (0:Int))else(if a<=(29:Int)then(some (1:Int))else(if a<=(42:Int)then(some (2:Int))else(some (3:Int)))))
def zY (U:Nat) (a:Int):Option (Int):=
 if a<(1:Int)then(Bz a (true))else(Bz a (decide ((43:Int)<a)))
theorem abY:aV Tryz.prog 218:=Tryz.call218
theorem Qm (U:Nat) {b:Int} (r:Int) (h:zY U b=some r):
  aW Tryz.prog 218 #[vI (b)] [] (λx:Unit=>vI (r)) (λx l=>l) (λ_ l=>l):=by
 refine aW.of Tryz.func218 Z Tryz.ntmps218 Z λc=>?_;refine aR<|aB Z<|aL<|aK<|aS<|aK<|dK (λa=>Bz b a=some r) (λa d=>[(0,vI (b)),(3,vB (a))]) (λa d=>[]) ?_ ?_
 ·refine aO<|aA Z<|cZ Z<|aA Z ?_;refine wN h Z (λ_ h=>?_) λ_ h=>?_
  ·refine aE Z<|aE Z<|dA Z<|aB Z<|aL ?_;exact eW (true) () h SF Z
  refine bZ Z<|aM Z (uE Z Z) Z<|c_ Z<|aB Z<|aL ?_;exact eW (decide ((43:Int)<b)) () h SF Z
 intro a d h;refine tT h Z (λ_ h=>?_) λ_ h=>?_
 ·refine aR<|aB Z<|aL<|aQ<|bG<|aI ?_;cases h;exact fW Z
 refine aR<|aA Z<|aC (uF Z Z) Z<|aB Z<|aL ?_;refine d_ h Z (λh=>?_) λh=>?_
 ·refine aR<|aB Z<|aL<|aQ<|bG<|aI ?_;cases h;exact fW Z
 refine aR<|aA Z<|aC (uF Z Z) Z<|aB Z<|aL ?_;refine d_ h Z (λh=>?_) λh=>?_
 ·refine aR<|aB Z<|aL<|aQ<|bG<|aI ?_;cases h;exact fW Z
 refine aR<|aA Z<|aC (uF Z Z) Z<|aB Z<|aL ?_;refine d_ h Z (λh=>?_) λh=>?_
 ·refine aR<|aB Z<|aL<|aQ<|bG<|aI ?_;cases h;exact fW Z
 refine dM<|jH<|aR<|aB Z<|aL<|aQ ?_;cases h;exact fW Z
def Gm  (a:Unit):Option (Int):=
 some (-1:Int)
def mP (U:Nat) (d:eY) (a:eL) (c:gC->Option (Int)):Option (Int):=
 if a.1<(d.length:Int)then(ck (0<=a.1∧a.1<(d.length:Int)) (Option.bind (zY U ((at' d a.1).1)) λb=>(if b<(0:Int)then(some (-1:Int))else(if(wI .i64 (a.2+(wI .i64 (b - (1:Int)))))=(0:Int)then(some (wI .i64 (a.1+(1:Int))))else(c ((wI .i64 (a.1+(1:Int))),(wI .i64 (a.2+(wI .i64 (b - (1:Int)))))))))))else(Gm  (()))
def Dn (U:Nat) (b:eY) (c:Int) (a:Bool):Option (Int):=
 if a=true then(some (-1:Int))else(bK (mP U b) U (c,(1:Int)))
def ER (U:Nat) (b:eY) (a:Int):Option (Int):=
 if a<(0:Int)then(Dn U b a (true))else(Dn U b a (decide ((b.length:Int)<=a)))
theorem abP:aV Tryz.prog 187:=Tryz.call187
theorem Ul (U:Nat) {g:eY} {b:Int} (k:Value) (r:Int) (h:ER U g b=some r):
  aW Tryz.prog 187 #[k,vI (b)] [Sl bD k g] (λx:Unit=>vI (r)) (λx l=>l) (λ_ l=>l):=by
 refine aW.of Tryz.func187 Z Tryz.ntmps187 Z λc=>?_;refine aR<|aB Z<|aL<|aK<|aK<|dK (λd=>Dn U g b d=some r) (λd n=>[(0,k),(1,vI (b)),(14,vB (d))]) (λd n=>[]) ?_ ?_
 ·refine aO<|aA Z<|cZ Z<|aA Z ?_;refine wN h Z (λ_ h=>?_) λ_ h=>?_
  ·refine aE Z<|aE Z<|aE Z<|aE Z<|dA Z<|aL ?_;exact eW (true) () h SF Z
  refine bZ Z<|bZ Z<|aM Z (fX Z (aD.fact 0 Z) Z) Z<|aM Z (wC Z Z) Z<|c_ Z<|aL ?_;exact eW (decide ((g.length:Int)<=b)) () h SF Z
 intro d n h;refine tT h Z (λ_ h=>?_) λ_ h=>?_
 ·refine aR<|aB Z<|aL<|aQ<|aI ?_;cases h;exact fW Z
 refine cE<|aK<|dK (λj=>Gm  j=some r) (λj o=>[]) (λj o=>[]) ?_ ?_
 ·refine aR<|aB Z<|aL<|aS<|eB (mP U g) (λa e=>[(0,k),(1,vI (a.1)),(5,vI (a.2))]) (λa e=>[]) (b,(1:Int)) () h SF (bA.refl _) ?_;intro p a e h;refine aK<|aR<|aA Z<|aA Z<|iF (aD.fact 0 Z) Z<|cZ Z<|aL ?_;refine d_ h Z (λh=>?_) λh=>?_
  ·refine cE<|aK<|aS<|aR<|aA Z<|aA Z<|dW h λf h=>aC (a_ Z Z (aD.fact 0 Z) Z Z f) Z<|aC (dX Z Z Z Z Z) Z<|aC (e_ Z (aD.fact 0 Z) Z Z Z jS f) Z<|dZ h λi m h=>aH (zBg abY (Qm U  i m) Z .nil) Z λq=>aB Z<|aL<|aK<|aR<|aA Z<|cZ Z<|aL ?_;refine d_ h Z (λh=>?_) λh=>?_
   ·refine aR<|aB Z<|aL<|aQ<|aI<|bG<|aI<|aI<|bG<|aI ?_;cases h;exact fW Z
   refine cE<|aR<|aA Z<|aA Z<|aC (lO Z Z) Z<|cD Z<|aB Z<|aL<|aR<|aA Z<|bS Z<|aL ?_;refine d_ h Z (λh=>?_) λh=>?_
   ·refine aR<|aA Z<|cD Z<|aB Z<|aL<|aQ<|bG<|aI<|aI<|bG<|aI ?_;cases h;exact fW Z
   refine dM<|jH<|aO<|aA Z<|cD Z<|aB Z<|aL ?_;exact tV ((wI .i64 (a.1+(1:Int))),(wI .i64 (a.2+(wI .i64 (i - (1:Int)))))) () h SF Z
  refine eS ?_;exact eW () (()) h SF Z
 intro j o h;unfold Gm at h;refine aR<|aB Z<|aL<|aQ ?_;cases h;exact fW Z
def jN (U:Nat) (a:Bool):Option (Int):=
 if a=true then(some (1:Int))else(some (0:Int))
theorem AX:aV Tryz.prog 257:=Tryz.call257
theorem mC (U:Nat) {a:Bool} (r:Int) (h:jN U a=some r):
  aW Tryz.prog 257 #[vB (a)] [] (λx:Unit=>vI (r)) (λx l=>l) (λ_ l=>l):=by
 refine aW.of Tryz.func257 Z Tryz.ntmps257 Z λc=>?_;refine aR<|aB Z<|aL<|aK<|aR<|aA Z<|aL ?_;refine tT h Z (λ_ h=>?_) λ_ h=>?_
 ·refine aR<|aB Z<|aL<|aQ<|aI ?_;cases h;exact fW Z
 refine cE<|aR<|aB Z<|aL<|aQ ?_;cases h;exact fW Z
def uI (U:Nat) (a:Xo) (d:Int) (b:Int) (c:Int):Option (Int):=
 if d=(6:Int)then(some (a.2.1.1.length:Int))else(if d=(7:Int)then(some (a.2.2.1))else(if d=(8:Int)then(ck (0<=b∧b<(a.2.1.1.length:Int)) (some (at' a.2.1.1 b)))else(if d=(9:Int)then(ck (0<=b∧b<(a.2.1.2.length:Int)) (some ((at' a.2.1.2 b).length:Int)))else(if d=(10:Int)then(Option.bind (jN U (decide (b=(0:Int)))) λf=>(some (f)))else(if d=(11:Int)then(some (c))else(ck (0<=b∧b<(a.2.1.2.length:Int)) (ck (0<=c∧c<((at' a.2.1.2 b).length:Int)) (if d=(13:Int)then(ck (0<=((at' (at' a.2.1.2 b) c).1)∧((at' (at' a.2.1.2 b) c).1)<(a.2.1.1.length:Int)) (some (at' a.2.1.1 ((at' (at' a.2.1.2 b) c).1))))else(if d=(14:Int)then(ck (0<=((at' (at' a.2.1.2 b) c).1)∧((at' (at' a.2.1.2 b) c).1)<(a.2.1.2.length:Int)) (some ((at' a.2.1.2 ((at' (at' a.2.1.2 b) c).1)).length:Int)))else(if d=(15:Int)then(Option.bind (jN U (decide (((at' (at' a.2.1.2 b) c).1)=(0:Int)))) λe=>(some (e)))else(if d=(16:Int)then(some ((at' (at' a.2.1.2 b) c).2))else(ck (0<=b∧b<(a.2.2.2.length:Int)) (ck (0<=c∧c<((at' a.2.2.2 b).length:Int)) (some (at' (at' a.2.2.2 b) c)))))))))))))))
theorem acb:aV Tryz.prog 256:=Tryz.call256
theorem Gf (U:Nat) {d:Xo} {s:Int} {f:Int} {g:Int} (i:Nat)  (t:Value)  (u:Value)  (v:Value)  (w:Value)  (F:iX)  (y:Value)  (G:lU) (r:Int) (h:uI U d s f g=some r):
  aW Tryz.prog 256 #[vP i,vI (s),vI (f),vI (g)] [cJ i [vS (d.1.1),t,u,v,w,vI (d.2.2.1),y] 224,Sl aP t d.1.2.1,Sl aJ u d.1.2.2,Sl bX v d.2.1.1,S2 bD w F d.2.1.2,S2 bX y G d.2.2.2] (λx:Unit=>vI (r)) (λx l=>l) (λ_ l=>l):=by
 refine aW.of Tryz.func256 Z Tryz.ntmps256 Z λc=>?_;refine aR<|aB Z<|aL<|aK<|aR<|aA Z<|aL<|aS<|aR<|bS Z<|aB Z<|aL ?_;refine d_ h Z (λh=>?_) λh=>?_
 ·refine aR<|aA Z<|aC (dB Z) Z<|bN Z<|bN Z<|aC (fJ Z (aD.fact 0 Z) Z Z Z) Z<|iF (aD.fact 3 Z) Z<|aB Z<|aL<|aQ<|bG<|aI ?_;cases h;exact fW Z
 refine aR<|bS Z<|aB Z<|aL ?_;refine d_ h Z (λh=>?_) λh=>?_
 ·refine aR<|aA Z<|aC (dB Z) Z<|bN Z<|aC (fJ Z (aD.fact 0 Z) Z Z Z) Z<|aB Z<|aL<|aQ<|bG<|aI ?_;cases h;exact fW Z
 refine aR<|bS Z<|aB Z<|aL ?_;refine d_ h Z (λh=>?_) λh=>?_
 ·refine aR<|aA Z<|aC (dB Z) Z<|bN Z<|bN Z<|aC (fJ Z (aD.fact 0 Z) Z Z Z) Z<|aA Z<|dW h λq h=>aC (a_ Z Z (aD.fact 3 Z) Z Z q) Z<|aC (bY Z (aD.fact 3 Z) Z Z Z eH q) Z<|aB Z<|aL<|aQ<|bG<|aI ?_;cases h;exact fW Z
 refine aR<|bS Z<|aB Z<|aL ?_;refine d_ h Z (λh=>?_) λh=>?_
 ·refine aR<|aA Z<|aC (dB Z) Z<|bN Z<|bN Z<|aC (fJ Z (aD.fact 0 Z) Z Z Z) Z<|aA Z<|dW h λn h=>aC (cY Z Z (aD.fact 4 Z) Z Z n) Z<|aC (cL Z (aD.fact 4 Z) Z Z n) Z<|aC (fX Z (zBi (aD.fact 4 Z) n.1 n.2) Z) Z<|aB Z<|aL<|aQ<|bG<|aI ?_;cases h;exact fW Z
 refine aR<|bS Z<|aB Z<|aL ?_;refine d_ h Z (λh=>?_) λh=>?_
 ·refine aR<|aA Z<|bS Z<|dZ h λB C h=>aH (zBg AX (mC U  B C) Z .nil) Z λD=>aB Z<|aL<|aQ<|bG<|aI ?_;cases h;exact fW Z
 refine aR<|bS Z<|aB Z<|aL ?_;refine d_ h Z (λh=>?_) λh=>?_
 ·refine aR<|aA Z<|aB Z<|aL<|aQ<|bG<|aI ?_;cases h;exact fW Z
 refine dM<|jH<|aR<|aA Z<|aC (dB Z) Z<|bN Z<|bN Z<|aC (fJ Z (aD.fact 0 Z) Z Z Z) Z<|aA Z<|dW h λa h=>aC (cY Z Z (aD.fact 4 Z) Z Z a) Z<|aC (cL Z (aD.fact 4 Z) Z Z a) Z<|aA Z<|dW h λj h=>aC (a_ Z Z (zBi (aD.fact 4 Z) a.1 a.2) Z Z j) Z<|aC (jT (cs:=[vI ((at' (at' d.2.1.2 f) g).1),vI ((at' (at' d.2.1.2 f) g).2)]) Z (zBi (aD.fact 4 Z) a.1 a.2) cG Z Z Z Z j) Z<|aH (aN.alloc (cs:=XA) Z Z) Z λA=>bF 0 (vs:=[vI ((at' (at' d.2.1.2 f) g).1),vI ((at' (at' d.2.1.2 f) g).2)]) Z Z Z Z Z Z<|aL<|aK<|aR<|aA Z<|aL<|aS<|aR<|bS Z<|aB Z<|aL ?_;refine d_ h Z (λh=>?_) λh=>?_
 ·refine aK ?_;refine JR.start [0,1,3,7,15,0,32,127,255,511] 7 mixedOrders (by decide +kernel) ?_;refine zBj (by exact rfl) ?_;refine aY Z<|iY Z (dB Z)<|cB Z<|cB Z<|bM Z .nil (kH 0 Z) (fJ Z (aD.fact 0 Z) Z Z Z) aU.z<|cB Z<|fD 0 Z<|bP 7 Z Z<|dW h λk h=>aC (a_ Z Z (aD.fact 3 Z) Z Z k) Z<|aC (bY Z (aD.fact 3 Z) Z Z Z eH k) Z<|aB Z<|aL<|aQ<|bG<|aI ?_;cases h;exact oA Z
 refine aR<|bS Z<|aB Z<|aL ?_;refine d_ h Z (λh=>?_) λh=>?_
 ·refine aK ?_;refine JR.start [0,1,3,7,15,0,32,127,255,511,1023] 7 mixedOrders (by decide +kernel) ?_;refine zBj (by exact rfl) ?_;refine aY Z<|iY Z (dB Z)<|cB Z<|cB Z<|bM Z .nil (kH 0 Z) (fJ Z (aD.fact 0 Z) Z Z Z) aU.z<|cB Z<|fD 0 Z<|bP 7 Z Z<|dW h λe h=>aC (cY Z Z (aD.fact 4 Z) Z Z e) Z<|aC (cL Z (aD.fact 4 Z) Z Z e) Z<|aC (fX Z (zBi (aD.fact 4 Z) e.1 e.2) Z) Z<|aB Z<|aL<|aQ<|bG<|aI ?_;cases h;exact oA Z
 refine aR<|bS Z<|aB Z<|aL ?_;refine d_ h Z (λh=>?_) λh=>?_
 ·refine aR<|bN Z<|dL 0 Z<|bS Z<|dZ h λo p h=>aH (zBg AX (mC U  o p) Z .nil) Z λE=>aB Z<|aL<|aQ<|bG<|aI ?_;cases h;exact oA Z
 refine aR<|bS Z<|aB Z<|aL ?_;refine d_ h Z (λh=>?_) λh=>?_
 ·refine aR<|bN Z<|dL 0 Z<|aB Z<|aL<|aQ<|bG<|aI ?_;cases h;exact oA Z
 refine dM<|jH<|aR<|aA Z<|aC (dB Z) Z<|bN Z<|aC (fJ Z (aD.fact 0 Z) Z Z Z) Z<|aA Z<|dW h λb h=>aC (cY Z Z (aD.fact 5 Z) Z Z b) Z<|aC (cL Z (aD.fact 5 Z) Z Z b) Z<|aA Z<|dW h λm h=>aC (a_ Z Z (zBi (aD.fact 5 Z) b.1 b.2) Z Z m) Z<|aC (bY Z (zBi (aD.fact 5 Z) b.1 b.2) Z Z Z eH m) Z<|aB Z<|aL<|aQ ?_;cases h;exact oA Z
def nF (U:Nat) (a:Qo) (b:eL) (c:Int):Option (Int):=
 if b.1=(1:Int)then(some (b.2))else(if b.1=(2:Int)then(some (1:Int))else(if b.1=(3:Int)then(some (0:Int))else(if b.1=(4:Int)then(some (-1:Int))else(if b.1=(5:Int)then(ck (0<=a.2.2.1∧a.2.2.1<(a.2.1.length:Int)) (ck (0<=b.2∧b.2<((at' a.2.1 a.2.2.1).length:Int)) (some (at' (at' a.2.1 a.2.2.1) b.2))))else(if b.1=(12:Int)then(ck (0<=a.2.2.1∧a.2.2.1<(a.1.2.1.2.length:Int)) (ck (0<=c∧c<((at' a.1.2.1.2 a.2.2.1).length:Int)) (ck (0<=((at' (at' a.1.2.1.2 a.2.2.1) c).1)∧((at' (at' a.1.2.1.2 a.2.2.1) c).1)<(a.2.1.length:Int)) (ck (0<=b.2∧b.2<((at' a.2.1 ((at' (at' a.1.2.1.2 a.2.2.1) c).1)).length:Int)) (some (at' (at' a.2.1 ((at' (at' a.1.2.1.2 a.2.2.1) c).1)) b.2))))))else(Option.bind (uI U ((((a.1.1.1,a.1.1.2.1,a.1.1.2.2)),((a.1.2.1.1,a.1.2.1.2)),a.1.2.2.1,a.1.2.2.2)) b.1 a.2.2.1 c) λd=>(some (d))))))))
theorem abZ:aV Tryz.prog 247:=Tryz.call247
theorem Hh (U:Nat) {d:Qo} {k:eL} {y:Int} (g:Nat)  (e:Nat)  (o:Value)  (p:Value)  (q:Value)  (s:Value)  (B:iX)  (t:Value)  (C:lU)  (A:Value)  (v:lU)  (m:Value) (r:Int) (h:nF U d k y=some r):
  aW Tryz.prog 247 #[vP g,Value.agg #[vI (k.1),vI (k.2)],vI (y)] [cJ g [vP e,A,vI (d.2.2.1),m] 258,cJ e [vS (d.1.1.1),o,p,q,s,vI (d.1.2.2.1),t] 224,Sl aP o d.1.1.2.1,Sl aJ p d.1.1.2.2,Sl bX q d.1.2.1.1,S2 bD s B d.1.2.1.2,S2 bX t C d.1.2.2.2,S2 bX A v d.2.1,Sl bD m d.2.2.2] (λx:Unit=>vI (r)) (λx l=>l) (λ_ l=>l):=by
 refine aW.of Tryz.func247 Z Tryz.ntmps247 Z λc=>?_;refine aR<|aH (aN.box (cs:=[vI (k.1),vI (k.2)]) Z Z) Z λE=>aB Z<|aL<|aK<|aR<|bN Z<|dL 0 Z<|aL<|aS<|aR<|bS Z<|aB Z<|aL ?_;refine d_ h Z (λh=>?_) λh=>?_
 ·refine aR<|bN Z<|dL 0 Z<|aB Z<|aL<|aQ<|bG<|aI ?_;cases h;exact oA Z
 refine aR<|bS Z<|aB Z<|aL ?_;refine d_ h Z (λh=>?_) λh=>?_
 ·refine aR<|aB Z<|aL<|aQ<|bG<|aI ?_;cases h;exact oA Z
 refine aR<|bS Z<|aB Z<|aL ?_;refine d_ h Z (λh=>?_) λh=>?_
 ·refine aR<|aB Z<|aL<|aQ<|bG<|aI ?_;cases h;exact oA Z
 refine aR<|bS Z<|aB Z<|aL ?_;refine d_ h Z (λh=>?_) λh=>?_
 ·refine aR<|aB Z<|aL<|aQ<|bG<|aI ?_;cases h;exact oA Z
 refine aR<|bS Z<|aB Z<|aL ?_;refine d_ h Z (λh=>?_) λh=>?_
 ·refine aK ?_;refine JR.start [0,1,3,7,0,16,48,112,255,511,0,1024,4095,8191,16383] 12 mixedOrders (by decide +kernel) ?_;refine zBj (by exact rfl) ?_;refine aY Z<|iY Z (dB Z)<|cB Z<|bM Z .nil (kH 0 Z) (fJ Z (aD.fact 0 Z) Z Z Z) aU.z<|aY Z<|iY Z (dB Z)<|cB Z<|bM Z .nil (kH 0 Z) (fJ Z (aD.fact 0 Z) Z Z Z) aU.z<|dW h λf h=>bM Z .nil (kH 7 Z) (cY Z Z (aD.fact 0 Z) Z Z f) aU.z<|bM Z .nil (kH 7 Z) (cL Z (aD.fact 0 Z) Z Z f) aU.z<|cB Z<|fD 0 Z<|bP 12 Z Z<|dW h λw h=>aC (a_ Z Z (zBi (aD.fact 7 Z) f.1 f.2) Z Z w) Z<|aC (bY Z (zBi (aD.fact 7 Z) f.1 f.2) Z Z Z eH w) Z<|aB Z<|aL<|aQ<|bG<|aI ?_;cases h;exact oA Z
 refine aR<|bS Z<|aB Z<|aL ?_;refine d_ h Z (λh=>?_) λh=>?_
 ·refine aK ?_;refine JR.start [0,1,3,7,0,16,48,112,240,496,1008,2032,0,4096,12288,28672,65520,131056,0,524272,1048560,2097136,4194303,8388607,0,16777216,67108863,134217727,268435455] 26 mixedOrders (by decide +kernel) ?_;refine zBj (by exact rfl) ?_;refine aY Z<|iY Z (dB Z)<|cB Z<|bM Z .nil (kH 0 Z) (fJ Z (aD.fact 0 Z) Z Z Z) aU.z<|aY Z<|iY Z (dB Z)<|cB Z<|bM Z .nil (kH 0 Z) (fJ Z (aD.fact 0 Z) Z Z Z) aU.z<|iY Z (dB Z)<|cB Z<|cB Z<|bM Z .nil (kH 1 Z) (fJ Z (aD.fact 0 Z) Z Z Z) aU.z<|aY Z<|iY Z (dB Z)<|cB Z<|bM Z .nil (kH 0 Z) (fJ Z (aD.fact 0 Z) Z Z Z) aU.z<|dW h λa h=>bM Z .nil (kH 5 Z) (cY Z Z (aD.fact 0 Z) Z Z a) aU.z<|bM Z .nil (kH 5 Z) (cL Z (aD.fact 0 Z) Z Z a) aU.z<|aY Z<|dW h λi h=>bM Z .nil (kH 5 Z) (a_ Z Z (zBi (aD.fact 0 Z) a.1 a.2) Z Z i) aU.z<|iY Z (dX Z Z Z Z Z)<|bM Z .nil (kH 5 Z) (e_ Z (zBi (aD.fact 0 Z) a.1 a.2) Z Z Z jS i) aU.z<|dW h λb h=>bM Z .nil (kH 7 Z) (cY Z Z (aD.fact 0 Z) Z Z b) aU.z<|bM Z .nil (kH 7 Z) (cL Z (aD.fact 0 Z) Z Z b) aU.z<|cB Z<|fD 0 Z<|bP 26 Z Z<|dW h λj h=>aC (a_ Z Z (zBi (aD.fact 7 Z) b.1 b.2) Z Z j) Z<|aC (bY Z (zBi (aD.fact 7 Z) b.1 b.2) Z Z Z eH j) Z<|aB Z<|aL<|aQ<|bG<|aI ?_;cases h;exact oA Z
 refine dM<|jH<|aK ?_;refine JR.start [0,1,3,7,0,16,0,64,192,448,0,2047,4095] 11 mixedOrders (by decide +kernel) ?_;refine zBj (by exact rfl) ?_;refine aY Z<|iY Z (dB Z)<|cB Z<|bM Z .nil (kH 0 Z) (fJ Z (aD.fact 0 Z) Z Z Z) aU.z<|cB Z<|fD 0 Z<|aY Z<|iY Z (dB Z)<|cB Z<|bM Z .nil (kH 0 Z) (fJ Z (aD.fact 0 Z) Z Z Z) aU.z<|aY Z<|bP 11 Z Z<|dZ h λn u h=>aH (zBg acb (Gf U e o p q s B t C n u) Z (jP [1,2,3,4,5,6] Z)) Z λD=>aB Z<|aL<|aQ ?_;cases h;exact oA Z
def Ch (U:Nat) (b:Int) (a:Int):Option (Int):=
 if b=(18:Int)then(some (wI .i64 (0 - a)))else(Option.bind (jN U (decide (a=(0:Int)))) λc=>(some (c)))
theorem ab_:aV Tryz.prog 248:=Tryz.call248
theorem PY (U:Nat) {a:Int} {b:Int} (r:Int) (h:Ch U a b=some r):
  aW Tryz.prog 248 #[vI (a),vI (b)] [] (λx:Unit=>vI (r)) (λx l=>l) (λ_ l=>l):=by
 refine aW.of Tryz.func248 Z Tryz.ntmps248 Z λc=>?_;refine aR<|aB Z<|aL<|aK<|aR<|aA Z<|bS Z<|aL ?_;refine d_ h Z (λh=>?_) λh=>?_
 ·refine aR<|aA Z<|aC (QY Z) Z<|aB Z<|aL<|aQ<|aI ?_;cases h;exact fW Z
 refine cE<|aR<|aA Z<|bS Z<|dZ h λd e h=>aH (zBg AX (mC U  d e) Z .nil) Z λf=>aB Z<|aL<|aQ ?_;cases h;exact fW Z
def kA (U:Nat) (a:Int):Option (Int):=
 some (max (-1073741824:Int) (min a (1073741824:Int)))
theorem GC:aV Tryz.prog 259:=Tryz.call259
theorem n_ (U:Nat) {a:Int} (r:Int) (h:kA U a=some r):
  aW Tryz.prog 259 #[vI (a)] [] (λx:Unit=>vI (r)) (λx l=>l) (λ_ l=>l):=by
 refine aW.of Tryz.func259 Z Tryz.ntmps259 Z λc=>?_;unfold kA at h;refine aR<|aB Z<|aL<|aR<|aA Z<|aC (NN Z Z) Z<|aC (DZ Z Z) Z<|aB Z<|aL<|aQ ?_;cases h;exact fW Z
def rA  (a:Int):Option (Int):=
 some (a)
def vJ (a:Int) (b:Int) (c:Bool):Option (Int):=
 if c=true then(rA  (wI .i64 ((wI .i64 (Int.tdiv a b)) - (1:Int))))else(rA  (wI .i64 (Int.tdiv a b)))
def sO (U:Nat) (b:Int) (a:Int):Option (Int):=
 if a=(0:Int)then(some (0:Int))else(ck (a≠0) (ck (a≠0) (if(Int.tmod b a)≠(0:Int)then(vJ b a (((decide (b<(0:Int))) != (decide (a<(0:Int))))))else(vJ b a (false)))))
theorem UU:aV Tryz.prog 260:=Tryz.call260
theorem Fl (U:Nat) {a:Int} {b:Int} (r:Int) (h:sO U a b=some r):
  aW Tryz.prog 260 #[vI (a),vI (b)] [] (λx:Unit=>vI (r)) (λx l=>l) (λ_ l=>l):=by
 refine aW.of Tryz.func260 Z Tryz.ntmps260 Z λc=>?_;refine aR<|aB Z<|aL<|aK<|aR<|aA Z<|bS Z<|aL ?_;refine d_ h Z (λh=>?_) λh=>?_
 ·refine aR<|aB Z<|aL<|aQ<|aI ?_;cases h;exact fW Z
 refine cE<|aR<|aA Z<|aA Z<|dW h λj h=>aC (Tp Z Z j) Z<|aB Z<|aL<|aK<|dK (λd=>rA  d=some r) (λd g=>[(5,vI (d))]) (λd g=>[]) ?_ ?_
 ·refine aK<|dK (λe=>vJ a b e=some r) (λe i=>[(5,vI (wI .i64 (Int.tdiv a b))),(21,vB (e))]) (λe i=>[]) ?_ ?_
  ·refine aO<|aA Z<|aA Z<|dW h λf h=>aC (NO Z Z f) Z<|jQ Z<|aA Z ?_;refine wN h Z (λ_ h=>?_) λ_ h=>?_
   ·refine bZ Z<|aM Z (BD Z Z) Z<|bZ Z<|aM Z (BD Z Z) Z<|aM Z (Yd Z Z Z) Z<|dA Z<|aL ?_;exact eW (((decide (a<(0:Int))) != (decide (b<(0:Int))))) () h SF Z
   refine aE Z<|aE Z<|aE Z<|aE Z<|aE Z<|c_ Z<|aL ?_;exact eW (false) () h SF Z
  intro e i h;refine tT h Z (λ_ h=>?_) λ_ h=>?_
  ·refine aO<|aA Z<|aC (lO Z Z) Z<|aB Z<|aL ?_;exact eW (wI .i64 ((wI .i64 (Int.tdiv a b)) - (1:Int))) () h SF Z
  refine cE ?_;exact eW (wI .i64 (Int.tdiv a b)) () h SF Z
 intro d g h;unfold rA at h;refine aR<|aA Z<|aB Z<|aL<|aQ ?_;cases h;exact fW Z
def xZ (U:Nat) (c:Int) (a:Int) (b:Int):Option Bool:=
 if c=(35:Int)then(some (decide (a=b)))else(if c=(36:Int)then(some (decide (a≠b)))else(if c=(37:Int)then(some (decide (a<b)))else(if c=(38:Int)then(some (decide (a<=b)))else(if c=(39:Int)then(some (decide (b<a)))else(some (decide (b<=a)))))))
theorem ace:aV Tryz.prog 261:=Tryz.call261
theorem Kw (U:Nat) {a:Int} {b:Int} {d:Int} (r:Bool) (h:xZ U a b d=some r):
  aW Tryz.prog 261 #[vI (a),vI (b),vI (d)] [] (λx:Unit=>vB (r)) (λx l=>l) (λ_ l=>l):=by
 refine aW.of Tryz.func261 Z Tryz.ntmps261 Z λc=>?_;refine aR<|aB Z<|aL<|aK<|aR<|aA Z<|aL<|aS<|aR<|bS Z<|aB Z<|aL ?_;refine d_ h Z (λh=>?_) λh=>?_
 ·refine aR<|aA Z<|aA Z<|bS Z<|aB Z<|aL<|aQ<|bG<|aI ?_;cases h;exact fW Z
 refine aR<|bS Z<|aB Z<|aL ?_;refine d_ h Z (λh=>?_) λh=>?_
 ·refine aR<|aA Z<|aA Z<|jQ Z<|aB Z<|aL<|aQ<|bG<|aI ?_;cases h;exact fW Z
 refine aR<|bS Z<|aB Z<|aL ?_;refine d_ h Z (λh=>?_) λh=>?_
 ·refine aR<|aA Z<|aA Z<|cZ Z<|aB Z<|aL<|aQ<|bG<|aI ?_;cases h;exact fW Z
 refine aR<|bS Z<|aB Z<|aL ?_;refine d_ h Z (λh=>?_) λh=>?_
 ·refine aR<|aA Z<|aA Z<|aC (uF Z Z) Z<|aB Z<|aL<|aQ<|bG<|aI ?_;cases h;exact fW Z
 refine aR<|bS Z<|aB Z<|aL ?_;refine d_ h Z (λh=>?_) λh=>?_
 ·refine aR<|aA Z<|aA Z<|aC (uE Z Z) Z<|aB Z<|aL<|aQ<|bG<|aI ?_;cases h;exact fW Z
 refine dM<|jH<|aR<|aA Z<|aA Z<|aC (wC Z Z) Z<|aB Z<|aL<|aQ ?_;cases h;exact fW Z
def qZ  (a:Int):Option (Int):=
 some (a)
def q_  (a:Int):Option (Int):=
 some (a)
def Bb (U:Nat) (c:Int) (b:Int) (a:Int):Option (Int):=
 if c=(30:Int)then(Option.bind (kA U (wI .i64 (b*a))) λn=>(some (n)))else(if c=(31:Int)then(Option.bind (sO U b a) λo=>(Option.bind (kA U o) λp=>(some (p))))else(if c=(32:Int)then(if a=(0:Int)then(some (0:Int))else(Option.bind (sO U b a) λd=>(Option.bind (kA U (wI .i64 (b - (wI .i64 (a*d))))) λe=>(some (e)))))else(if c=(33:Int)then(Option.bind (kA U (wI .i64 (b+a))) λf=>(some (f)))else(if c=(34:Int)then(Option.bind (kA U (wI .i64 (b - a))) λg=>(some (g)))else(if c=(41:Int)then(if b≠(0:Int)then(Option.bind (jN U (decide (a≠(0:Int)))) λh=>(qZ  (h)))else(Option.bind (jN U false) λi=>(qZ  (i))))else(if c=(42:Int)then(if b≠(0:Int)then(Option.bind (jN U true) λj=>(q_  (j)))else(Option.bind (jN U (decide (a≠(0:Int)))) λk=>(q_  (k))))else(Option.bind (xZ U c b a) λl=>(Option.bind (jN U l) λm=>(some (m))))))))))
theorem aca:aV Tryz.prog 250:=Tryz.call250
theorem Nl (U:Nat) {E:Int} {F:Int} {G:Int} (r:Int) (h:Bb U E F G=some r):
  aW Tryz.prog 250 #[vI (E),vI (F),vI (G)] [] (λx:Unit=>vI (r)) (λx l=>l) (λ_ l=>l):=by
 refine aW.of Tryz.func250 Z Tryz.ntmps250 Z λc=>?_;refine aR<|aB Z<|aL<|aK<|aR<|aA Z<|aL<|aS<|aR<|bS Z<|aB Z<|aL ?_;refine d_ h Z (λh=>?_) λh=>?_
 ·refine aR<|aA Z<|aA Z<|aC (zH Z Z) Z<|dZ h λH K h=>aH (zBg GC (n_ U  H K) Z .nil) Z λY=>aB Z<|aL<|aQ<|bG<|aI ?_;cases h;exact fW Z
 refine aR<|bS Z<|aB Z<|aL ?_;refine d_ h Z (λh=>?_) λh=>?_
 ·refine aR<|aA Z<|aA Z<|dZ h λI L h=>aH (zBg UU (Fl U  I L) Z .nil) Z λx8=>dZ h λJ s h=>aH (zBg GC (n_ U  J s) Z .nil) Z λM=>aB Z<|aL<|aQ<|bG<|aI ?_;cases h;exact fW Z
 refine aR<|bS Z<|aB Z<|aL ?_;refine d_ h Z (λh=>?_) λh=>?_
 ·refine aK<|aR<|aA Z<|bS Z<|aL ?_;refine d_ h Z (λh=>?_) λh=>?_
  ·refine aR<|aB Z<|aL<|aQ<|aI<|bG<|aI ?_;cases h;exact fW Z
  refine cE<|aR<|aA Z<|aA Z<|aA Z<|aA Z<|dZ h λk t h=>aH (zBg UU (Fl U  k t) Z .nil) Z λN=>aC (zH Z Z) Z<|aC (lO Z Z) Z<|dZ h λm u h=>aH (zBg GC (n_ U  m u) Z .nil) Z λO=>aB Z<|aL<|aQ<|bG<|aI ?_;cases h;exact fW Z
 refine aR<|bS Z<|aB Z<|aL ?_;refine d_ h Z (λh=>?_) λh=>?_
 ·refine aR<|aA Z<|aA Z<|cD Z<|dZ h λn v h=>aH (zBg GC (n_ U  n v) Z .nil) Z λP=>aB Z<|aL<|aQ<|bG<|aI ?_;cases h;exact fW Z
 refine aR<|bS Z<|aB Z<|aL ?_;refine d_ h Z (λh=>?_) λh=>?_
 ·refine aR<|aA Z<|aA Z<|aC (lO Z Z) Z<|dZ h λo w h=>aH (zBg GC (n_ U  o w) Z .nil) Z λQ=>aB Z<|aL<|aQ<|bG<|aI ?_;cases h;exact fW Z
 refine aR<|bS Z<|aB Z<|aL ?_;refine d_ h Z (λh=>?_) λh=>?_
 ·refine aK<|dK (λa=>qZ  a=some r) (λa d=>[(6,vI (a))]) (λa d=>[]) ?_ ?_
  ·refine aO<|aA Z<|jQ Z<|aA Z ?_;refine wN h Z (λ_ h=>?_) λ_ h=>?_
   ·refine bZ Z<|aM Z (Dd Z Z) Z<|dA Z<|dZ h λf y h=>aH (zBg AX (mC U  f y) Z .nil) Z λR=>aB Z<|aL ?_;exact eW (f) () h SF Z
   refine aE Z<|aE Z<|c_ Z<|dZ h λg z h=>aH (zBg AX (mC U  g z) Z .nil) Z λS=>aB Z<|aL ?_;exact eW (g) () h SF Z
  intro a d h;unfold qZ at h;refine aQ<|bG<|aI ?_;cases h;exact fW Z
 refine aR<|bS Z<|aB Z<|aL ?_;refine d_ h Z (λh=>?_) λh=>?_
 ·refine aK<|dK (λb=>q_  b=some r) (λb e=>[(6,vI (b))]) (λb e=>[]) ?_ ?_
  ·refine aO<|aA Z<|jQ Z<|aA Z ?_;refine wN h Z (λ_ h=>?_) λ_ h=>?_
   ·refine aE Z<|aE Z<|dA Z<|dZ h λi A h=>aH (zBg AX (mC U  i A) Z .nil) Z λT=>aB Z<|aL ?_;exact eW (i) () h SF Z
   refine bZ Z<|aM Z (Dd Z Z) Z<|c_ Z<|dZ h λj B h=>aH (zBg AX (mC U  j B) Z .nil) Z λV=>aB Z<|aL ?_;exact eW (j) () h SF Z
  intro b e h;unfold q_ at h;refine aQ<|bG<|aI ?_;cases h;exact fW Z
 refine dM<|jH<|aR<|aA Z<|aA Z<|aA Z<|dZ h λp C h=>aH (zBg ace (Kw U  p C) Z .nil) Z λW=>dZ h λq D h=>aH (zBg AX (mC U  q D) Z .nil) Z λX=>aB Z<|aL<|aQ ?_;cases h;exact fW Z
def AY  (a:Int):Option (Int):=
 some (a)
def wT (c:eL) (b:gC->Option (Int)) (a:Int):Option (Int):=
 b (a,(wI .i64 (c.2+(1:Int))))
def sY (c:aX) (a:eL) (b:gC->Option (Int)):Option (Int):=
 if a.2<(c.length:Int)then(ck (0<=a.2∧a.2<(c.length:Int)) (if(at' c a.2)≠(0:Int)then(wT a b (wI .i64 (a.1+(1:Int))))else(wT a b (a.1))))else(AY  (a.1))
def sB (U:Nat) (a:aX):Option (Int):=
 bK (sY a) U ((0:Int),(0:Int))
theorem Pa:aV Tryz.prog 265:=Tryz.call265
theorem Fa (U:Nat) {d:aX} (i:Value) (r:Int) (h:sB U d=some r):
  aW Tryz.prog 265 #[i] [Sl bX i d] (λx:Unit=>vI (r)) (λx l=>l) (λ_ l=>l):=by
 refine aW.of Tryz.func265 Z Tryz.ntmps265 Z λc=>?_;unfold sB at h;refine aR<|aB Z<|aL<|aR<|aB Z<|aL<|aK<|dK (λe=>AY  e=some r) (λe j=>[(3,vI (e))]) (λe j=>[]) ?_ ?_
 ·refine aR<|aA Z<|iF (aD.fact 0 Z) Z<|aA Z<|aL<|aS<|eB (sY d) (λb k=>[(3,vI (b.1)),(6,i),(7,vI (d.length:Int)),(8,vI (b.2))]) (λb k=>[]) ((0:Int),(0:Int)) () h SF (bA.refl _) ?_;intro m b k h;refine aR<|cZ Z<|aL<|aK ?_;refine d_ h Z (λh=>?_) λh=>?_
  ·refine cE<|aK<|dK (λa=>wT b (bK (sY d) m) a=some r) (λa f=>[(3,vI (a)),(6,i),(7,vI (d.length:Int)),(8,vI (b.2))]) (λa f=>[]) ?_ ?_
   ·refine aS<|aR<|dW h λg h=>aC (a_ Z Z (aD.fact 0 Z) Z Z g) Z<|aC (bY Z (aD.fact 0 Z) Z Z Z eH g) Z<|aB Z<|aL<|aR<|aA Z<|jQ Z<|aL ?_;refine d_ h Z (λh=>?_) λh=>?_
    ·refine aO<|aA Z<|cD Z<|aB Z<|eN<|jH ?_;exact eW (wI .i64 (b.1+(1:Int))) () h SF Z
    refine dM<|jH ?_;exact eW (b.1) () h SF Z
   intro a f h;unfold wT at h;refine aO<|cD Z<|aA Z<|aL ?_;exact tV (a,(wI .i64 (b.2+(1:Int)))) () h SF Z
  refine eS ?_;exact eW (b.1) () h SF Z
 intro e j h;unfold AY at h;refine aR<|aA Z<|aB Z<|aL<|aQ ?_;cases h;exact fW Z
def qU  (a:Unit):Option (Int):=
 some (-1:Int)
def gZ (c:aX) (e:Int->Option Bool) (a:Int) (b:(Int)->Option (Int)):Option (Int):=
 if a<(c.length:Int)then(ck (0<=a∧a<(c.length:Int)) (Option.bind (e (at' c a)) λd=>(if d=true then(some (a))else(b (wI .i64 (a+(1:Int)))))))else(qU  (()))
def oQ (U:Nat) (b:aX) (a:Int->Option Bool):Option (Int):=
 bK (gZ b a) U (0:Int)
theorem acf:aV Tryz.prog 266:=Tryz.call266
theorem Ib (U:Nat) {b:aX} {o:Int->Option Bool} (k:FuncId) (a:gV) (j:List bI) (e:aV Tryz.prog k) (f:∀(t:Int) (r:Bool),o t=some r->aW Tryz.prog k ([vI (t)]++a).toArray j (λ_:Unit=>vB (r)) (λ_ l=>l) (λ_ l=>l)) (i:Value) (r:Int) (h:oQ U b o=some r):
  aW Tryz.prog 266 #[i,Value.func (.func k) #[] (a).toArray] ([Sl bX i b]++j) (λx:Unit=>vI (r)) (λx l=>l) (λ_ l=>l):=by
 refine aW.of Tryz.func266 Z Tryz.ntmps266 Z λc=>?_;unfold oQ at h;refine aR<|aB Z<|aL<|aK<|FE (B:=Unit) (λg=>qU  g=some r) (λg m=>[]) (λg m=>[]) (λg m=>([Sl bX i b]++j)) ?_ ?_
 ·refine aR<|aA Z<|iF (aD.fact 0 Z) Z<|aA Z<|aL<|aS<|KD (B:=Unit) (gZ b o) (λd n=>[(0,i),(1,Value.func (.func k) #[] (a).toArray),(7,vI (b.length:Int)),(8,vI (d))]) (λd n=>[]) (λd n=>([Sl bX i b]++j)) (0:Int) () h SF (bA.refl _) (aG.refl _ _) ?_;intro v d n h;refine aR<|cZ Z<|aL<|aK ?_;refine d_ h Z (λh=>?_) λh=>?_
  ·refine cE<|aK<|aS<|aR<|aA Z<|aB Z<|aL<|aR<|aA Z<|aA Z<|aA Z<|dW h λs h=>aC (a_ Z Z (aD.fact 0 Z) Z Z s) Z<|aC (bY Z (aD.fact 0 Z) Z Z Z eH s) Z<|dZ h λp q h=>aH (uA (vs:=[vI (at' b d)]) (cs:=a) e Z (f (at' b d) p q) Z (aG.tail _) (λ_ _=>rfl)) Z λu=>aL ?_;refine tT h Z (λ_ h=>?_) λ_ h=>?_
   ·refine aR<|aA Z<|aB Z<|aL<|aQ<|bG<|aI<|aI<|bG<|aI ?_;cases h;exact fW Z
   refine dM<|jH<|aO<|cD Z<|aA Z<|aL ?_;exact tV (wI .i64 (d+(1:Int))) () h SF Z
  refine eS ?_;exact eW () (()) h SF Z
 intro g m h;unfold qU at h;refine aR<|aB Z<|aL<|aQ ?_;cases h;exact fW Z
def qE (U:Nat) (a:Int):Option Bool:=
 some (decide (a≠(0:Int)))
theorem acg:aV Tryz.prog 267:=Tryz.call267
theorem Nm (U:Nat) {a:Int} (r:Bool) (h:qE U a=some r):
  aW Tryz.prog 267 #[vI (a)] [] (λx:Unit=>vB (r)) (λx l=>l) (λ_ l=>l):=by
 refine aW.of Tryz.func267 Z Tryz.ntmps267 Z λc=>?_;unfold qE at h;refine aR<|aB Z<|aL<|aR<|aA Z<|jQ Z<|aB Z<|aL<|aQ ?_;cases h;exact fW Z
def wL  (a:eL):Option gC:=
 some (a.1,a.2)
def qP (c:Int×Int×Int) (b:(Int×Int×Int)->Option gC) (a:eL):Option gC:=
 b (a.1,a.2,(wI .i64 (c.2.2+(1:Int))))
def wM (c:aX) (a:Int×Int×Int) (b:(Int×Int×Int)->Option gC):Option gC:=
 if a.2.2<(c.length:Int)then(ck (0<=a.2.2∧a.2.2<(c.length:Int)) (if a.1<(at' c a.2.2)then(qP a b ((at' c a.2.2),a.1))else(qP a b (a.1,(max a.2.1 (at' c a.2.2))))))else(wL  (a.1,a.2.1))
def sC (U:Nat) (a:aX):Option gC:=
 bK (wM a) U ((-1073741824:Int),(-1073741824:Int),(0:Int))
theorem UV:aV Tryz.prog 268:=Tryz.call268
theorem CX (U:Nat) {d:aX} (j:Value) (r:eL) (h:sC U d=some r):
  aW Tryz.prog 268 #[j] [Sl bX j d] (λx:Unit=>Value.tuple #[vI (r.1),vI (r.2)]) (λx l=>l) (λ_ l=>l):=by
 refine aW.of Tryz.func268 Z Tryz.ntmps268 Z λc=>?_;unfold sC at h;refine aR<|aB Z<|aB Z<|aL<|aR<|aB Z<|aB Z<|aL<|aK<|dK (λe=>wL  e=some r) (λe m=>[(2,vI (e.1)),(3,vI (e.2))]) (λe m=>[]) ?_ ?_
 ·refine aR<|aA Z<|iF (aD.fact 0 Z) Z<|aA Z<|aL<|aS<|eB (wM d) (λb f=>[(2,vI (b.1)),(3,vI (b.2.1)),(6,j),(7,vI (d.length:Int)),(8,vI (b.2.2))]) (λb f=>[]) ((-1073741824:Int),(-1073741824:Int),(0:Int)) () h SF (bA.refl _) ?_;intro k b f h;refine aR<|cZ Z<|aL<|aK ?_;refine d_ h Z (λh=>?_) λh=>?_
  ·refine cE<|aK<|dK (λa=>qP b (bK (wM d) k) a=some r) (λa g=>[(2,vI (a.1)),(3,vI (a.2)),(6,j),(7,vI (d.length:Int)),(8,vI (b.2.2))]) (λa g=>[]) ?_ ?_
   ·refine aS<|aR<|dW h λi h=>aC (a_ Z Z (aD.fact 0 Z) Z Z i) Z<|aC (bY Z (aD.fact 0 Z) Z Z Z eH i) Z<|aB Z<|aL<|aR<|aA Z<|aA Z<|aC (uE Z Z) Z<|aL ?_;refine d_ h Z (λh=>?_) λh=>?_
    ·refine aO<|aA Z<|aA Z<|aB Z<|aB Z<|eN<|jH ?_;exact eW ((at' d b.2.2),b.1) () h SF Z
    refine aO<|aA Z<|aA Z<|aC (DZ Z Z) Z<|aB Z<|eN<|jH ?_;exact eW (b.1,(max b.2.1 (at' d b.2.2))) () h SF Z
   intro a g h;unfold qP at h;refine aO<|cD Z<|aA Z<|aL ?_;exact tV (a.1,a.2,(wI .i64 (b.2.2+(1:Int)))) () h SF Z
  refine eS ?_;exact eW (b.1,b.2.1) () h SF Z
 intro e m h;unfold wL at h;refine aR<|aA Z<|aA Z<|aB Z<|aB Z<|aL<|aQ ?_;cases h;exact eD () Z Z (RV.tmp Z) (RV.tmp Z) (bA.refl _) aG.nil
def yJ  (a:Unit):Option (Int):=
 some (-1:Int)
def kX (c:aX) (d:Int) (a:Int) (b:(Int)->Option (Int)):Option (Int):=
 if a<(c.length:Int)then(ck (0<=a∧a<(c.length:Int)) (if d=(at' c a)then(some (a))else(b (wI .i64 (a+(1:Int))))))else(yJ  (()))
def rI (U:Nat) (a:aX) (b:Int):Option (Int):=
 bK (kX a b) U (0:Int)
theorem acj:aV Tryz.prog 272:=Tryz.call272
theorem MJ (U:Nat) {d:aX} {e:Int} (f:Value) (r:Int) (h:rI U d e=some r):
  aW Tryz.prog 272 #[f,vI (e)] [Sl bX f d] (λx:Unit=>vI (r)) (λx l=>l) (λ_ l=>l):=by
 refine aW.of Tryz.func272 Z Tryz.ntmps272 Z λc=>?_;unfold rI at h;refine aR<|aB Z<|aL<|aK<|dK (λa=>yJ  a=some r) (λa g=>[]) (λa g=>[]) ?_ ?_
 ·refine aR<|aA Z<|iF (aD.fact 0 Z) Z<|aA Z<|aL<|aS<|eB (kX d e) (λb i=>[(0,f),(1,vI (e)),(7,vI (d.length:Int)),(8,vI (b))]) (λb i=>[]) (0:Int) () h SF (bA.refl _) ?_;intro k b i h;refine aR<|cZ Z<|aL<|aK ?_;refine d_ h Z (λh=>?_) λh=>?_
  ·refine cE<|aK<|aS<|aR<|aA Z<|aB Z<|aL<|aR<|aA Z<|aA Z<|aA Z<|dW h λj h=>aC (a_ Z Z (aD.fact 0 Z) Z Z j) Z<|aC (bY Z (aD.fact 0 Z) Z Z Z eH j) Z<|bS Z<|aL ?_;refine d_ h Z (λh=>?_) λh=>?_
   ·refine aR<|aA Z<|aB Z<|aL<|aQ<|bG<|aI<|aI<|bG<|aI ?_;cases h;exact fW Z
   refine dM<|jH<|aO<|cD Z<|aA Z<|aL ?_;exact tV (wI .i64 (b+(1:Int))) () h SF Z
  refine eS ?_;exact eW () (()) h SF Z
 intro a g h;unfold yJ at h;refine aR<|aB Z<|aL<|aQ ?_;cases h;exact fW Z
def tO (U:Nat) (a:aX) (b:Int):Option Bool:=
 Option.bind (rI U a b) λc=>(some (decide ((0:Int)<=c)))
theorem aci:aV Tryz.prog 271:=Tryz.call271
theorem Jd (U:Nat) {b:aX} {d:Int} (a:Value) (r:Bool) (h:tO U b d=some r):
  aW Tryz.prog 271 #[a,vI (d)] [Sl bX a b] (λx:Unit=>vB (r)) (λx l=>l) (λ_ l=>l):=by
 refine aW.of Tryz.func271 Z Tryz.ntmps271 Z λc=>?_;refine aR<|aB Z<|aL<|aR<|aA Z<|aA Z<|dZ h λe f h=>aH (zBg acj (MJ U a e f) Z (jP [0] Z)) Z λg=>aC (wC Z Z) Z<|aB Z<|aL<|aQ ?_;cases h;exact fW Z
def Dg  (a:Int):Option (Int):=
 some (a)
def BF (U:Nat) (c:aX) (a:Int) (b:(Int)->Option (Int)):Option (Int):=
 Option.bind (tO U c a) λd=>(if d=true then(b (wI .i64 (a+(1:Int))))else(Dg  (a)))
def CJ (U:Nat) (a:aX):Option (Int):=
 bK (BF U a) U (0:Int)
theorem ach:aV Tryz.prog 269:=Tryz.call269
theorem Uk (U:Nat) {e:aX} (d:Value) (r:Int) (h:CJ U e=some r):
  aW Tryz.prog 269 #[d] [Sl bX d e] (λx:Unit=>vI (r)) (λx l=>l) (λ_ l=>l):=by
 refine aW.of Tryz.func269 Z Tryz.ntmps269 Z λc=>?_;unfold CJ at h;refine aR<|aB Z<|aL<|aR<|aB Z<|aL<|aK<|dK (λa=>Dg  a=some r) (λa g=>[(3,vI (a))]) (λa g=>[]) ?_ ?_
 ·refine aS<|eB (BF U e) (λb i=>[(0,d),(3,vI (b))]) (λb i=>[]) (0:Int) () h SF (bA.refl _) ?_;intro m b i h;refine aK<|aR<|aA Z<|aA Z<|dZ h λj f h=>aH (zBg aci (Jd U d j f) Z (jP [0] Z)) Z λk=>aL ?_;refine tT h Z (λ_ h=>?_) λ_ h=>?_
  ·refine cE<|aS<|aO<|aA Z<|cD Z<|aB Z<|eN<|jH ?_;exact tV (wI .i64 (b+(1:Int))) () h SF Z
  refine eS ?_;exact eW (b) () h SF Z
 intro a g h;unfold Dg at h;refine aR<|aA Z<|aB Z<|aL<|aQ ?_;cases h;exact fW Z
def Cg  (a:Int):Option (Int):=
 some (a)
def vG (c:aX) (a:eL) (b:gC->Option (Int)):Option (Int):=
 if a.2<(c.length:Int)then(ck (0<=a.2∧a.2<(c.length:Int)) (b ((min a.1 (at' c a.2)),(wI .i64 (a.2+(1:Int))))))else(Cg  (a.1))
def EK (U:Nat) (a:Int):Option (Int):=
 Option.bind (kA U a) λb=>(some (b))
def vH (U:Nat) (c:aX) (a:eL) (b:gC->Option (Int)):Option (Int):=
 if a.2<(c.length:Int)then(ck (0<=a.2∧a.2<(c.length:Int)) (b ((wI .i64 (a.1+(at' c a.2))),(wI .i64 (a.2+(1:Int))))))else(EK U (a.1))
def Dj (U:Nat) (b:Int) (a:aX):Option (Int):=
 if b=(20:Int)then(Option.bind (sB U a) λi=>(Option.bind (jN U (decide (i=(a.length:Int)))) λj=>(some (j))))else(if b=(21:Int)then(Option.bind (sB U a) λk=>(Option.bind (jN U (decide ((0:Int)<k))) λc=>(some (c))))else(if b=(22:Int)then(Option.bind (sB U a) λd=>(some (d)))else(if b=(23:Int)then(Option.bind (oQ U a (λl=>qE U l)) λe=>(some (e)))else(if b=(24:Int)then(bK (vG a) U ((1073741824:Int),(0:Int)))else(if b=(25:Int)then(Option.bind (sC U a) λf=>(some (f.1)))else(if b=(26:Int)then(bK (vH U a) U ((0:Int),(0:Int)))else(if b=(27:Int)then(Option.bind (CJ U a) λg=>(some (g)))else(if b=(28:Int)then(Option.bind (sC U a) λh=>(some (h.2)))else(if(a.length:Int)=(0:Int)then(some (0:Int))else(ck (0<=(0:Int)∧(0:Int)<(a.length:Int)) (some (at' a (0:Int)))))))))))))
theorem acd:aV Tryz.prog 258:=Tryz.call258
theorem Sg (U:Nat) {H:Int} {g:aX} (f:Value) (r:Int) (h:Dj U H g=some r):
  aW Tryz.prog 258 #[vI (H),f] [Sl bX f g] (λx:Unit=>vI (r)) (λx l=>l) (λ_ l=>l):=by
 refine aW.of Tryz.func258 Z Tryz.ntmps258 Z λc=>?_;refine aR<|aB Z<|aL<|aK<|aR<|aA Z<|aL<|aS<|aR<|bS Z<|aB Z<|aL ?_;refine d_ h Z (λh=>?_) λh=>?_
 ·refine aR<|aA Z<|dZ h λK N h=>aH (zBg Pa (Fa U f K N) Z (jP [0] Z)) Z λY=>aA Z<|iF (aD.fact 0 Z) Z<|bS Z<|dZ h λL O h=>aH (zBg AX (mC U  L O) Z .nil) Z λx7=>aB Z<|aL<|aQ<|bG<|aI ?_;cases h;exact fW Z
 refine aR<|bS Z<|aB Z<|aL ?_;refine d_ h Z (λh=>?_) λh=>?_
 ·refine aR<|aA Z<|dZ h λM z h=>aH (zBg Pa (Fa U f M z) Z (jP [0] Z)) Z λP=>aC (uE Z Z) Z<|dZ h λq A h=>aH (zBg AX (mC U  q A) Z .nil) Z λQ=>aB Z<|aL<|aQ<|bG<|aI ?_;cases h;exact fW Z
 refine aR<|bS Z<|aB Z<|aL ?_;refine d_ h Z (λh=>?_) λh=>?_
 ·refine aR<|aA Z<|dZ h λs B h=>aH (zBg Pa (Fa U f s B) Z (jP [0] Z)) Z λR=>aB Z<|aL<|aQ<|bG<|aI ?_;cases h;exact fW Z
 refine aR<|bS Z<|aB Z<|aL ?_;refine d_ h Z (λh=>?_) λh=>?_
 ·refine aR<|aA Z<|dZ h λt C h=>aH (zBg acf (Ib U 267 [] [] acg (λy0 r h=>Nm U  r h) f t C) Z (jP [0] Z)) Z λS=>aB Z<|aL<|aQ<|bG<|aI ?_;cases h;exact fW Z
 refine aR<|bS Z<|aB Z<|aL ?_;refine d_ h Z (λh=>?_) λh=>?_
 ·refine aR<|aB Z<|aL<|aK<|dK (λd=>Cg  d=some r) (λd i=>[(5,vI (d))]) (λd i=>[]) ?_ ?_
  ·refine aR<|aA Z<|iF (aD.fact 0 Z) Z<|aA Z<|aL<|aS<|eB (vG g) (λa j=>[(5,vI (a.1)),(40,f),(41,vI (g.length:Int)),(42,vI (a.2))]) (λa j=>[]) ((1073741824:Int),(0:Int)) () h SF (bA.refl _) ?_;intro I a j h;refine aR<|cZ Z<|aL<|aK ?_;refine d_ h Z (λh=>?_) λh=>?_
   ·refine cE<|aK<|aS<|aR<|dW h λn h=>aC (a_ Z Z (aD.fact 0 Z) Z Z n) Z<|aC (bY Z (aD.fact 0 Z) Z Z Z eH n) Z<|aB Z<|aL<|aO<|aA Z<|aA Z<|aC (NN Z Z) Z<|aB Z<|eN<|jH<|aO<|cD Z<|aA Z<|aL ?_;exact tV ((min a.1 (at' g a.2)),(wI .i64 (a.2+(1:Int)))) () h SF Z
   refine eS ?_;exact eW (a.1) () h SF Z
  intro d i h;unfold Cg at h;refine aR<|aA Z<|aB Z<|aL<|aQ<|bG<|aI ?_;cases h;exact fW Z
 refine aR<|bS Z<|aB Z<|aL ?_;refine d_ h Z (λh=>?_) λh=>?_
 ·refine aR<|aA Z<|dZ h λu D h=>aH (zBg UV (CX U f u D) Z (jP [0] Z)) Z λT=>aA Z<|eQ Z<|eQ Z<|aB Z<|aB Z<|aL<|aR<|aA Z<|aB Z<|aL<|aQ<|bG<|aI ?_;cases h;exact fW Z
 refine aR<|bS Z<|aB Z<|aL ?_;refine d_ h Z (λh=>?_) λh=>?_
 ·refine aR<|aB Z<|aL<|aK<|dK (λe=>EK U e=some r) (λe k=>[(10,vI (e))]) (λe k=>[]) ?_ ?_
  ·refine aR<|aA Z<|iF (aD.fact 0 Z) Z<|aA Z<|aL<|aS<|eB (vH U g) (λb m=>[(10,vI (b.1)),(61,f),(62,vI (g.length:Int)),(63,vI (b.2))]) (λb m=>[]) ((0:Int),(0:Int)) () h SF (bA.refl _) ?_;intro J b m h;refine aR<|cZ Z<|aL<|aK ?_;refine d_ h Z (λh=>?_) λh=>?_
   ·refine cE<|aK<|aS<|aR<|dW h λo h=>aC (a_ Z Z (aD.fact 0 Z) Z Z o) Z<|aC (bY Z (aD.fact 0 Z) Z Z Z eH o) Z<|aB Z<|aL<|aO<|aA Z<|aA Z<|cD Z<|aB Z<|eN<|jH<|aO<|cD Z<|aA Z<|aL ?_;exact tV ((wI .i64 (b.1+(at' g b.2))),(wI .i64 (b.2+(1:Int)))) () h SF Z
   refine eS ?_;exact eW (b.1) () h SF Z
  intro e k h;refine aR<|aA Z<|dZ h λv E h=>aH (zBg GC (n_ U  v E) Z .nil) Z λV=>aB Z<|aL<|aQ<|bG<|aI ?_;cases h;exact fW Z
 refine aR<|bS Z<|aB Z<|aL ?_;refine d_ h Z (λh=>?_) λh=>?_
 ·refine aR<|aA Z<|dZ h λw F h=>aH (zBg ach (Uk U f w F) Z (jP [0] Z)) Z λW=>aB Z<|aL<|aQ<|bG<|aI ?_;cases h;exact fW Z
 refine aR<|bS Z<|aB Z<|aL ?_;refine d_ h Z (λh=>?_) λh=>?_
 ·refine aR<|aA Z<|dZ h λy G h=>aH (zBg UV (CX U f y G) Z (jP [0] Z)) Z λX=>aA Z<|eQ Z<|eQ Z<|aB Z<|aB Z<|aL<|aR<|aA Z<|aB Z<|aL<|aQ<|bG<|aI ?_;cases h;exact fW Z
 refine dM<|jH<|aK<|aR<|aA Z<|iF (aD.fact 0 Z) Z<|bS Z<|aL ?_;refine d_ h Z (λh=>?_) λh=>?_
 ·refine aR<|aB Z<|aL<|aQ<|aI ?_;cases h;exact fW Z
 refine cE<|aR<|aA Z<|dW h λp h=>aC (a_ Z Z (aD.fact 0 Z) Z Z p) Z<|aC (bY Z (aD.fact 0 Z) Z Z Z eH p) Z<|aB Z<|aL<|aQ ?_;cases h;exact fW Z
def pA  (a:eL):Option gC:=
 some (a.1,a.2)
def lE (U:Nat) (a:Qo) (e:Int) (b:qA) (c:Int):Option gC:=
 ck (0<=((at' a.1.2.1.2 a.2.2.1).length:Int)∧((at' a.1.2.1.2 a.2.2.1).length:Int)<=((24:Nat):Int)∧((at' a.1.2.1.2 a.2.2.1).length:Int)<=(b.2.length:Int)) (Option.bind (Dj U ((at' a.2.2.2 e).1) (List.take (Int.toNat ((at' a.1.2.1.2 a.2.2.1).length:Int)) b.2)) λd=>(pA  (d,c)))
def tE (U:Nat) (b:Qo) (c:Int) (a:qA):Option gC:=
 if((at' b.1.2.1.2 b.2.2.1).length:Int)=(0:Int)then(Option.bind (ER U b.2.2.2 c) λd=>(lE U b c a (d)))else(lE U b c a (a.1))
def lF (U:Nat) (b:Qo) (e:Int) (f:VO->Int->Int->Option gC) (a:Int×Int×aX) (c:(Int×Int×aX)->Option gC):Option gC:=
 if a.2.1<((at' b.1.2.1.2 b.2.2.1).length:Int)then(Option.bind (f ((((((b.1.1.1,b.1.1.2.1,b.1.1.2.2)),((b.1.2.1.1,b.1.2.1.2)),b.1.2.2.1,b.1.2.2.2)),b.2.1,b.2.2.1,b.2.2.2)) (wI .i64 (e+(1:Int))) a.2.1) λd=>(ck ((0<=a.2.1∧a.2.1<((24:Nat):Int))∧a.2.2.length=24) (c (d.2,(wI .i64 (a.2.1+(1:Int))),(List.set a.2.2 (Int.toNat a.2.1) d.1)))))else(tE U b e (a.1,a.2.2))
def eO (e:VO->Int->Int->Option gC) (U:Nat) (a:Qo) (b:Int) (c:Int):Option gC:=
 ck (0<=b∧b<(a.2.2.2.length:Int)) (if((at' a.2.2.2 b).1)<=(17:Int)then(Option.bind (nF U ((((((a.1.1.1,a.1.1.2.1,a.1.1.2.2)),((a.1.2.1.1,a.1.2.1.2)),a.1.2.2.1,a.1.2.2.2)),a.2.1,a.2.2.1,a.2.2.2)) ((((at' a.2.2.2 b).1),((at' a.2.2.2 b).2))) c) λm=>(some (m,(wI .i64 (b+(1:Int))))))else(if((at' a.2.2.2 b).1)<=(19:Int)then(Option.bind (e ((((((a.1.1.1,a.1.1.2.1,a.1.1.2.2)),((a.1.2.1.1,a.1.2.1.2)),a.1.2.2.1,a.1.2.2.2)),a.2.1,a.2.2.1,a.2.2.2)) (wI .i64 (b+(1:Int))) c) λl=>(Option.bind (Ch U ((at' a.2.2.2 b).1) l.1) λj=>(some (j,l.2))))else(if((at' a.2.2.2 b).1)<=(29:Int)then(ck (0<=a.2.2.1∧a.2.2.1<(a.1.2.1.2.length:Int)) (bK (lF U a b e) U ((0:Int),(0:Int),(List.replicate 24 (0:Int)))))else(if((at' a.2.2.2 b).1)<=(42:Int)then(Option.bind (e ((((((a.1.1.1,a.1.1.2.1,a.1.1.2.2)),((a.1.2.1.1,a.1.2.1.2)),a.1.2.2.1,a.1.2.2.2)),a.2.1,a.2.2.1,a.2.2.2)) (wI .i64 (b+(1:Int))) c) λf=>(Option.bind (e ((((((a.1.1.1,a.1.1.2.1,a.1.1.2.2)),((a.1.2.1.1,a.1.2.1.2)),a.1.2.2.1,a.1.2.2.2)),a.2.1,a.2.2.1,a.2.2.2)) f.2 c) λg=>(Option.bind (Bb U ((at' a.2.2.2 b).1) f.1 g.1) λk=>(some (k,g.2)))))else(Option.bind (e ((((((a.1.1.1,a.1.1.2.1,a.1.1.2.2)),((a.1.2.1.1,a.1.2.1.2)),a.1.2.2.1,a.1.2.2.2)),a.2.1,a.2.2.1,a.2.2.2)) (wI .i64 (b+(1:Int))) c) λh=>(Option.bind (e ((((((a.1.1.1,a.1.1.2.1,a.1.1.2.2)),((a.1.2.1.1,a.1.2.1.2)),a.1.2.2.1,a.1.2.2.2)),a.2.1,a.2.2.1,a.2.2.2)) h.2 c) λi=>(Option.bind (e ((((((a.1.1.1,a.1.1.2.1,a.1.1.2.2)),((a.1.2.1.1,a.1.2.1.2)),a.1.2.2.1,a.1.2.2.2)),a.2.1,a.2.2.1,a.2.2.2)) i.2 c) λd=>(if h.1≠(0:Int)then(some (i.1,d.2))else(some (d.1,d.2))))))))))
def cF:Nat->VO->Int->Int->Option gC
 |0,_,_,_=>none
 |U+1,p0,p1,p2=>eO (cF U) U p0 p1 p2
theorem De:aV Tryz.prog 231:=Tryz.call231
theorem E_ (X:VO->Int->Int->Option gC) (U:Nat) (p:∀{a:Qo} {m:Int} {M:Int} (b:Nat)  (f:Nat)  (q:Value)  (s:Value)  (t:Value)  (u:Value)  (C:iX)  (v:Value)  (D:lU)  (w:Value)  (g:lU)  (d:Value) (r:eL),X a m M=some r->aW Tryz.prog 231 #[vP b,vI (m),vI (M)] [cJ b [vP f,w,vI (a.2.2.1),d] 258,cJ f [vS (a.1.1.1),q,s,t,u,vI (a.1.2.2.1),v] 224,Sl aP q a.1.1.2.1,Sl aJ s a.1.1.2.2,Sl bX t a.1.2.1.1,S2 bD u C a.1.2.1.2,S2 bX v D a.1.2.2.2,S2 bX w g a.2.1,Sl bD d a.2.2.2] (λx:Unit=>Value.tuple #[vI (r.1),vI (r.2)]) (λx l=>l) (λ_ l=>l)) {a:Qo} {m:Int} {M:Int} (b:Nat)  (f:Nat)  (q:Value)  (s:Value)  (t:Value)  (u:Value)  (C:iX)  (v:Value)  (D:lU)  (w:Value)  (g:lU)  (d:Value) (r:eL) (h:eO X U a m M=some r):
  aW Tryz.prog 231 #[vP b,vI (m),vI (M)] [cJ b [vP f,w,vI (a.2.2.1),d] 258,cJ f [vS (a.1.1.1),q,s,t,u,vI (a.1.2.2.1),v] 224,Sl aP q a.1.1.2.1,Sl aJ s a.1.1.2.2,Sl bX t a.1.2.1.1,S2 bD u C a.1.2.1.2,S2 bX v D a.1.2.2.2,S2 bX w g a.2.1,Sl bD d a.2.2.2] (λx:Unit=>Value.tuple #[vI (r.1),vI (r.2)]) (λx l=>l) (λ_ l=>l):=by
 refine aW.of Tryz.func231 Z Tryz.ntmps231 Z λc=>?_;refine aR<|aB Z<|aB Z<|aL<|aR<|aA Z<|aC (dB Z) Z<|bN Z<|aC (fJ Z (aD.fact 0 Z) Z Z Z) Z<|aA Z<|dW h λj1 h=>aC (a_ Z Z (aD.fact 8 Z) Z Z j1) Z<|aC (jT (cs:=[vI ((at' a.2.2.2 m).1),vI ((at' a.2.2.2 m).2)]) Z (aD.fact 8 Z) cG Z Z Z Z j1) Z<|aH (aN.alloc (cs:=XA) Z Z) Z λb2=>bF 0 (vs:=[vI ((at' a.2.2.2 m).1),vI ((at' a.2.2.2 m).2)]) Z Z Z Z Z Z<|aL<|aK<|aS<|aR<|bN Z<|dL 0 Z<|aC (uF Z Z) Z<|aB Z<|aL ?_;refine d_ h Z (λh=>?_) λh=>?_
 ·refine aR<|aA Z<|cM 0 Z<|aA Z<|dZ h λr4 w5 h=>aH (zBg abZ (Hh U b f q s t u C v D w g d r4 w5) Z (jP [0,1,2,3,4,5,6,7,8] Z)) Z λx6=>aA Z<|cD Z<|aB Z<|aB Z<|aL<|aQ<|bG<|aI ?_;cases h;exact eD () Z Z (RV.tmp Z) (RV.tmp Z) .nil aG.nil
 refine aR<|bN Z<|dL 0 Z<|aC (uF Z Z) Z<|aB Z<|aL ?_;refine d_ h Z (λh=>?_) λh=>?_
 ·refine aR<|aA Z<|aA Z<|cD Z<|aA Z<|dZ h λr8 w9 h=>aH (zBg De (p b f q s t u C v D w g d r8 w9) Z (jP [0,1,2,3,4,5,6,7,8] Z)) Z λak=>aA Z<|eQ Z<|eQ Z<|aB Z<|aB Z<|aL<|aR<|bN Z<|dL 0 Z<|aA Z<|dZ h λP Y h=>aH (zBg ab_ (PY U  P Y) Z .nil) Z λal=>aA Z<|aB Z<|aB Z<|aL<|aQ<|bG<|aI ?_;cases h;exact eD () Z Z (RV.tmp Z) (RV.tmp Z) .nil aG.nil
 refine aR<|bN Z<|dL 0 Z<|aC (uF Z Z) Z<|aB Z<|aL ?_;refine d_ h Z (λh=>?_) λh=>?_
 ·refine aR<|aA Z<|bN Z<|dL 0 Z<|aA Z<|HE (A:=eL) (B:=Unit) (vs:=[vP b,vI ((at' a.2.2.2 m).1),vI (m)]) (λn=>pA  n=some r) (λn G=>Value.tuple #[vI (n.1),vI (n.2)]) (λn G=>[]) (λn G=>[cJ b [vP f,w,vI (a.2.2.1),d] 258,cJ f [vS (a.1.1.1),q,s,t,u,vI (a.1.2.2.1),v] 224,Sl aP q a.1.1.2.1,Sl aJ s a.1.1.2.2,Sl bX t a.1.2.1.1,S2 bD u C a.1.2.1.2,S2 bX v D a.1.2.2.2,S2 bX w g a.2.1,Sl bD d a.2.2.2]) (Ca.fn (show aV Tryz.prog 249 from Tryz.call249) Z) Tryz.func249 Z Tryz.ntmps249 Z Z ?_ ?_
  ·refine aR<|aB Z<|aB Z<|aL<|aR ?_;refine aH (aN.alloc (cs:=cellsOf cS (List.replicate 24 (0:Int))) Z (by kernel_rfl)) Z λo=>?_;refine aL<|aK ?_;refine JR.start [0,1,3,7,15,31,63,127,0,256,768,1792,4095,8191,16383,32767] 12 mixedOrders (by decide +kernel) ?_;refine zBj (by exact rfl) ?_;refine aY Z<|iY Z (dB Z)<|cB Z<|bM Z .nil (kH 0 Z) (fJ Z (aD.fact 0 Z) Z Z Z) aU.z<|iY Z (dB Z)<|cB Z<|cB Z<|bM Z .nil (kH 1 Z) (fJ Z (aD.fact 0 Z) Z Z Z) aU.z<|aY Z<|iY Z (dB Z)<|cB Z<|bM Z .nil (kH 0 Z) (fJ Z (aD.fact 0 Z) Z Z Z) aU.z<|bP 12 Z Z<|dW h λE h=>aC (cY Z Z (aD.fact 5 Z) Z Z E) Z<|aC (cL Z (aD.fact 5 Z) Z Z E) Z<|aC (fX Z (zBi (aD.fact 5 Z) E.1 E.2) Z) Z<|aB Z<|aL<|aK<|dK (λk=>tE U a m k=some r) (λk H=>[(0,vP b),(1,vI ((at' a.2.2.2 m).1)),(2,vI (m)),(7,vI (k.1)),(8,vP o),(9,vI ((at' a.1.2.1.2 a.2.2.1).length:Int))]) (λk H=>[cJ o (cellsOf cS k.2) 113]) ?_ ?_
   ·refine aR<|aA Z<|aA Z<|aL<|aS<|eB (lF U a m X) (λj J=>[(0,vP b),(1,vI ((at' a.2.2.2 m).1)),(2,vI (m)),(7,vI (j.1)),(8,vP o),(9,vI ((at' a.1.2.1.2 a.2.2.1).length:Int)),(26,vI ((at' a.1.2.1.2 a.2.2.1).length:Int)),(27,vI (j.2.1))]) (λj J=>[cJ o (cellsOf cS j.2.2) 113]) ((0:Int),(0:Int),(List.replicate 24 (0:Int))) () h SF (bA.ix [0] Z Z) ?_;intro aj j J h;refine aR<|cZ Z<|aL<|aK ?_;refine d_ h Z (λh=>?_) λh=>?_
    ·refine cE<|aK<|aS<|aR<|aA Z<|aB Z<|aL<|aO<|aA Z<|aA Z<|aA Z<|cD Z<|aA Z<|dZ h λF ac h=>aH (zBg De (p b f q s t u C v D w g d F ac) Z (jP [0,1,2,3,4,5,6,7,8] Z)) Z λao=>aA Z<|eQ Z<|eQ Z<|dW h λL h=>aC (lM Z Z Z Z Z L.1) Z<|HF 0 (e:=cS) F.1 L Z Z Z Z Z Z Z<|aB Z<|eN<|jH<|aO<|cD Z<|aA Z<|aL ?_;exact tV (F.2,(wI .i64 (j.2.1+(1:Int))),(List.set j.2.2 (Int.toNat j.2.1) F.1)) () h SF Z
    refine eS ?_;exact eW (j.1,j.2.2) () h SF Z
   intro k H h;refine aK<|dK (λy=>lE U a m k y=some r) (λy I=>[(1,vI ((at' a.2.2.2 m).1)),(7,vI (y)),(8,vP o),(9,vI ((at' a.1.2.1.2 a.2.2.1).length:Int))]) (λy I=>[cJ o (cellsOf cS k.2) 113]) ?_ ?_
   ·refine aR<|aA Z<|bS Z<|aL ?_;refine d_ h Z (λh=>?_) λh=>?_
    ·refine aO<|aA Z<|aC (dB Z) Z<|bN Z<|aC (fJ Z (aD.fact 0 Z) Z Z Z) Z<|aA Z<|dZ h λO ab h=>aH (zBg abP (Ul U d O ab) Z (jP [8] Z)) Z λan=>aB Z<|aL ?_;exact eW (O) () h SF Z
    refine cE ?_;exact eW (k.1) () h SF Z
   intro y I h;refine aR<|aA Z<|aA Z<|dW h λK h=>aC (Tq Z Z Z Z K) Z<|dZ h λN aa h=>aH (zBg acd (Sg U (Value.slice (some ⟨o,0,none⟩) (Int.toNat ((at' a.1.2.1.2 a.2.2.1).length:Int)) 24) N aa) Z (aG.cons (XR (i:=0) Z dD K (by decide)) .nil)) Z λam=>?_;refine aA Z<|aB Z<|aB Z<|aL<|aQ ?_;exact Dp (N,y) () h (.inl Z) (MX.r2 Z (RV.tmp Z) (RV.tmp Z)) Z .nil (aG.refl _ _)
  intro n G h;unfold pA at h;refine eQ Z<|eQ Z<|aB Z<|aB Z<|aL<|aQ<|bG<|aI ?_;cases h;exact eD () Z Z (RV.tmp Z) (RV.tmp Z) (bA.refl _) aG.nil
 refine aR<|bN Z<|dL 0 Z<|aC (uF Z Z) Z<|aB Z<|aL ?_;refine d_ h Z (λh=>?_) λh=>?_
 ·refine aR<|aA Z<|aA Z<|cD Z<|aA Z<|dZ h λQ ad h=>aH (zBg De (p b f q s t u C v D w g d Q ad) Z (jP [0,1,2,3,4,5,6,7,8] Z)) Z λap=>aA Z<|eQ Z<|eQ Z<|aB Z<|aB Z<|aL<|aR<|aA Z<|aA Z<|aA Z<|dZ h λR ae h=>aH (zBg De (p b f q s t u C v D w g d R ae) Z (jP [0,1,2,3,4,5,6,7,8] Z)) Z λaq=>aA Z<|eQ Z<|eQ Z<|aB Z<|aB Z<|aL<|aR<|bN Z<|dL 0 Z<|aA Z<|aA Z<|dZ h λS af h=>aH (zBg aca (Nl U  S af) Z .nil) Z λar=>aA Z<|aB Z<|aB Z<|aL<|aQ<|bG<|aI ?_;cases h;exact eD () Z Z (RV.tmp Z) (RV.tmp Z) .nil aG.nil
 refine dM<|jH<|aR<|aA Z<|aA Z<|cD Z<|aA Z<|dZ h λT ag h=>aH (zBg De (p b f q s t u C v D w g d T ag) Z (jP [0,1,2,3,4,5,6,7,8] Z)) Z λau=>aA Z<|eQ Z<|eQ Z<|aB Z<|aB Z<|aL<|aR<|aA Z<|aA Z<|aA Z<|dZ h λV ah h=>aH (zBg De (p b f q s t u C v D w g d V ah) Z (jP [0,1,2,3,4,5,6,7,8] Z)) Z λav=>aA Z<|eQ Z<|eQ Z<|aB Z<|aB Z<|aL<|aR<|aA Z<|aA Z<|aA Z<|dZ h λW ai h=>aH (zBg De (p b f q s t u C v D w g d W ai) Z (jP [0,1,2,3,4,5,6,7,8] Z)) Z λaw=>aA Z<|eQ Z<|eQ Z<|aB Z<|aB Z<|aL<|aK<|aR<|aA Z<|jQ Z<|aL ?_;refine d_ h Z (λh=>?_) λh=>?_
 ·refine aR<|aA Z<|aA Z<|aB Z<|aB Z<|aL<|aQ<|aI ?_;cases h;exact eD () Z Z (RV.tmp Z) (RV.tmp Z) .nil aG.nil
 refine cE<|aR<|aA Z<|aA Z<|aB Z<|aB Z<|aL<|aQ ?_;cases h;exact eD () Z Z (RV.tmp Z) (RV.tmp Z) .nil aG.nil
theorem Gg (U:Nat):∀{a:Qo} {p:Int} {q:Int} (b:Nat)  (c:Nat)  (f:Value)  (g:Value)  (i:Value)  (j:Value)  (n:iX)  (k:Value)  (o:lU)  (m:Value)  (e:lU)  (d:Value) (r:eL),cF U a p q=some r->
  aW Tryz.prog 231 #[vP b,vI (p),vI (q)] [cJ b [vP c,m,vI (a.2.2.1),d] 258,cJ c [vS (a.1.1.1),f,g,i,j,vI (a.1.2.2.1),k] 224,Sl aP f a.1.1.2.1,Sl aJ g a.1.1.2.2,Sl bX i a.1.2.1.1,S2 bD j n a.1.2.1.2,S2 bX k o a.1.2.2.2,S2 bX m e a.2.1,Sl bD d a.2.2.2] (λx:Unit=>Value.tuple #[vI (r.1),vI (r.2)]) (λx l=>l) (λ_ l=>l):=by
 induction U with
 |zero=>intros;rename_i h;cases h
 |succ U s=>exact λb c f g i j n k o m e d r h=>E_ (cF U) U s b c f g i j n k o m e d r h
end Go.Proofs.YtahgemjmgopleaaGreatDoor