/- Models and proofs. Conditions: none. -/
import Derived.Test.YtflciafboapaaaaGreatZRSt1
import Derived.Maps.RangeRun
set_option linter.unusedVariables false
set_option linter.unusedSimpArgs false
set_option maxHeartbeats 4000000
set_option maxRecDepth 20000
namespace Go.Sx
open Go.RowKit
section
variable {P:Program} {rd:Option Nat} {c:xY} {n:Sz} {σ:Fr} {M L M' L':List bJ} {Q:Exit->Act->World->Prop} {ops:Array Oper} {rest:List Oper} {K:Act->World->Prop}
variable {d:Option Tmp} {D:Nat} {ty:TypeId} {pos:String} {aft:Array Edge} {g:Option (Nat×Bool)}
variable {α β:Type} {e:bL α} {r:eD α}
theorem aO.b {A:Nat->Bool} {f a M L:List bJ} {j:Nat} {H:List (Nat×List bJ×List bJ)} (h:A j=true) (k:aO A f a H):aO A f a ((j,M,L)::H):=⟨.inl h,k⟩
theorem aO.h {A:Nat->Bool} {b a M L:List bJ} {j:Nat} {H:List (Nat×List bJ×List bJ)} (h:a_ M b) (f:iN L a) (k:aO A b a H):aO A b a ((j,M,L)::H):=⟨.inr ⟨h,f⟩,k⟩
theorem aO.z {A:Nat->Bool} {b a:List bJ}:aO A b a []:=trivial
theorem BS.b {A:Nat->Bool} {f a M L:List bJ} {j:Nat} {H:List (Nat×List bJ×List bJ)} (h:A j=true) (k:BS A M L H):BS A M L ((j,f,a)::H):=⟨.inl h,k⟩
theorem BS.h {A:Nat->Bool} {b a M L:List bJ} {j:Nat} {H:List (Nat×List bJ×List bJ)} (h:a_ M b) (f:iN L a) (k:BS A M L H):BS A M L ((j,b,a)::H):=⟨.inr ⟨h,f⟩,k⟩
theorem BS.z {A:Nat->Bool} {M L:List bJ}:BS A M L []:=trivial
theorem eZ {v:Value} {vs:List Value} (h:one v=true) (k:vs.all one=true):(v::vs).all one=true:=by simp[h,k]
theorem fY (k:IntKind) (x:Int):(Value.int k x).cells = #[.int k x]:=rfl
theorem fD (b:Bool):(Value.bool b).cells = #[.bool b]:=rfl
theorem eL (a:Option Addr) (l k:Nat):(Value.slice a l k).cells = #[.slice a l k]:=rfl
theorem fZ (a:Option Addr):(Value.pointer a).cells = #[.pointer a]:=rfl
theorem f_ (a:ByteArray):(Value.string a).cells = #[.string a]:=rfl
theorem fE (f:Fn) (a b:Array Value):(Value.func f a b).cells = #[.func f a b]:=rfl
theorem CX (q:Nat) {vs:List Value} {a:List (List α)} {k:Int} {u:Value} (s:M[q]? = some (gN e (vs.set k.toNat u) a)) (h:0<=k∧k<a.length):∀c w,St c M L w->Go.Sx.one u=true:=λc w t=>by
 obtain⟨S,p,x,m,_⟩:=t.res s;have f:k.toNat<vs.length:=by simp at p;omega
 obtain⟨_,_,o⟩:=m k.toNat u _ (by rw[zAd f]) (zA2 (by omega));rcases o with⟨i,_⟩|⟨b,v,j,T,l,i,_⟩<;>(rw[i];rfl)
theorem TY [eB P] [Inhabited α] {T o:TypeId} {C:Nat} {z:Value} {l:TypeDesc} {x:Operand} {b k:Nat} {i:Int} {f:List α} {u:Value} (m:ev σ x=some (.pointer (some ⟨b,i.toNat*1,none⟩)))
  (q:aA M L (bO b (cellsOf e f) o)) (v:eB.tab P T=some ⟨l,1,C,z⟩) (y:Aq l=false) (A:e.sz=1) (B:(e.enc (at' f i))=[u]) (h:(0<=i∧i<(k:Int))∧f.length=k):
  Y P c n σ M L ⟨d,.load T x,ty,pos,aft,g⟩ u:=λa w s t=>by
 obtain⟨F,p⟩:=q.st t;have j:=Da e f i.toNat (at' f i) (cV h.1.1 (by omega)) 0 u (by rw[B];rfl);rw[A,Nat.add_zero]at j;rw[Nat.mul_one]at m j;simp[execOp,s.eval m,Ch (eB.ok v) y (bO.cell p j)]
theorem Kn [eB P] (q:Nat) {T j:TypeId} {B:Nat} {z:Value} {p:TypeDesc} {x y:Operand} {b k:Nat} {i:Int} {a:List α} {u:Value} (o:α) (h:(0<=i∧i<(k:Int))∧a.length=k) (m:ev σ x=some (.pointer (some ⟨b,i.toNat*1,none⟩))) (A:ev σ y=some u)
  (s:M[q]? = some (bO b (cellsOf e a) j)) (w:e.enc o=[u]) (f:one u=true) (t:eB.tab P T=some ⟨p,1,B,z⟩) (l:e.sz=1)
  (v:J c n σ (M.set q (bO b (cellsOf e (a.set i.toNat o)) j)) L (wpList P ops Q rest)):
  J c n σ M L (wpList P ops Q (⟨none,.store T x y,ty,pos,aft,none⟩::rest)):=by
 rw[Nat.mul_one]at m;refine sY q m A f s t ?_ ?_
 ·have:=fO e a;rw[l]at this;rw[zAu];omega
 ·rw[<-yA l w];exact v
end
end Go.Sx
namespace Go.Sx
section
abbrev vI (x:Int):Value:= .int .i64 x
abbrev vU (x:Int):Value:= .int .u32 x
abbrev vP (b:Nat):Value:= .pointer (some ⟨b,0,none⟩)
open Go.RowKit
variable {P:Program} {rd:Option Nat} {c:xY} {n:Sz} {σ:Fr} {M L:List bJ} {Q:Exit->Act->World->Prop} {ops:Array Oper} {rest:List Oper} {d:Nat} {ty:TypeId} {pos:String} {aft:Array Edge} {x y:Operand} {v:Value} {K:Act->World->Prop}
theorem aB (h:(ev σ x,Nat.blt d n.sz)=(some v,true)) (k:J c n ((d,v)::σ) M L (wpList P ops Q rest)):J c n σ M L (wpList P ops Q (⟨some d,.move x,ty,pos,aft,none⟩::rest)):=aC (dZ (Prod.mk.inj h).1) (Prod.mk.inj h).2 k
theorem aD (h:(ev σ x,Nat.blt d n.sz)=(some v,true)) (k:J c n ((d,v)::σ) M L (wpList P ops Q rest)):J c n σ M L (wpList P ops Q (⟨some d,.assign x,ty,pos,aft,none⟩::rest)):=aC (Cm (Prod.mk.inj h).1) (Prod.mk.inj h).2 k
theorem bX [eB P] {T:TypeId} {r s i t:Nat} {z w:Value} {e:Array Field} {p u q:String} {m:Bool} {g a j:Nat} {l:TypeDesc} {b o f:Nat} (h:(ev σ x,eB.tab P T,e[f]?,eB.tab P g,i==0,Nat.blt d n.sz)=(some (.pointer (some ⟨b,o,none⟩)),some ⟨.struct e,r,s,z⟩,some ⟨p,g,a,m,u,q,j⟩,some ⟨l,i,t,w⟩,false,true)) (k:J c n ((d,.pointer (some ⟨b,o+a,none⟩))::σ) M L (wpList P ops Q rest)):J c n σ M L (wpList P ops Q (⟨some d,.fieldAddr T x f,ty,pos,aft,none⟩::rest)):=by
  simp only[Prod.mk.injEq]at h;exact aC (cT h.1 h.2.1 h.2.2.1 h.2.2.2.1 h.2.2.2.2.1) h.2.2.2.2.2 k
theorem dU [eB P] (i:Nat) {T e:TypeId} {f g:Nat} {z:Value} {a:TypeDesc} {b o:Nat} {cs:List Value} (h:(ev σ x,M[i]?,eB.tab P T,Aq a,cs[o]?,Nat.blt d n.sz)=(some (.pointer (some ⟨b,o,none⟩)),some (bO b cs e),some ⟨a,f,g,z⟩,false,some v,true)) (k:J c n ((d,v)::σ) M L (wpList P ops Q rest)):J c n σ M L (wpList P ops Q (⟨some d,.load T x,ty,pos,aft,none⟩::rest)):=by
  simp only[Prod.mk.injEq]at h;exact aC (dQ i h.1 h.2.1 h.2.2.1 h.2.2.2.1 h.2.2.2.2.1) h.2.2.2.2.2 k
theorem cM [eB P] (i:Nat) {T e:TypeId} {f:Nat} {z:Value} {a:TypeDesc} {b:Nat} {cs:List Value} (h:(ev σ x,M[i]?,eB.tab P T,Aq a,Nat.blt d n.sz)=(some (.pointer (some ⟨b,0,none⟩)),some (bO b cs e),some ⟨a,cs.length,f,z⟩,true,true)) (k:J c n ((d,.agg cs.toArray)::σ) M L (wpList P ops Q rest)):J c n σ M L (wpList P ops Q (⟨some d,.load T x,ty,pos,aft,none⟩::rest)):=by
  simp only[Prod.mk.injEq]at h;exact aC (cZ i h.1 h.2.1 h.2.2.1 h.2.2.2.1) h.2.2.2.2 k
theorem aK {e:Op} {j:Nat} {b a:Bool} (h:(gv ops σ j,a==b,Nat.blt d n.sz)=(some a,false,true)) (k:J c n ((d,undef)::σ) M L (wpList P ops Q rest)):J c n σ M L (wpList P ops Q (⟨some d,e,ty,pos,aft,some (j,b)⟩::rest)):=by
  simp only[Prod.mk.injEq]at h;exact Vi h.1 h.2.1 h.2.2 k
theorem dH {j:Nat} {b:Bool} (h:(gv ops σ j,ev σ x,Nat.blt d n.sz)=(some b,some v,true)) (k:J c n ((d,v)::σ) M L (wpList P ops Q rest)):J c n σ M L (wpList P ops Q (⟨some d,.move x,ty,pos,aft,some (j,b)⟩::rest)):=by
  simp only[Prod.mk.injEq]at h;exact aR h.1 (dZ h.2.1) h.2.2 k
theorem cX {t a:TypeId} {i:IntKind} {p q:Int} (h:(ev σ x,ev σ y,Nat.blt d n.sz)=(some (.int i p),some (.int i q),true)) (k:J c n ((d,.bool (decide (p<q)))::σ) M L (wpList P ops Q rest)):J c n σ M L (wpList P ops Q (⟨some d,.binOp .lss t x y a,ty,pos,aft,none⟩::rest)):=by
  simp only[Prod.mk.injEq]at h;exact aC (EO h.1 h.2.1) h.2.2 k
theorem cI {t a:TypeId} {i:IntKind} {p q:Int} (h:(ev σ x,ev σ y,Nat.blt d n.sz)=(some (.int i p),some (.int i q),true)) (k:J c n ((d,.bool (decide (p=q)))::σ) M L (wpList P ops Q rest)):J c n σ M L (wpList P ops Q (⟨some d,.binOp .eql t x y a,ty,pos,aft,none⟩::rest)):=by
  simp only[Prod.mk.injEq]at h;exact aC (Fo h.1 h.2.1) h.2.2 k
theorem cW {t a:TypeId} {i:IntKind} {p q:Int} (h:(ev σ x,ev σ y,Nat.blt d n.sz)=(some (.int i p),some (.int i q),true)) (k:J c n ((d,.int i (wI i (p+q)))::σ) M L (wpList P ops Q rest)):J c n σ M L (wpList P ops Q (⟨some d,.binOp .add t x y a,ty,pos,aft,none⟩::rest)):=by
  simp only[Prod.mk.injEq]at h;exact aC (Fl h.1 h.2.1) h.2.2 k
theorem cdI {e b:Code} {p:Prop} {_:Decidable p} {f:Type} {u w:Option f} {r:f} (h:(if p then u else w)=some r) (j:ev σ x=some (.bool (decide p))) (i:p->u=some r->J c n σ M L (e.wpr rd P Q)) (g:¬p->w=some r->J c n σ M L (b.wpr rd P Q)):J c n σ M L ((Code.cond x e b).wpr rd P Q):=Yr j (λa=>i a (Ff a h)) (λa=>g a (Uv a h))
theorem eJ {b a:Code} {p:Prop} {_:Decidable p} {e:Type} {u w:Option e} {r:e} (h:(if p then u else w)=some r) (i:ev σ x=some (.bool (decide p))) (g:u=some r->J c n σ M L (b.wpr rd P Q)) (f:w=some r->J c n σ M L (a.wpr rd P Q)):J c n σ M L ((Code.cond x b a).wpr rd P Q):=cdI h i (λ_=>g) (λ_=>f)
theorem qS {f e:Code} {b:Bool} {g:Type} {u w:Option g} {r:g} (h:(if b=true then u else w)=some r) (k:ev σ x=some (.bool b)) (j:b=true->u=some r->J c n σ M L (f.wpr rd P Q)) (i:b=false->w=some r->J c n σ M L (e.wpr rd P Q)):J c n σ M L ((Code.cond x f e).wpr rd P Q):=Nm k (λa=>j a (Ff a h)) (λa=>i a (Cr a h))
theorem AL {d:Option Tmp} {f:Op} {j e:Nat} {p:Prop} {_:Decidable p} {b:Bool} {i:Type} {u w:Option i} {r:i} (h:(if p then u else w)=some r) (g:((ops[j]?).bind (·.dst),lk σ e)=(some e,some (.bool (decide p)))) (l:p->u=some r->J c n ((e,.bool true)::σ) M L (wpList P ops Q (⟨d,f,ty,pos,aft,some (j,b)⟩::rest))) (k:¬p->w=some r->J c n ((e,.bool false)::σ) M L (wpList P ops Q (⟨d,f,ty,pos,aft,some (j,b)⟩::rest))):J c n σ M L (wpList P ops Q (⟨d,f,ty,pos,aft,some (j,b)⟩::rest)):=Vh (Prod.mk.inj g).1 (Prod.mk.inj g).2 (λa=>l a (Ff a h)) (λa=>k a (Uv a h))
theorem aQ {ops:Array Oper} (h:J c n σ M L K):J c n σ M L (wpList P ops (Exit.then K Q) []):=h
theorem aX {id:Nat} {l:List Oper} {z:Code} (h:J c n σ M L (wpList P l.toArray (Exit.then (z.wpr rd P Q) Q) l)) (a:l.all kJ=true:=by rfl):J c n σ M L ((Code.seq (Code.region id l.toArray false) z).wpr rd P Q):=aN (aU h a)
variable {A B:Type} {ret:Unit->Value} {MO LO:Unit->List bJ->List bJ} {fn:Func} {C:A->Prop} {σI:A->B->Fr} {MI LI:A->B->List bJ}
theorem iJ {t:Tmp} (h:(ret (),fn.results,lk σ t,MO () [],LO () [],n.ds)=(v,#[.tmp t],some v,M,[],[])):J c n σ M L (nG P fn (OX c ret MO LO) .ret):=by
  simp only[Prod.mk.injEq]at h;exact pL () h.1 h.2.1 (RV.tmp h.2.2.1) (h.2.2.2.1▸a_.refl _) (by rw[h.2.2.2.2.1];exact aI.nil) h.2.2.2.2.2
theorem lY {t:Tmp} (h:(ret (),fn.results,lk σ t,MO () [],LO () [],n.ds)=(v,#[.tmp t],some v,[],[],[])):J c n σ M L (nG P fn (OX c ret MO LO) .ret):=by
  simp only[Prod.mk.injEq]at h;exact pL () h.1 h.2.1 (RV.tmp h.2.2.1) (by rw[h.2.2.2.1];exact a_.nil) (by rw[h.2.2.2.2.1];exact aI.nil) h.2.2.2.2.2
theorem LS {x:Code} (C:A->Prop) (σI:A->B->Fr) (MI:A->B->List bJ) (e:J c n σ M L (x.wpr rd P (Exit.then (Vq c n C σI MI (λ_ _=>L)) Q))) (f:∀a b,C a->J c n (σI a b) (MI a b) L K):J c n σ M L (x.wpr rd P (Exit.then K Q)):=lC C σI MI (λ_ _=>L) e f
theorem fJ {R:Type} {f:Code} (e:A->(A->Option R)->Option R) {r:R} {U:Nat} (σI:A->B->Fr) (MI:A->B->List bJ) (i:A) (j:B) (h:bP e U i=some r) (m:BB σ (σI i j)) (l:a_ M (MI i j)) (g:∀k a b,e a (bP e k)=some r->J c n (σI a b) (MI a b) L (f.wpr rd P (Exit.then (Yq c n e r σI MI (λ_ _=>L) k) Q))):J c n σ M L ((Code.loop f).wpr rd P Q):=oO e σI MI (λ_ _=>L) i j h m l (aI.refl _ _) g
theorem eG {x:Code} (C:A->Prop) (σI:A->Unit->Fr) (MI:A->Unit->List bJ) (e:J c n σ M L (x.wpr rd P (Exit.then (Vq c n C σI MI (λ_ _=>L)) Q))) (f:∀a b,C a->J c n (σI a b) (MI a b) L K):J c n σ M L (x.wpr rd P (Exit.then K Q)):=LS C σI MI e f
theorem cK (h:J c n σ M L K):J c n σ M L (Code.skip.wpr rd P (Exit.then K Q)):=eC h
theorem lJ {id:Nat} (h:J c n σ M L K):J c n σ M L (Exit.inBlock id (Exit.then K Q) .normal):=h
theorem fF {id:Nat} {a b:Act->World->Prop} (h:J c n σ M L K):J c n σ M L ((Code.exit id).wpr rd P (Exit.then a (Exit.then b (Exit.inBlock id (Exit.then K Q))))):=sG (gR (gR (Af (Eb h))))
theorem gJ (x:A) (y:B) (a:C x) (b:BB σ (σI x y)) (h:(MI x y,LI x y)=(M,L)):J c n σ M L (Vq c n C σI MI LI):=cE x y a b ((Prod.mk.inj h).1▸a_.refl _) ((Prod.mk.inj h).2▸aI.refl _ _)
theorem vT {R:Type} {a:A->(A->Option R)->Option R} {r:R} {k:Nat} (x:A) (y:B) (h:bP a k x=some r) (b:BB σ (σI x y)) (e:(MI x y,LI x y)=(M,L)):J c n σ M L (Yq c n a r σI MI LI k):=kG x y h b ((Prod.mk.inj e).1▸a_.refl _) ((Prod.mk.inj e).2▸aI.refl _ _)
theorem zBa {A:Type} {ret:A->Value} {MO:A->List bJ->List bJ} {f:FuncId} {h:List Operand} {vs:List Value} {a:Array TypeId} {e:List bJ} {d:Option Tmp} {g:Option (Nat×Bool)} (j:bD P f) (k:bG P f vs.toArray e ret MO (λ_ l=>l)) (m:h.map (ev σ)=vs.map some) (i:aI M L e) (b:∀x l,MO x l=MO x []++l:=by exact λ_ _=>rfl):aS P c n σ M L ⟨d,.call ⟨.value (.func f),h.toArray,a⟩,ty,pos,aft,g⟩ ret (λx=>MO x M) (λ_=>L):=QA j k m i b
variable {l:List Oper} {m:List Nat} {k0:Nat} {Bs:List (Nat×List bJ×List bJ)} {rs:List Nat} {i:Nat}
theorem aV (h:(l[i]?,ev σ x,Nat.blt i k0,Nat.blt d n.sz)=(some ⟨some d,.move x,ty,pos,aft,none⟩,some v,true,true)) (k:JR c n ((d,v)::σ) M L [] ((i,[],[])::Bs) (RW P l.toArray Q (before m) (eK l) k0 rs)):JR c n σ M L [] Bs (RW P l.toArray Q (before m) (eK l) k0 (i::rs)):=by
  simp only[Prod.mk.injEq]at h;exact bE h.1 a_.nil iN.nil (dZ h.2.1) aO.z k h.2.2.1 Z h.2.2.2
theorem cB [eB P] {T:TypeId} {u w j D:Nat} {z F:Value} {e:Array Field} {s E t:String} {r:Bool} {g a p:Nat} {q:TypeDesc} {b o f:Nat} (h:(l[i]?,ev σ x,eB.tab P T,e[f]?,eB.tab P g,j==0,Nat.blt i k0,Nat.blt d n.sz)=(some ⟨some d,.fieldAddr T x f,ty,pos,aft,none⟩,some (.pointer (some ⟨b,o,none⟩)),some ⟨.struct e,u,w,z⟩,some ⟨s,g,a,r,E,t,p⟩,some ⟨q,j,D,F⟩,false,true,true)) (k:JR c n ((d,.pointer (some ⟨b,o+a,none⟩))::σ) M L [] ((i,[],[])::Bs) (RW P l.toArray Q (before m) (eK l) k0 rs)):JR c n σ M L [] Bs (RW P l.toArray Q (before m) (eK l) k0 (i::rs)):=by
  simp only[Prod.mk.injEq]at h;exact bE h.1 a_.nil iN.nil (cT h.2.1 h.2.2.1 h.2.2.2.1 h.2.2.2.2.1 h.2.2.2.2.2.1) aO.z k h.2.2.2.2.2.2.1 Z h.2.2.2.2.2.2.2
theorem eI [eB P] (p:Nat) {T a:TypeId} {f g:Nat} {z:Value} {e:TypeDesc} {b o:Nat} {cs:List Value} (h:(l[i]?,ev σ x,M[p]?,eB.tab P T,Aq e,cs[o]?,Nat.blt i k0,Nat.blt d n.sz)=(some ⟨some d,.load T x,ty,pos,aft,none⟩,some (.pointer (some ⟨b,o,none⟩)),some (bO b cs a),some ⟨e,f,g,z⟩,false,some v,true,true)) (k:JR c n ((d,v)::σ) M L [] ((i,[bO b cs a],[])::Bs) (RW P l.toArray Q (before m) (eK l) k0 rs)):JR c n σ M L [] Bs (RW P l.toArray Q (before m) (eK l) k0 (i::rs)):=by
  simp only[Prod.mk.injEq]at h;exact bE h.1 (a_.cons p h.2.2.1 a_.nil) iN.nil (dQ 0 h.2.1 Z h.2.2.2.1 h.2.2.2.2.1 h.2.2.2.2.2.1) aO.z k h.2.2.2.2.2.2.1 Z h.2.2.2.2.2.2.2
theorem iR [eB P] (p:Nat) {T a:TypeId} {f:Nat} {z:Value} {e:TypeDesc} {b:Nat} {cs:List Value} (h:(l[i]?,ev σ x,M[p]?,eB.tab P T,Aq e,Nat.blt i k0,Nat.blt d n.sz)=(some ⟨some d,.load T x,ty,pos,aft,none⟩,some (.pointer (some ⟨b,0,none⟩)),some (bO b cs a),some ⟨e,cs.length,f,z⟩,true,true,true)) (k:JR c n ((d,.agg cs.toArray)::σ) M L [] ((i,[bO b cs a],[])::Bs) (RW P l.toArray Q (before m) (eK l) k0 rs)):JR c n σ M L [] Bs (RW P l.toArray Q (before m) (eK l) k0 (i::rs)):=by
  simp only[Prod.mk.injEq]at h;exact bE h.1 (a_.cons p h.2.2.1 a_.nil) iN.nil (cZ 0 h.2.1 Z h.2.2.2.1 h.2.2.2.2.1) aO.z k h.2.2.2.2.2.1 Z h.2.2.2.2.2.2
end
theorem Kb {X R:Type} {b:X->(X->Option R)->Option R} {r:R} (I:X->Prop) (e:X->Nat)
  (h:∀x f,I x->(∀c,I c->e c<e x->f c=some r)->b x f=some r):∀(a:Nat) (x:X),I x->e x<a->bP b a x=some r:=by
 intro a
 induction a with
 |zero=>intro x _ j;omega
 |succ k l=>
  intro x g j;exact h x _ g λc d i=>l c d (by omega)
theorem cO {b:Type} {p:Prop} [Decidable p] (a:p) (x:Option b):ck p x=x:=if_pos a
theorem wr {x:Int} (a : -9223372036854775808<=x) (b:x<=9223372036854775807):wI .i64 x=x:=if_pos ⟨a,b⟩
theorem bN {a b:Type} {x:Option a} {y:a} {f:a->Option b} (h:x=some y):x.bind f=f y:=by rw[h];rfl
theorem afC {a:Type} (l r:List a) (x y:a) (i:Nat) (h:l.length=i):(l++x::r).set i y=l++y::r:=by
 rw[List.set_append_right _ _ (by omega)];simp[<-h]
theorem Ub {a:Type} [Inhabited a] (l r:List a) (x:a) (i:Nat) (h:l.length=i):at' (l++x::r) (i:Int)=x:=by
 rw[BV,zAk,zA8 (by omega)];simp[<-h]
theorem dO {X R:Type} {step:X->(X->Option R)->Option R} {K:Option R} (N:Nat) (F:Nat->X) (c:∀(k:Nat) g,k<N->step (F k) g=g (F (k+1))) (e:∀g,step (F N) g=K):∀b,N<b->bP step b (F 0)=K:=by
 have i:∀(d a b:Nat),a+d=N->d<b->bP step b (F a)=K:=by
  intro d
  induction d with
  |zero=>
   intro a b j h;obtain rfl:a=N:=by omega
   obtain⟨f,rfl⟩:∃f,b=f+1:=⟨b - 1,by omega⟩
   exact e _
  |succ d l=>
   intro a b j h;obtain⟨f,rfl⟩:∃f,b=f+1:=⟨b - 1,by omega⟩
   show step (F a) (bP step f)=K;rw[c a _ (by omega)];exact l (a+1) f (by omega) (by omega)
 exact λb h=>i N 0 b (by omega) h
theorem Rm {X R:Type} {step:X->(X->Option R)->Option R} {K bad:Option R} (N:Nat) (p:Nat->Prop) (F:Nat->X) (r:∀(k:Nat) c,k<N->p k->step (F k) c=c (F (k+1))) (i:∀(k:Nat) c,k<N->¬p k->step (F k) c=bad) (j:∀c,step (F N) c=K):
  ∀b,N<b->((∀k,k<N->p k)->bP step b (F 0)=K)∧(¬(∀k,k<N->p k)->bP step b (F 0)=bad):=by
 have s:∀(d a b:Nat),a+d=N->d<b->((∀k,a<=k->k<N->p k)->bP step b (F a)=K)∧(¬(∀k,a<=k->k<N->p k)->bP step b (F a)=bad):=by
  intro d
  induction d with
  |zero=>
   intro a b t q;obtain rfl:a=N:=by omega
   obtain⟨f,rfl⟩:∃f,b=f+1:=⟨b - 1,by omega⟩
   exact⟨λ_=>j _,λh=>absurd (λk m g=>by omega) h⟩
  | succ d ih =>
   intro a b t q;obtain⟨f,rfl⟩:∃f,b=f+1:=⟨b - 1,by omega⟩
   obtain⟨u,v⟩:=ih (a+1) f (by omega) (by omega);have e:bP step (f+1) (F a)=step (F a) (bP step f):=rfl;rw[e];by_cases n:p a
   ·rw[r a _ (by omega) n];refine⟨λh=>u λk m g=>h k (by omega) g,λh=>v λo=>h λk m g=> ?_⟩
    by_cases l:k=a
    ·subst l;exact n
    ·exact o k (by omega) g
   ·exact⟨λh=>absurd (h a (zAg _) (by omega)) n,λ_=>i a _ (by omega) n⟩
 intro b q;obtain⟨m,g⟩:=s N 0 b (by omega) q;exact⟨λh=>m λk _ l=>h k l,λh=>g λo=>h λk l=>o k (by omega) l⟩
def YF (q:Nat->Bool):Nat->Bool
 |0=>false
 |k+1=>YF q k||q k
theorem VF {q:Nat->Bool}:∀{k:Nat},YF q k=true↔∃i,i<k∧q i=true
 |0=>by simp[YF]
 | k + 1 => by
  simp only[YF,zB6,VF (k:=k)];constructor
  ·rintro(⟨i,b,a⟩|h)
   ·exact⟨i,by omega,a⟩
   ·exact⟨k,by omega,h⟩
  ·rintro⟨i,b,a⟩;by_cases e:i=k
   ·subst e;exact .inr a
   ·exact .inl ⟨i,by omega,a⟩
def rZ (p:Nat->Bool):Nat->Nat
 |0=>0
 |k+1=>if p k then rZ p k ||| 2^k else rZ p k
theorem Pv (p:Nat->Bool):∀k,rZ p k<2^k
 |0=>by simp[rZ]
 |k+1=>by
  have h:=Pv p k;simp only[rZ];split
  ·exact Nat.or_lt_two_pow (by omega) (Nat.pow_lt_pow_right (by omega) (by omega))
  ·omega
end Go.Sx
section
set_option linter.unusedSectionVars false
namespace Go.Sx
open Go.RowKit
section defs
variable {κ ν:Type} [DecidableEq κ]
def FD (a:κ->Value) (b:ν->Value):Nat->List (κ×ν)->List MapEntry
 |_,[]=>[]
 |i,x::xs=>⟨a x.1,b x.2,i⟩::FD a b (i+1) xs
def nC (k:κ):List (κ×ν)->Option ν
 | []=>none
 |x::xs=>if k=x.1 then some x.2 else nC k xs
def Ev (k:κ) (v:ν):List (κ×ν)->List (κ×ν)
 | []=>[(k,v)]
 |x::xs=>if k=x.1 then(k,v)::xs else x::Ev k v xs
def Uo (a:ν->Value) (k:κ):Nat->List (κ×ν)->Option (Nat×Value)
 |_,[]=>none
 |i,x::xs=>if k=x.1 then some (i,a x.2)else Uo a k (i+1) xs
theorem NP (a:ν->Value) (k:κ):∀(i:Nat) (l:List (κ×ν)),(Uo a k i l).map (·.2)=(nC k l).map a
 |_,[]=>rfl
 |i,x::xs=>by
  simp only[Uo,nC];split
  ·rfl
  ·exact NP a k (i+1) xs
theorem Lc (a:κ->Value) (b:ν->Value):∀(i:Nat) (l:List (κ×ν)) (x:κ×ν),FD a b i (l++[x])=FD a b i l++[⟨a x.1,b x.2,i+l.length⟩]
 |i,[],x=>rfl
 |i,y::ys,x=>by
  simp only[List.cons_append,FD,Lc a b (i+1) ys x,zAf];rw[show i+1+ys.length=i+(ys.length+1) by omega]
theorem IW (k:κ) (v:ν):∀l:List (κ×ν),nC k l=none->Ev k v l=l++[(k,v)]
 | [],_=>rfl
 | x :: xs, h => by
  simp only[nC]at h;split at h
  ·cases h
  ·rename_i a;simp only[Ev,if_neg a,IW k v xs h,List.cons_append]
theorem SU (a:κ->Value) (b:ν->Value) (k:κ) (v:ν):∀(i0 i:Nat) (l:List (κ×ν)) (j:Nat) (u:Value),Uo b k i l=some (j,u)->
  i<=j∧((FD a b i l)[j - i]?).map (·.key)=some (a k)∧FD a b i (Ev k v l)=(FD a b i l).modify (j - i) (λe=>{e with key:=a k,val:=b v})∧(Ev k v l).length=l.length
 |_,i,[],j,u,h=>by simp[Uo]at h
 | i0, i, x :: xs, j, u, h => by
  simp only[Uo]at h;split at h
  ·rename_i n;simp only[Option.some.injEq,Prod.mk.injEq]at h;obtain⟨rfl,_⟩:=h;simp[FD,Ev,n]
  ·rename_i c;obtain⟨o,f,g,m⟩:=SU a b k v i0 (i+1) xs j u h;have d:j - i=(j - (i+1))+1:=by omega
   refine⟨by omega,?_,?_,?_⟩
   ·rw[d];simpa [FD]using f
   ·simp only[Ev,if_neg c,FD];rw[d,List.modify_succ_cons,g]
   ·simp[Ev,c,m]
end defs
structure Ko (P:Program) (kt:TypeId) {κ:Type} [DecidableEq κ] (ek:κ->Value):Prop where
 chk:∀b k w,(Instr.checkKey b 10000 kt (ek k)).run P w = .ok () w
 find:∀{ν:Type} (ev:ν->Value) (k:κ) (l:List (κ×ν)) w,(Instr.findKey kt (ek k) (FD ek ev 0 l)).run P w = .ok (Uo ev k 0 l) w
 same:∀k,Instr.sameBits 10000 (ek k) (ek k)=true
def Mp {b c:Type} (d:b->Value) (e:c->Value) (r:Nat) (l:List (b×c)):bJ where
 p w F:=F r∧w.heap[r]? = some (.map (FD d e 0 l).toArray l.length)
 mono:=fun⟨f,a⟩ h=>by
  obtain⟨g,i⟩:=h r f (zAh.1 a).1;exact⟨g,by rw[i];exact a⟩
section
variable {P:Program} {rd:Option Nat} {c:xY} {n:Sz} {σ:Fr} {M L:List bJ} {Q:Exit->Act->World->Prop} {ops:Array Oper} {rest:List Oper}
variable {d:Option Tmp} {ty:TypeId} {pos:String} {aft:Array Edge} {g:Option (Nat×Bool)}
theorem St.push {w:World} (t:St c M L w) (o:Obj) {m:bJ} (z:m.p (w.alloc o) (λk=>k=w.heap.size)):St c (m::M) L (w.alloc o):=by
 have e:Mh w (w.alloc o):=(Below.refl _ _).alloc (zAg _) _;obtain⟨v,F,b,x⟩:=t;have u:∀k,k<w.heap.size->(w.alloc o).heap[k]? = w.heap[k]? := e.block;refine⟨v.trans e,λi k=>match i with|0=>k=w.heap.size|i+1=>F i k,⟨?_,?_,?_⟩,λf y=> ?_⟩
 ·intro i A a;cases i with
  |zero=>simp at a;subst a;exact z
  |succ i=>exact bJ.same (b.res i A (by simpa using a)) (λ_ h=>h) (λk _ s=>u k s)
 ·intro i k q;cases i with
  |zero=>subst q;exact⟨.inl v.size,by simp⟩
  |succ i=>exact⟨(b.rng i k q).1,zAz (b.rng i k q).2 e.size⟩
 ·intro i j k l r;cases i with
  |zero=>
   cases j with
   |zero=>rfl
   |succ j=>have:=(b.rng j k r).2;simp only at l;omega
  |succ i=>
   cases j with
   |zero=>have:=(b.rng i k l).2;simp only at r;omega
   |succ j=>exact congrArg (· + 1) (b.dis i j k l r)
 ·exact f.mono (x f y) λk q s=>⟨⟨q.1,λi l=>by
   cases i with
   |zero=>simp only at l;omega
   |succ i=>exact q.2 i l⟩,u k s⟩
variable {κ ν:Type} [DecidableEq κ] {ek:κ->Value} {ev:ν->Value}
theorem aS.makeMap (ek:κ->Value) (ev:ν->Value) {T:TypeId}:aS P c n σ M L ⟨d,.makeMap T none,ty,pos,aft,g⟩ (λr:Nat=> .map (some r)) (λr=>Mp ek ev r []::M) (λ_=>L):=λa w s t=>by
 have b:(execOp a.eval ⟨d,.makeMap T none,ty,pos,aft,g⟩).run P w = .ok (.value (.map (some w.heap.size))) (w.alloc (.map #[] 0)):=by
  simp[execOp,Instr.makeMap]
 simp only[Oper.wp,b,Oper.upon];exact⟨w.heap.size,rfl,t.push _ ⟨rfl,heap_alloc_new w _⟩⟩
theorem RF [eB P] {T j m:TypeId} {C D E G:Nat} {z f:Value} {o:TypeDesc} {w:World} {r:Nat} {l:List (κ×ν)} {F:Nat->Prop} (i:Ko P j ek) (q:(Mp ek ev r l).p w F)
  (s:eB.tab P T=some ⟨.map j m,C,D,z⟩) (t:eB.tab P m=some ⟨o,E,G,f⟩) (k:κ) (b:Bool):
  (Instr.lookup T (.map (some r)) (ek k) b).run P w = .ok (if b then .tuple #[((nC k l).map ev).getD f,.bool (nC k l).isSome]else((nC k l).map ev).getD f) w:=by
 have y:(getObj r).run P w = .ok (.map (FD ek ev 0 l).toArray l.length) w:=by
  simp[getObj,Sem.run,q.2]
 have u:=i.find ev k l w;have a:=NP ev k 0 l;simp only[Instr.lookup];simp[(eB.ok s).run_und w,y,i.chk,u];cases e:Uo ev k 0 l with
 |none=>
  rw[e]at a;have:nC k l=none:=by cases h:nC k l<;>simp[h]at a ⊢
  simp[this,(eB.ok t).run_zero w]
 | some x =>
  rw[e]at a;obtain⟨v,A,B⟩:∃v,nC k l=some v∧ev v=x.2:=by
   cases h:nC k l with
   |none=>simp[h]at a
   |some v=>simp[h]at a;exact⟨v,rfl,a.symm⟩
  simp[A,B]
theorem Pf [eB P] (j:Nat) {T e f:TypeId} {D E G H:Nat} {z h:Value} {i:TypeDesc} {x y:Operand} {r:Nat} {l:List (κ×ν)} (k:κ) {b:Bool} (v:Ko P e ek) (B:Go.Sx.ev σ x=some (.map (some r))) (C:Go.Sx.ev σ y=some (ek k)) (q:M[j]? = some (Mp ek ev r l))
  (o:eB.tab P T=some ⟨.map e f,D,E,z⟩) (p:eB.tab P f=some ⟨i,G,H,h⟩) {u:Value} (A:((nC k l).map ev).getD h=u):
  Y P c n σ M L ⟨d,.lookup T x y b,ty,pos,aft,g⟩ (if b then .tuple #[u,.bool (nC k l).isSome]else u):=λa w s t=>by
 obtain⟨F,m⟩:=t.res q;subst A;simp[execOp,s.eval B,s.eval C,RF v m o p]
theorem FH {w:World} {r:Nat} {a:Array MapEntry} {k:Nat} (h:w.heap[r]? = some (.map a k)) (o:Obj):(setObj r o).run P w = .ok () {w with heap:=w.heap.setIfInBounds r o}:=by
 simp[setObj,Sem.run,h]
theorem St.setMap {w:World} (t:St c M L w) {j r:Nat} {l b:List (κ×ν)} (f:M[j]? = some (Mp ek ev r l)) (o:Obj) (m:o = .map (FD ek ev 0 b).toArray b.length):
  St c (M.set j (Mp ek ev r b)) L {w with heap:=w.heap.setIfInBounds r o}:=
 t.upd f Z Z Z (by simp) λF a _=>⟨λk _ i=>by
   rw[zB1 (λe=>i (by subst e;exact a.1))],F,⟨a.1,by
    rw[zB5 (zAh.1 a.2).1,m]⟩,λ_ h=> .inl h⟩
theorem OP [eB P] (j:Nat) {T R vt:TypeId} {s1 s2:Nat} {z:Value} {x y v:Operand} {r:Nat} {l:List (κ×ν)} (k:κ) (f:ν) (C:Ko P R ek) (Y:Go.Sx.ev σ x=some (.map (some r))) (hy:Go.Sx.ev σ y=some (ek k)) (X:Go.Sx.ev σ v=some (ev f)) (K:M[j]? = some (Mp ek ev r l))
  (I:eB.tab P T=some ⟨.map R vt,s1,s2,z⟩) (h:J c n σ (M.set j (Mp ek ev r (Ev k f l))) L (wpList P ops Q rest)):
  J c n σ M L (wpList P ops Q (⟨none,.mapUpdate T x y v,ty,pos,aft,none⟩::rest)):=λa w s t=>by
 refine mJ Z ?_;obtain⟨F,E⟩:=t.res K;have N:(getObj r).run P w = .ok (.map (FD ek ev 0 l).toArray l.length) w:=by
  simp[getObj,Sem.run,E.2]
 have b:=C.find ev k l w;have A:=NP ev k 0 l;have B:∃o:Obj,(execOp a.eval ⟨none,.mapUpdate T x y v,ty,pos,aft,none⟩).run P w = .ok .skip {w with heap:=w.heap.setIfInBounds r o}∧o = .map (FD ek ev 0 (Ev k f l)).toArray (Ev k f l).length:=by
  simp only[execOp,s.eval Y,s.eval hy,s.eval X,Instr.mapUpdate];cases m:Uo ev k 0 l with
  |none=>
   rw[m]at A b;have U:nC k l=none:=by cases h:nC k l<;>simp[h]at A ⊢
   refine⟨.map (FD ek ev 0 l++[(⟨ek k,ev f,l.length⟩:MapEntry)]).toArray (l.length+1),by simp[(eB.ok I).run_und w,N,C.chk,b,FH E.2],?_⟩
   rw[IW k f l U,Lc];simp
  | some q =>
   obtain⟨i,u⟩:=q;rw[m]at b;obtain⟨_,D,H,S⟩:=SU ek ev k f 0 0 l i u m;rw[Nat.sub_zero]at D H;have O:(((FD ek ev 0 l).toArray[i]?).map (·.key)).getD (ek k)=ek k:=by
    rw[List.getElem?_toArray,D];rfl
   refine⟨.map ((FD ek ev 0 l).toArray.modify i λe=>{e with key:=ek k,val:=ev f}) l.length,?_,?_⟩
   ·have G:(Instr.keyThatStays (ek k) (ek k)).run P w = .ok (ek k) w:=by simp[Instr.keyThatStays,C.same k]
    have p:(Option.map (λx=>x.key) (FD ek ev 0 l)[i]?).getD (ek k)=ek k:=by rw[D];rfl
    simp[(eB.ok I).run_und w,N,C.chk,b,p,G,FH E.2]
   ·rw[H,S];simp
 obtain⟨o,W,V⟩:=B;simp only[Oper.wp,W,Oper.upon];exact h _ _ s (t.setMap K o V)
end
end Go.Sx
end
section
set_option linter.unusedSectionVars false
namespace Go.Sx
open Go.RowKit Go.ChangeMaps
def It (b m a:Nat) (c:List Nat):bJ where
 p w F:=F b∧w.heap[b]? = some (.mapIter (some m) a c.toArray a)
 mono:=fun⟨e,d⟩ h=>by
  obtain⟨f,g⟩:=h b e (zAh.1 d).1;exact⟨f,by rw[g];exact d⟩
section
variable {κ ν:Type} [DecidableEq κ] {ek:κ->Value} {ev:ν->Value} {R:Type}
theorem NZ (ek:κ->Value) (ev:ν->Value):∀(k:Nat) (l:List (κ×ν)) (e:MapEntry),e∈FD ek ev k l->∃i a,l[i]? = some a∧e=⟨ek a.1,ev a.2,k+i⟩
 |_,[],e,h=>by simp[FD]at h
 | k, x :: xs, e, h => by
  rcases zAq.1 h with rfl|h
  ·exact⟨0,x,rfl,rfl⟩
  ·obtain⟨i,a,b,c⟩:=NZ ek ev (k+1) xs e h;exact⟨i+1,a,b,by rw[c,show k+1+i=k+(i+1) by omega]⟩
theorem NY (ek:κ->Value) (ev:ν->Value):∀(k:Nat) (l:List (κ×ν)) (i:Nat) (a:κ×ν),l[i]? = some a->(⟨ek a.1,ev a.2,k+i⟩:MapEntry)∈FD ek ev k l
 |_,[],i,a,h=>by simp at h
 |k,x::xs,0,a,h=>by simp at h;subst h;exact zAc
 |k,x::xs,i+1,a,h=>by
  have:=NY ek ev (k+1) xs i a (by simpa using h);rw[show k+1+i=k+(i+1) by omega]at this;exact zAj _ this
theorem PD (ek:κ->Value) (ev:ν->Value):∀(k:Nat) (l:List (κ×ν)),(FD ek ev k l).map (·.born)=List.range' k l.length
 |_,[]=>rfl
 |k,x::xs=>by simp[FD,PD ek ev (k+1) xs,List.range'_succ]
def LU (a:κ×ν->Option R->Option R) (K:Option R) (l:List (κ×ν)):Option R:=l.foldr a K
def rem (l:List (κ×ν)) (a:List Nat):List (κ×ν):=((List.range l.length).filter (λi=> !a.contains i)).filterMap (λi=>l[i]?)
theorem MS:∀l:List (κ×ν),(List.range l.length).filterMap (λi=>l[i]?)=l
 | []=>rfl
 |x::xs=>by
  rw[zAf,List.range_succ_eq_map,List.filterMap_cons];simp only[List.getElem?_cons_zero,List.filterMap_map];congr 1;have:=MS xs;simpa [Function.comp_def]using this
theorem aap (l:List (κ×ν)):rem l []=l:=by
 unfold rem;rw[List.filter_eq_self.2 (by simp),MS]
theorem Xx {l:List (κ×ν)} {a:List Nat} {i:Nat} {m:κ×ν} (k:l[i]? = some m) (t:i∉a):∃n o,rem l a=n++m::o∧rem l (a++[i])=n++o:=by
 have g:=bQ k;have d:i∈(List.range l.length).filter (λi=> !a.contains i):=by simp[g,t]
 obtain⟨A,B,b⟩:=List.append_of_mem d;have c:((List.range l.length).filter (λi=> !a.contains i)).Nodup:=List.Pairwise.filter _ List.nodup_range;rw[b]at c;have r:i∉A:=λh=>by
  have:=(List.nodup_append.1 c).2.2 i h i zAc;exact this Z
 have s:i∉B:=λh=>by
  have:=(List.nodup_cons.1 (List.nodup_append.1 c).2.1).1;exact this h
 refine⟨A.filterMap (λi=>l[i]?),B.filterMap (λi=>l[i]?),?_,?_⟩
 ·unfold rem;rw[b,List.filterMap_append,List.filterMap_cons,k]
 ·unfold rem;have e:(List.range l.length).filter (λj=> !(a++[i]).contains j)=((List.range l.length).filter (λj=> !a.contains j)).filter (λj=>decide (j≠i)):=by
   rw[List.filter_filter];apply List.filter_congr;intro j _;rw[Bool.eq_iff_iff];simp[and_comm]
  rw[e,b,List.filter_append,List.filter_cons];have p:A.filter (λj=>decide (j≠i))=A:=List.filter_eq_self.2 (λj f=>by simp;rintro rfl;exact r f);have q:B.filter (λj=>decide (j≠i))=B:=List.filter_eq_self.2 (λj f=>by simp;rintro rfl;exact s f);rw[p,q,List.filterMap_append.symm];simp
theorem MQ {c:κ×ν->Option R->Option R} (f:∀a b x,c a (c b x)=c b (c a x)) (K:Option R) (d:κ×ν) (e:List (κ×ν)):∀g:List (κ×ν),LU c K (g++d::e)=c d (LU c K (g++e))
 | []=>rfl
 |x::xs=>by
  have:=MQ f K d e xs;unfold LU at this ⊢;rw[List.cons_append,List.cons_append,List.foldr_cons,List.foldr_cons,this,f]
end
section
variable {P:Program} {rd:Option Nat} {c:xY} {n:Sz} {σ σ':Fr} {M L M' L':List bJ} {Q:Exit->Act->World->Prop} {ops:Array Oper} {rest:List Oper}
variable {d:Option Tmp} {ty:TypeId} {pos:String} {aft:Array Edge} {g:Option (Nat×Bool)}
variable {κ ν:Type} [DecidableEq κ] {ek:κ->Value} {ev:ν->Value} {R:Type}
theorem aS.range [eB P] (j:Nat) {T f h:TypeId} {q r:Nat} {z:Value} {x:Operand} {m:Nat} {l:List (κ×ν)} (p:Go.Sx.ev σ x=some (.map (some m))) (o:M[j]? = some (Mp ek ev m l)) (k:eB.tab P T=some ⟨.map f h,q,r,z⟩):
  aS P c n σ M L ⟨d,.range T x,ty,pos,aft,g⟩ (λb:Nat=> .pointer (some ⟨b,0,none⟩)) (λb=>It b m l.length []::M) (λ_=>L):=λa w s t=>by
 obtain⟨F,i⟩:=t.res o;have e:(execOp a.eval ⟨d,.range T x,ty,pos,aft,g⟩).run P w = .ok (.value (.pointer (some ⟨w.heap.size,0,none⟩))) (w.alloc (.mapIter (some m) l.length #[] l.length)):=by
  simp[execOp,s.eval p,run_range_map w T f h m _ _ (eB.ok k).und i.2]
 simp only[Oper.wp,e,Oper.upon];exact⟨w.heap.size,rfl,t.push _ ⟨rfl,heap_alloc_new w _⟩⟩
def H_ (ek:κ->Value) (ev:ν->Value) (l:List (κ×ν)):Option Nat->Value
 |none=> .tuple #[.bool false]
 |some i=>match l[i]? with
  |some a=> .tuple #[.bool true,ek a.1,ev a.2]
  |none=>undef
def acB (b:Nat) (a:List Nat):Option Nat->Prop
 |none=>∀i,i<b->i∈a
 |some i=>i<b∧i∉a
def Te (M:List bJ) (f b m e:Nat) (a:List Nat):Option Nat->List bJ
 |none=>M
 |some i=>M.set f (It b m e (a++[i]))
theorem St.pureL {w:World} {p:Prop} (hp:p) (t:St c M L w):St c M (abt p::L) w:=by
 obtain⟨ho,F,hF,hL⟩:=t;refine⟨ho,F,hF,λf hf=> ?_⟩
 rcases zAq.1 hf with rfl|hf
 ·exact hp
 ·exact hL f hf
theorem aS.next (jm ji:Nat) {x:Operand} {b m:Nat} {l:List (κ×ν)} {seen:List Nat} (hx:Go.Sx.ev σ x=some (.pointer (some ⟨b,0,none⟩))) (hf:M[jm]? = some (Mp ek ev m l)) (hi:M[ji]? = some (It b m l.length seen)):
  aS P c n σ M L ⟨d,.next x false,ty,pos,aft,g⟩ (H_ ek ev l) (Te M ji b m l.length seen) (λo=>abt (acB l.length seen o)::L):=λa w s t=>by
 obtain⟨F,hF⟩:=t.res hf;obtain⟨G,hG⟩:=t.res hi;have hold:∀e∈(FD ek ev 0 l).toArray.toList,e.born<l.length:=λe he=>by
  obtain⟨i,kv,h1,h2⟩:=NZ ek ev 0 l e (by simpa using he);rw[h2];have:=bQ h1;simp;omega
 rcases run_next_at (P:=P) w ty b m l.length l.length seen.toArray (FD ek ev 0 l).toArray l.length hG.2 hF.2 hold (zAg _)with⟨h0,hr⟩|⟨e,he,w1,hw1,hr⟩
 ·have hrun:(execOp a.eval ⟨d,.next x false,ty,pos,aft,g⟩).run P w = .ok (.value (.tuple #[.bool false])) w:=by
   simp[execOp,s.eval hx,hr]
  simp only[Oper.wp,hrun,Oper.upon];refine⟨none,rfl,t.pureL λi hi'=> ?_⟩
  obtain⟨kv,hkv⟩:∃kv,l[i]? = some kv:=⟨_,zA2 hi'⟩
  have:=all_seen _ _ h0 _ (by simpa using NY ek ev 0 l i kv hkv);simpa using this
 ·have hml:=_root_.Go.mem_left he;obtain⟨i,kv,h1,h2⟩:=NZ ek ev 0 l e (by simpa using hml.1);subst h2;rw[Nat.zero_add]at hr hml;have hrun:(execOp a.eval ⟨d,.next x false,ty,pos,aft,g⟩).run P w = .ok (.value (.tuple #[.bool true,ek kv.1,ev kv.2])) (setBlock w1 b (.mapIter (some m) l.length (seen.toArray.push i) l.length)):=by
   simp[execOp,s.eval hx,hr]
  simp only[Oper.wp,hrun,Oper.upon];have t1:St c M L w1:=by
   rcases hw1 with rfl|rfl
   ·exact t
   ·exact t.ext ((Below.refl _ _).drew)
  refine⟨some i,by simp[H_,h1],St.pureL ⟨bQ h1,by simpa using hml.2⟩ ?_⟩
  refine t1.upd hi Z Z Z (by simp[setBlock]) λF hF _=>⟨λk _ hk=> ?_,F,⟨hF.1,?_⟩,λ_ h=> .inl h⟩
  ·simp only[setBlock];rw[zB1 (λe=>hk (by subst e;exact hF.1))]
  ·simp only[setBlock];rw[zB5 (zAh.1 hF.2).1];simp
theorem aS.entry (A z:Nat) {x:Operand} {b m i:Nat} {l:List (κ×ν)} {f:List Nat} {e:κ×ν} (j:l[i]? = some e) (y:Go.Sx.ev σ x=some (.pointer (some ⟨b,0,none⟩))) (q:M[A]? = some (Mp ek ev m l)) (r:M[z]? = some (It b m l.length (f++[i]))):
  aS P c n σ M L ⟨d,.entry x,ty,pos,aft,g⟩ (λ_:Unit=> .tuple #[ek e.1,ev e.2]) (λ_=>M) (λ_=>L):=λa w s t=>by
 obtain⟨F,o⟩:=t.res q;obtain⟨G,p⟩:=t.res r;have k:=NY ek ev 0 l i e j;rw[Nat.zero_add]at k;have u:((FD ek ev 0 l).toArray.toList.map (·.born)).Nodup:=by
  simp only[PD];exact List.nodup_range'
 have v:=run_entry_at (P:=P) w b m l.length f.toArray (FD ek ev 0 l).toArray l.length ⟨ek e.1,ev e.2,i⟩ (by rw[p.2];simp) o.2 (by simpa using k) u;have h:(execOp a.eval ⟨d,.entry x,ty,pos,aft,g⟩).run P w = .ok (.value (.tuple #[ek e.1,ev e.2])) w:=by
  simp[execOp,s.eval y,v]
 simp only[Oper.wp,h,Oper.upon];exact⟨(),by first|rfl|trivial,t⟩
theorem Yt {G:Act->World->Prop} (σ':Fr) (M' L':List bJ) (f:BB σ σ') (e:a_ M M') (b:aI [] L L') (h:J c n σ' M' L' G):J c n σ M L G:=λa w s t=>h a w (s.weak f) (t.weakE e b)
theorem Qz {e:TypeId} {d:TypeDesc} (p:P.underlying e=some d) (m:∀b k w,(Instr.checkKey b 10000 e (ek k)).run P w = .ok () w) (o:∀a b,Instr.sameNow d (ek a) (ek b)=none)
  (r:∀a b w,(Op.equal e (ek a) (ek b)).run P w = .ok (decide (a=b)) w) (f:∀k,Instr.sameBits 10000 (ek k) (ek k)=true):Ko P e ek:=by
 refine⟨m,λ{ν'} ev' k l w=> ?_,f⟩
 have j:∀(l:List (κ×ν')) (i:Nat),(Instr.findAsking e (ek k) (FD ek ev' i l) i).run P w = .ok (Uo ev' k i l) w:=by
  intro l
  induction l with
  |nil=>intro i;simp[FD,Uo,Instr.findAsking]
  |cons x q t=>
   intro i;simp only[FD,Uo,Instr.findAsking];simp[r];by_cases h:k=x.1
   ·simp[h]
   ·simp[h,t]
 unfold Instr.findKey;cases l with
 |nil=>simp[FD,Uo,Instr.findNow,run_underlying p w]
 |cons x q=>
  have s:Instr.findNow d (ek k) (FD ek ev' 0 (x::q)) 0=none:=by simp[FD,Instr.findNow,o]
  simp[run_underlying p w,s,j]
def Vp {R:Type} (c:xY) (n:Sz) (σ:Fr) (M L:List bJ) (x:Option R) (r:R) (a:Act) (w:World):Prop:=x=some r∧IB n σ a∧St c M L w
theorem Qy {R:Type} {x:Option R} {r:R} (h:x=some r) (e:BB σ' σ) (b:a_ M' M) (a:aI [] L' L):J c n σ' M' L' (Vp c n σ M L x r):=λ_ _ s t=>⟨h,s.weak e,t.weakE b a⟩
theorem TS (p:κ×ν->Option R->Option R) {K:Option R} {r:R} (O s:Nat) {b m:Nat} {l:List (κ×ν)} (hc:∀a b x,p a (p b x)=p b (p a x)) (h:LU p K l=some r)
  (hf:M[O]? = some (Mp ek ev m l)) (U:M[s]? = some (It b m l.length [])) (af:Nat.beq s O=false) {t0 S T:Tmp} (hx:lk σ t0=some (.pointer (some ⟨b,0,none⟩))) (ab:Nat.blt S n.sz=true) (E:Nat.blt T n.sz=true)
  {id ex:Nat} {y1 y2:TypeId} {q1 q2:String} {f1 f2:Array Edge} {y:Code}
  (C:∀(t:κ×ν) (i:Nat) (k:List Nat) (x:Option R),l[i]? = some t->p t x=some r->
   J c n ((T,.bool true)::(S,.tuple #[.bool true,ek t.1,ev t.2])::σ) (M.set s (It b m l.length (k++[i]))) L (y.wpr rd P (Exit.then (Vp c n σ (M.set s (It b m l.length (k++[i]))) L x r) Q)))
  (V:∀k,K=some r->J c n ((T,.bool false)::(S,.tuple #[.bool false])::σ) (M.set s (It b m l.length k)) L (Q (.exit ex))):
  J c n σ M L ((Code.loop (Code.seq (Code.region id [⟨some S,.next (.tmp t0) false,y1,q1,f1,none⟩,⟨some T,.extract (.tmp S) 0,y2,q2,f2,none⟩].toArray false) (Code.seq (Code.cond (.tmp T) .skip (.exit ex)) y))).wpr rd P Q):=by
 have z:=bQ U;have ae:O≠s:=λe=>by subst e;simp at af
 have H:M.set s (It b m l.length [])=M:=by
  apply List.ext_getElem?;intro q;by_cases eq:q=s
  ·subst eq;rw[zAd z,U]
  ·rw[zAm (Ne.symm eq)]
 refine Vj (X:=List Nat) (λk=>k.Nodup∧(∀i∈k,i<l.length)∧LU p K (rem l k)=some r) (λ_=>σ) (λk=>M.set s (It b m l.length k)) (λ_=>L) (λk=>l.length - k.length) [] ⟨List.nodup_nil,by simp,by rw[aap];exact h⟩ (BB.refl _) (by rw[H];exact a_.refl _) (λ_ h=>h) ?_;rintro k ⟨G,F,v⟩;have ac:(M.set s (It b m l.length k))[O]? = some (Mp ek ev m l):=by rw[zAm (Ne.symm ae)];exact hf
 have ad:(M.set s (It b m l.length k))[s]? = some (It b m l.length k):=zAd z;refine aN (aU (aM (aS.next O s (x:= .tmp t0) hx ac ad) ab λo=> ?_));refine abq zAc λho=> ?_;refine abr (M':=Te (M.set s (It b m l.length k)) s b m l.length k o) (L':=L) ?_ (BB.refl _) (a_.refl _) (λf hf=>zAj _ hf);cases o with
 | none =>
  refine aC (uK (vs:=[.bool false]) (by simp[H_,lk,Go.Sx.ev]) Z) E (fU (Eb (aN (Nn (by simp[lk,Go.Sx.ev]) (sG (gR (gR ?_)))))));refine V k ?_;have:rem l k=[]:=by
   unfold rem;rw[List.filter_eq_nil_iff.2 (λi U=>by simpa using ho i (by simpa using U))];rfl
  rw[this]at v;exact v
 | some i =>
  obtain⟨W,Y⟩:=ho;obtain⟨t,A⟩:∃t,l[i]? = some t:=⟨_,zA2 W⟩
  have N:H_ ek ev l (some i) = .tuple #[.bool true,ek t.1,ev t.2]:=by simp[H_,A]
  obtain⟨l1,l2,e1,e2⟩:=Xx A Y;have B:p t (LU p K (rem l (k++[i])))=some r:=by
   rw[e2,<-MQ hc K t l2 l1,<-e1];exact v
  have aa:Te (M.set s (It b m l.length k)) s b m l.length k (some i)=M.set s (It b m l.length (k++[i])):=by simp[Te]
  rw[N,aa];refine aC (uK (vs:=[.bool true,ek t.1,ev t.2]) (by simp[lk,Go.Sx.ev]) Z) E (fU (Eb (aN (No (by simp[lk,Go.Sx.ev]) (eC (Eb ?_))))));refine Vk (C t i k _ A B) λa w hw=>LF (λe a' w' q=> ?_) hw;cases e with
  | normal =>
   obtain⟨ai,ag,ah⟩:=q;refine⟨k++[i],⟨?_,?_,ai⟩,?_,ag,ah⟩
   ·rw[List.nodup_append];exact⟨G,by simp,λa ha b D=>by simp at D;subst D;rintro rfl;exact Y ha⟩
   ·intro j u;rcases List.mem_append.1 u with u|u
    ·exact F j u
    ·simp at u;subst u;exact W
   ·have:k.length<l.length:=by
     have I:(k++[i]).length<=(List.range l.length).length:=by
      apply List.Nodup.length_le_of_subset
      ·rw[List.nodup_append];exact⟨G,by simp,λa ha b D=>by simp at D;subst D;rintro rfl;exact Y ha⟩
      ·intro j u;rcases List.mem_append.1 u with u|u
       ·simpa using F j u
       ·simp at u;subst u;simpa using W
     simp at I;omega
    simp;omega
  |exit id=>exact q
  |goto l=>exact q
  |ret=>exact q
  |panic ch=>exact q
  |outgrown=>exact q
end
end Go.Sx
end
namespace Go.Sx
open Go.RowKit
section
variable {P:Program} {rd:Option Nat} {c:xY} {n:Sz} {σ σ':Fr} {M L M' L':List bJ} {Q:Exit->Act->World->Prop} {ops:Array Oper} {rest:List Oper} {K:Act->World->Prop} {G:Act->World->Prop}
variable {d:Option Tmp} {D:Nat} {ty:TypeId} {pos:String} {aft:Array Edge} {g:Option (Nat×Bool)}
variable {α β:Type} {e:bL α} {r:eD α}
def Fz:Value->Bool
 | .slice none _ _=>true
 |_=>false
theorem Mj {v:Value} {i:List α} (o:aA M L (Sl r v i)) (k:Fz v=true->i=[]->J c n σ M L G) (l:Fz v=false->J c n σ M L G):J c n σ M L G:=λa w s t=>by
 cases f:Fz v with
 |false=>exact l f a w s t
 |true=>
  refine k f ?_ a w s t;obtain⟨S,u,j,p,_,h⟩:=o.st t;subst p;rcases h with h|⟨b,q,m,_⟩
  ·exact h
  ·subst m;cases f
theorem UL {T E:TypeId} {f:Ty} {w:World} {a:Option Addr} {l k:Nat} (j:sT P T f) (o:f.desc = .slice E):(binOp .eql T (.slice a l k) (.slice none 0 0)).run P w = .ok (.bool (Fz (.slice a l k))) w:=by
 have i:=j.run_und w;have b:∀m:Nat,(Op.equalIn (m+1) T (.slice a l k) (.slice none 0 0)).run P w = .ok (Fz (.slice a l k)) w:=by
  intro m;unfold Op.equalIn;rw[o]at i;cases a<;>simp[i,Fz]
 have h:(Op.equal T (.slice a l k) (.slice none 0 0)).run P w = .ok (Fz (.slice a l k)) w:=b 9999;simp[binOp,h]
theorem JQ [eB P] {T E:TypeId} {A B:Nat} {z:Value} {x:Operand} {v:Value} {i:List α} {b:Bool} {C:TypeId} (y:ev σ x=some v) (q:aA M L (Sl r v i)) (o:Fz v=b) (m:eB.tab P T=some ⟨.slice E,A,B,z⟩):
  Y P c n σ M L ⟨d,.binOp .eql T x (.const (.slice none 0 0)) C,ty,pos,aft,g⟩ (.bool b):=λa w s t=>by
 obtain⟨S,j,f,u,_,_⟩:=q.st t;subst u;have h:=UL (w:=w) (a:=j) (l:=i.length) (k:=f) (eB.ok m) Z;have p:a.eval (.const (.slice none 0 0)) = .slice none 0 0:=rfl;rw[o]at h;simp[execOp,s.eval y,p,eqGuard,h]
def He (P:Program) (f:FuncId) (a:Array Value) (b L:List bJ) {A:Type} (h:A->Value) (i:A->List bJ->List bJ):Prop:=
 ∀c:xY,St c b L c.w0->Calls P f a c.w0 λe j=>∃x:A,e = .returned (h x)∧St c (i x []) [] j
theorem He.of {A:Type} {b:A->Value} {q:A->List bJ->List bJ} {f:FuncId} {i:Func} {a:Code} {vs:List Value} {m:Nat} {Min:List bJ}
  (u:P.funcs[f]? = some i) (s:i.body=some a) (x:i.ntmps=m) (w:Nat.ble vs.length m=true)
  (h:∀c:xY,J c ⟨m,[]⟩ (Cp 0 vs) Min L (a.wpr none P (nG P i (OX c b q (λ_ l=>l))))):He P f vs.toArray Min L b q:=λc t=>by
 have o:vs.length<=m:=by simpa using w
 refine x_ u s (h c _ _ ⟨rfl,by simp[x,o],?_⟩ t);intro t v y;obtain⟨_,j⟩:=Fy vs 0 t v y;rw[Nat.sub_zero]at j;have p:t<vs.length:=by
  rcases zAs t vs.length with k|k
  ·exact k
  ·rw[zAn k]at j;cases j
 rw[zB8 (by simpa using p)];simpa using j
theorem Vw {w S:World} {l H v:List bJ} {F:Nat->Nat->Prop} {U:Nat->Prop} (y:Dy c.O c.w0 w) (o:Own c w (l++H) F) (Y:∀f∈L,f.p w (Di c F))
  (t:St ⟨w,U,λk=>∃i,i<l.length∧F i k⟩ v [] S):St c (v++H) L S:=by
 obtain⟨s,T,u,_⟩:=t;have C:=s.size;have x:∀k,k<w.heap.size->(∀i,i<l.length->¬F i k)->S.heap[k]? = w.heap[k]? := λk a hn=>s.block k a (fun⟨i,B,o⟩=>hn i B o);have b:∀i k,T i k->w.heap.size<=k∨∃j,j<l.length∧F j k:=λi k a=>(u.rng i k a).1;refine⟨⟨s.os.trans y.os,s.tape.trans y.tape,s.output.trans y.output,zB2 y.size C,λk a W=> ?_⟩,
  λi k=>(i<v.length∧T i k)∨(v.length<=i∧F (i - v.length+l.length) k),⟨?_,?_,?_⟩,λf hf=> ?_⟩
 ·refine(x k (zAz a y.size) (λi _ I=> ?_)).trans (y.block k a W);rcases(o.rng i k I).1 with h|h
  ·omega
  ·exact W h
 ·intro i m E;by_cases B:i<v.length
  ·rw[zAa B]at E;exact bJ.same (u.res i m E) (λk a=> .inl ⟨B,a⟩) (λ_ _ _=>rfl)
  ·rw[zA8 (by omega)]at E;have R:(l++H)[i - v.length+l.length]? = some m:=by
    rw[zA8 (by omega),Nat.add_sub_cancel];exact E
   exact bJ.same (o.res _ m R) (λk a=> .inr ⟨by omega,a⟩) (λk a N=>x k N (λj X J=>by have:=o.dis _ _ k J a;omega))
 ·rintro i k (⟨_,a⟩|⟨_,a⟩)
  ·refine⟨?_,(u.rng i k a).2⟩
   rcases b i k a with h|⟨j,_,h⟩
   ·exact .inl (zB2 y.size h)
   ·exact(o.rng j k h).1
  ·exact⟨(o.rng _ k a).1,zAz (o.rng _ k a).2 C⟩
 ·rintro i j k (⟨B,z⟩|⟨B,z⟩) (⟨X,A⟩|⟨X,A⟩)
  ·exact u.dis i j k z A
  ·rcases b i k z with h|⟨q,hq,h⟩
   ·have:=(o.rng _ k A).2;omega
   ·have:=o.dis _ _ k h A;omega
  ·rcases b j k A with h|⟨q,hq,h⟩
   ·have:=(o.rng _ k z).2;omega
   ·have:=o.dis _ _ k h z;omega
  ·have:=o.dis _ _ k z A;omega
 ·refine f.mono (Y f hf) λk a N=>⟨⟨a.1,?_⟩,x k N (λi _=>a.2 i)⟩
  rintro i (⟨_,h⟩|⟨_,h⟩)
  ·rcases b i k h with V|⟨q,_,V⟩
   ·omega
   ·exact a.2 q V
  ·exact a.2 _ h
theorem TW {w:World} {a u t:List bJ} {F:Nat->Nat->Prop} (o:Own c w (a++u) F) (y:∀f∈L,f.p w (Di c F)) (B:aI u L t):
  St ⟨w,λk=>∀i,i<a.length->¬F i k,λk=>∃i,i<a.length∧F i k⟩ a t w:=by
 refine⟨Dy.refl _,λi k=>i<a.length∧F i k,⟨λi m s=> ?_,λi k b=>⟨.inr ⟨i,b⟩,(o.rng i k b.2).2⟩,λi j k v x=>o.dis i j k v.2 x.2⟩,λf z=> ?_⟩
 ·have l:i<a.length:=by
   rcases zAs i a.length with q|q
   ·exact q
   ·rw[zAn q]at s;cases s
  exact bJ.same (o.res i m (by rw[zAa l];exact s)) (λk b=>⟨l,b⟩) (λ_ _ _=>rfl)
 ·refine B f z w (Di c F) (λj k=>F (j+a.length) k) _ y (λj m A=> ?_) (λk b=> ?_) (λj k b=> ?_)
  ·exact o.res _ m (by rw[zA8 (by omega),Nat.add_sub_cancel];exact A)
  ·exact⟨.inl λi _=>b.2 i,λi l=>b.2 i l.2⟩
  ·exact⟨.inl λi l h=>by have:=o.dis _ _ k h b;omega,λi l=>by have:=o.dis _ _ k l.2 b;omega⟩
theorem Kq {A:Type} {k:A->Value} {m:A->List bJ->List bJ} {f:FuncId} {p:List Operand} {vs:List Value} {b:Array TypeId} {q Min Mr:List bJ} (z:bD P f)
  (C:He P f vs.toArray Min q k m) (H:p.map (ev σ)=vs.map some) (y:a_ M (Min++Mr)) (v:aI Mr L q) (o:∀x l,m x l=m x []++l):
  aS P c n σ M L ⟨d,.call ⟨.value (.func f),p.toArray,b⟩,ty,pos,aft,g⟩ k (λx=>m x Mr) (λ_=>L):=λa w s t=>by
 have j:(execOp a.eval ⟨d,.call ⟨.value (.func f),p.toArray,b⟩,ty,pos,aft,g⟩).run P w = .ok (.enter f vs.toArray) w:=by
  have e:=evs s H;simp[execOp,resolve,Act.eval,Deferred.ofValue,invoke,z _ w,e]
 simp only[Oper.wp,j,Oper.upon];obtain⟨B,F,u,i⟩:=t.weak (L':=L) y (λ_ h=>h);refine(C _ (TW u i v)).mono ?_;rintro e I ⟨x,rfl,E⟩;refine⟨x,rfl,?_⟩
 rw[o];exact Vw B u i E
def Vr {A B:Type} (c:xY) (C:A->Prop) (a:A->B->Value) (f b:A->B->List bJ) (e:Ending) (w:World):Prop:=∃x y,C x∧e = .returned (a x y)∧St c (f x y) (b x y) w
theorem Rb {j:Func} {a:List Value} {m:Nat} (l:j.ntmps=m) (k:Nat.ble a.length m=true):IB ⟨m,[]⟩ (Cp 0 a) {tmps:=a.toArray++Array.replicate (j.ntmps - a.toArray.size) undef,defers:=[]}:=by
 have h:a.length<=m:=by simpa using k
 refine⟨rfl,by simp[l,h],?_⟩
 intro t v o;obtain⟨_,b⟩:=Fy a 0 t v o;rw[Nat.sub_zero]at b;have i:t<a.length:=by
  rcases zAs t a.length with f|f
  ·exact f
  ·rw[zAn f]at b;cases b
 rw[zB8 (by simpa using i)];simpa using b
structure oB (P:Program) (c:xY) (n:Sz) (σ:Fr) (M L:List bJ) (o:Oper) (f:FuncId) (vs:List Value):Prop where
 run:∀a w,IB n σ a->St c M L w->(execOp a.eval o).run P w = .ok (.enter f vs.toArray) w
theorem oB.fn {f:FuncId} {xs:List Operand} {vs:List Value} {b:Array TypeId} (h:bD P f) (i:xs.map (ev σ)=vs.map some):oB P c n σ M L ⟨d,.call ⟨.value (.func f),xs.toArray,b⟩,ty,pos,aft,g⟩ f vs:=⟨λa w s _=>by
 have e:=evs s i;simp[execOp,resolve,Act.eval,Deferred.ofValue,invoke,h _ w,e]⟩
theorem TR {f:FuncId} {t:Tmp} {h:List Operand} {us cs vs:List Value} {b:Array TypeId} (j:bD P f) (k:lk σ t=some (.func (.func f) #[] cs.toArray)) (m:h.map (ev σ)=us.map some) (l:us++cs=vs):oB P c n σ M L ⟨d,.call ⟨.value (.tmp t),h.toArray,b⟩,ty,pos,aft,g⟩ f vs:=⟨λa w s _=>by
 have e:=evs s m;have i:a.eval (.tmp t) = .func (.func f) #[] cs.toArray:=s.eval (x:= .tmp t) k;subst l;simp[execOp,resolve,i,Deferred.ofValue,invoke,j _ w,e]⟩
def Dx (P:Program) (c:xY) (n:Sz) (σ:Fr) (M L:List bJ) (b:Func) (v:Value):Prop:=∀a w,IB n σ a->St c M L w->(results b a.tmps).run P w = .ok v w
variable {fn:Func}
theorem Dx.r0 (b:fn.results = #[]):Dx P c n σ M L fn (.tuple #[]):=λa w _ _=>by simp[results,b]
theorem Dx.r1 {f:ResultVar} {h:Value} (b:fn.results = #[f]) (i:RV P c n σ M L f h):Dx P c n σ M L fn h:=λa w s t=>by
 have:=i a w s t;simp only[CF,b];simp[this]
theorem Dx.r2 {i j:ResultVar} {k l:Value} (b:fn.results = #[i,j]) (f:RV P c n σ M L i k) (h:RV P c n σ M L j l):Dx P c n σ M L fn (.tuple #[k,l]):=λa w s t=>by
 have f:=f a w s t;have h:=h a w s t;simp only[CF,b];simp[f,h]
theorem jC {A B:Type} {m:Sz} {v:Value} {f:Exit} {C:A->Prop} {b:A->B->Value} {k j:A->B->List bJ} (x:A) (y:B) (l:C x) (i:f = .ret∨f = .normal) (q:Dx P c m σ' M L fn v) (u:v=b x y) (p:a_ M (k x y)) (o:aI [] L (j x y)) (h:m.ds=[]:=by rfl):
  J c m σ' M L (nG P fn (Vr c C b k j) f):=λa w s t=>by
 exact body_end i (s.defers.trans h) (q a w s t) ⟨x,y,l,by rw[u],t.weakE p o⟩
end
section
variable {P:Program} {rd:Option Nat} {c:xY} {n:Sz} {σ σ':Fr} {M L M' L':List bJ} {Q:Exit->Act->World->Prop} {ops:Array Oper} {rest:List Oper} {K:Act->World->Prop} {G:Act->World->Prop}
variable {d:Option Tmp} {D:Nat} {ty:TypeId} {pos:String} {aft:Array Edge} {g:Option (Nat×Bool)}
variable {α β:Type} {e:bL α} {r:eD α}
def HR (v:Value) (m:Nat):Prop:=match v with
 | .slice _ _ cap=>m<=cap
 |_=>False
theorem Know.cap (q:Nat) {v:Value} {xs:List α} (f:M[q]? = some (Ar e v xs)):∀c w,St c M L w->HR v xs.length:=λc w t=>by
 obtain⟨F,_,_,h⟩:=t.res f;rcases h with⟨rfl,rfl⟩|⟨b,i,cap,T,a,rfl,_,_,h,_⟩
 ·exact zAg _
 ·exact h
theorem HR.slq {v:Value} {m k q:Nat} (h:HR v m):HR (slq v 0 k q) m:=by
 cases v<;>simp_all [HR,Go.Sx.slq]
theorem Ln {b f a l k q:Nat}:slq (.slice (some ⟨b,f,none⟩) l a) 0 k q = .slice (some ⟨b,f,none⟩) k a:=by
 simp[slq,fC]
theorem VD [eB P] {T E:TypeId} {R U u V:Nat} {z W:Value} {A:TypeDesc} {x p o q:Operand} {v:Value} {i k m:Int} {y:List α} (O:ev σ x=some v) (j:ev σ p=some (.int .i64 i)) (f:ev σ o=some (.int .i64 k)) (l:ev σ q=some (.int .i64 m)) (J:aA M L (Sl r v y))
  (I:eB.tab P T=some ⟨.slice E,R,U,z⟩) (H:eB.tab P E=some ⟨A,u,V,W⟩) (h:0<=i∧i<=k∧k<=m∧m<=y.length):Y P c n σ M L ⟨d,.slice T x (some p) (some o) (some q),ty,pos,aft,g⟩
   (match v with|.slice a _ _=> .slice (if m.toNat=i.toNat then a else a.map (·.add (i.toNat*u))) (k.toNat - i.toNat) (m.toNat - i.toNat)|v=>v):=λa w s t=>by
 obtain⟨S,X,b,N,hb,_⟩:=J.st t;subst N;have B:0<=m∧m<=(b:Int):=by omega
 have C:0<=k∧k<=((m.toNat:Nat):Int):=by omega
 have F:0<=i∧i<=((k.toNat:Nat):Int):=by omega
 simp[execOp,s.eval O,s.eval j,s.eval f,s.eval l,Instr.sliceAt,Instr.slice,(eB.ok I).run_und w,Instr.sliceBounds,Instr.sliceBound,asIntOf,(eB.ok H).run_size w,B,C,F];rw[if_pos (by omega),if_pos (by omega)]
theorem Ph [eB P] (q:Nat) {T E:TypeId} {V W A X:Nat} {z z':Value} {C:TypeDesc} {x y u:Operand} {v:Value} {i k:Int} {xs:List α} (S:ev σ x=some v) (o:ev σ y=some (.int .i64 i)) (m:ev σ u=some (.int .i64 k)) (O:M[q]? = some (Ar e v xs))
  (N:eB.tab P T=some ⟨.slice E,V,W,z⟩) (J:eB.tab P E=some ⟨C,A,X,z'⟩) (j:HR v k.toNat) (h:0<=i∧i<=k):Y P c n σ M L ⟨d,.slice T x (some y) (some u) none,ty,pos,aft,g⟩ (slq v i.toNat k.toNat A):=λa w s t=>by
 obtain⟨F,_,_,R⟩:=t.res O;obtain⟨p,l,f,rfl⟩:∃p l f,v = .slice p l f:=by
  rcases R with⟨rfl,_⟩|⟨b,U,f,T',B,rfl,_⟩
  ·exact⟨_,_,_,rfl⟩
  ·exact⟨_,_,_,rfl⟩
 have hc:k.toNat<=f:=j;have H:0<=k∧k<=(f:Int):=by omega
 have I:0<=i∧i<=((k.toNat:Nat):Int):=by omega
 simp[execOp,s.eval S,s.eval o,s.eval m,Instr.sliceAt,Instr.slice,(eB.ok N).run_und w,Instr.sliceBounds,Instr.sliceBound,asIntOf,(eB.ok J).run_size w,slq,H,I];omega
theorem Mf {a:Array Value} {k:Nat} {u:Value} (f:0<a.size) (h:u∈(Builtin.zeroCells a k).toList):u∈a.toList:=by
 unfold Builtin.zeroCells at h;simp only[Array.toList_map,List.mem_map]at h;obtain⟨i,_,rfl⟩:=h;have b:i%a.size<a.size:=Nat.mod_lt _ f;rw[getElem!_pos a (i%a.size) b];simp
theorem UO (a:List Value) (b k o:Nat) (f:List Value) (i:b+k<=o) (h:o+f.length<=a.length):
  ((a.take o++f++a.drop (o+f.length)).drop b).take k=(a.drop b).take k:=by
 rw[zB9,List.drop_append_of_le_length (by simp;omega),List.drop_take,List.take_append_of_le_length (by simp;omega),List.take_take,Nat.min_eq_left (by omega)]
theorem OO [eB P] (q:Nat) {x:Operand} {v:Value} {f:List α} {k m:Nat} {T E:TypeId} {s1 s2 S s4:Nat} {z p:Value} {dE:TypeDesc} (hx:ev σ x=some (slq v k m S)) (R:M[q]? = some (Ar e v f)) (F:k=f.length) (y:HR v m) (af:k<=m)
  (hT:eB.tab P T=some ⟨.slice E,s1,s2,z⟩) (hE:eB.tab P E=some ⟨dE,S,s4,p⟩) (h3:e.sz=S) (hz:p.cells.size=S) (ad:p.cells.toList.all one=true) (h:J c n σ M L (wpList P ops Q rest)):
  J c n σ M L (wpList P ops Q (⟨none,.call ⟨.builtin .clear,#[x],#[T]⟩,ty,pos,aft,none⟩::rest)):=λa w s t=>by
 subst h3 F;refine mJ Z ?_;have t0:=t;obtain⟨ho,FF,hO,V⟩:=t0;have hA:=hO.res q _ R;obtain⟨h0,H,hh⟩:=hA;have O:=(eB.ok hT).run_und w;rcases hh with⟨rfl,rfl⟩|⟨b,i,j,U,o,rfl,B,C,F,hc,ht⟩
 ·have hm:m=0:=by have:m<=0:=y;omega
  subst hm;have l:(execOp a.eval ⟨none,.call ⟨.builtin .clear,#[x],#[T]⟩,ty,pos,aft,none⟩).run P w = .ok (.value (.tuple #[])) w:=by
   simp[execOp,resolve,invoke,s.eval hx,builtin,Builtin.clear_,O,slq]
  simp only[Oper.wp,l,Oper.upon];exact h _ w s t
 ·have X:m<=j:=y;by_cases he:m=f.length
  ·have l:(execOp a.eval ⟨none,.call ⟨.builtin .clear,#[x],#[T]⟩,ty,pos,aft,none⟩).run P w = .ok (.value (.tuple #[])) w:=by
    subst he;by_cases W:j=f.length<;>simp[execOp,resolve,invoke,s.eval hx,builtin,Builtin.clear_,O,slq,W]
   simp only[Oper.wp,l,Oper.upon];exact h _ w s t
  ·have ag:f.length<m:=by omega
   have ab:j≠f.length:=by omega
   obtain⟨k,aa⟩:∃k,m - f.length=k+1:=⟨m - f.length - 1,by omega⟩
   have hv:slq (.slice (some ⟨b,i,none⟩) f.length j) f.length m e.sz = .slice (some ⟨b,i+f.length*e.sz,none⟩) (k+1) (j - f.length):=by
    simp[slq,ab,fC,aa]
   have ah:(Builtin.zeroCells p.cells (k+1)).toList.length=(k+1)*e.sz:=by
    have:=size_zeroCells p.cells (k+1);rw[hz]at this;simpa using this
   have A:i+f.length*e.sz+0+(Builtin.zeroCells p.cells (k+1)).toList.length<=o.size:=by
    have h1:(f.length+(k+1))*e.sz<=j*e.sz:=zAx _ (by omega);have h2:(f.length+(k+1))*e.sz=f.length*e.sz+(k+1)*e.sz:=zAy _ _ _;omega
   have ac:∀u∈(Builtin.zeroCells p.cells (k+1)).toList,u.oneCell'=true:=λu O=>by
    refine qT (zA5.1 ad u ?_);exact Mf (by rw[hz];exact e.pos) O
   have N:=run_storeCells_at P b (i+f.length*e.sz) U _ 0 o w C A ac;simp only[Nat.add_zero]at N;have ae:=(eB.ok hE).run_zero w;have l:(execOp a.eval ⟨none,.call ⟨.builtin .clear,#[x],#[T]⟩,ty,pos,aft,none⟩).run P w = .ok (.value (.tuple #[])) (w.setRow b (o.toList.take (i+f.length*e.sz)++(Builtin.zeroCells p.cells (k+1)).toList++o.toList.drop (i+f.length*e.sz+(Builtin.zeroCells p.cells (k+1)).toList.length)).toArray):=by
    simp[execOp,resolve,invoke,s.eval hx,hv,builtin,Builtin.clear_,O,ae,N]
   simp only[Oper.wp,l,Oper.upon];refine h _ _ s ?_;have I:M.set q (Ar e (.slice (some ⟨b,i,none⟩) f.length j) f)=M:=by
    have hq:q<M.length:=(List.getElem?_eq_some_iff.1 R).1;have:=(List.getElem?_eq_some_iff.1 R).2
    conv=>rhs;rw[<-List.set_getElem_self hq]
    rw[this]
   rw[<-I];refine Ga ho hO V R Z Z Z (by simp) (λk _ Y=>setRow_other w b k _ (λe=>Y (by subst e;exact B))) (F':=FF q) ?_ (λk F=> .inl F);refine⟨h0,H,.inr ⟨b,i,j,U,_,rfl,B,setRow_heap w b _ _ U _ C,F,?_,?_⟩⟩
   ·simp only[List.size_toArray,zA9,List.length_take,List.length_drop];have:o.size=o.toList.length:=by simp
    omega
   ·have:=UO o.toList i (f.length*e.sz) (i+f.length*e.sz) (Builtin.zeroCells p.cells (k+1)).toList (zAg _) (by simpa using A);rw[<-ht];exact this
theorem Bn (i:Nat) {k:Int} {vs:List Value} {xss:List (List α)} (C:M[i]? = some (gN e vs xss)) (h:0<=k∧k<xss.length):
  eS M L (Ar e (at' vs k) (at' xss k)::M.set i (gN e (vs.set k.toNat (.slice none 0 0)) (xss.set k.toNat []))) L:=λc w t=>by
 obtain⟨W,F,p,V⟩:=t;obtain⟨z,G,T,s,N⟩:=p.res i _ C;have O:k.toNat<vs.length:=by omega
 have R:i<M.length:=(List.getElem?_eq_some_iff.1 C).1;have A:=T k.toNat _ _ (cV h.1 (by omega)) (cV h.1 h.2);refine⟨W,λj q=>match j with|0=>G k.toNat q|j+1=>(j=i∧∃j',j'≠k.toNat∧G j' q)∨(j≠i∧F j q),⟨?_,?_,?_⟩,λf C=> ?_⟩
 ·intro j m x;cases j with
  |zero=>simp at x;subst x;exact A
  | succ j =>
   rw[List.getElem?_cons_succ]at x;by_cases J:j=i
   ·subst J;rw[zAd R]at x;cases x;refine⟨by simp[z],λj' q=>j'≠k.toNat∧G j' q,λj' v U E H=> ?_,λj' q a=> .inl ⟨rfl,j',a⟩,λS B q b l=>N _ _ q b.2 l.2⟩
    by_cases u:j'=k.toNat
    ·subst u;rw[zAd O]at E;rw[zAd (by omega)]at H;cases E;cases H;exact⟨by simp,rfl,.inl ⟨rfl,rfl⟩⟩
    ·rw[zAm (Ne.symm u)]at E H;exact bJ.same (f:=Ar e v U) (T j' v U E H) (λq a=>⟨u,a⟩) (λ_ _ _=>rfl)
   ·rw[zAm (Ne.symm J)]at x;exact bJ.same (p.res j m x) (λq a=> .inr ⟨J,a⟩) (λ_ _ _=>rfl)
 ·intro j q a;cases j with
  |zero=>exact p.rng i q (s _ q a)
  |succ j=>
   rcases a with⟨_,j',_,a⟩|⟨_,a⟩
   ·exact p.rng i q (s _ q a)
   ·exact p.rng j q a
 ·intro S B q b l;cases S with
  | zero =>
   cases B with
   |zero=>rfl
   |succ B=>
    rcases l with⟨_,j',o,l⟩|⟨o,l⟩
    ·exact absurd (N _ _ q l b) o
    ·exact absurd (p.dis _ _ q l (s _ q b)) o
  | succ S =>
   cases B with
   |zero=>
    rcases b with⟨_,j',o,b⟩|⟨o,b⟩
    ·exact absurd (N _ _ q b l) o
    ·exact absurd (p.dis _ _ q b (s _ q l)) o
   |succ B=>
    congr 1;rcases b with⟨I,j',_,b⟩|⟨I,b⟩<;>rcases l with⟨u,X,_,l⟩|⟨u,l⟩
    ·rw[I,u]
    ·exact absurd (p.dis _ _ q l (s _ q b)) u
    ·exact absurd (p.dis _ _ q b (s _ q l)) I
    ·exact p.dis _ _ q b l
 ·refine bJ.same (V f C) (λq a=>⟨a.1,λj y=> ?_⟩) (λ_ _ _=>rfl);cases j with
  |zero=>exact a.2 i (s _ q y)
  |succ j=>
   rcases y with⟨_,j',_,y⟩|⟨_,y⟩
   ·exact a.2 i (s _ q y)
   ·exact a.2 j y
theorem Bl (i j:Nat) {u:Value} {k:Int} {vs:List Value} {xss:List (List α)} {ys:List α} (a:Nat.beq i j=false) (b:M[i]? = some (gN e (vs.set k.toNat (.slice none 0 0)) (xss.set k.toNat []))) (f:M[j]? = some (Ar e u ys)) (h:0<=k∧k<(xss.set k.toNat []).length):
  eS M L ((M.set i (gN e (vs.set k.toNat u) (xss.set k.toNat ys))).eraseIdx j) L:=by
 have:=Ap (L:=L) i j a b f h;rwa[List.set_set,List.set_set]at this
theorem Ms {α:Type} [Inhabited α] (l:List α) {j k:Int} (y:α) (h:j.toNat≠k.toNat):at' (l.set j.toNat y) k=at' l k:=by
 rw[at',at',zAk,zAk,zAm h]
theorem Bz [eB P] (i:Nat) {r:eD α} (f:e.Fits r) {x y:Operand} {u o:Value} {k j:Int} {vs:List Value} {a:List (List α)} {l b:List α} {T E:TypeId} {S U m s:Nat} {z t:Value} {v:TypeDesc} (N:ev σ x=some (at' vs k)) (O:ev σ y=some u) (H:M[i]? = some (gN e (vs.set j.toNat o) (a.set j.toNat b))) (I:aA M L (Sl r u l))
  (F:eB.tab P T=some ⟨.slice E,S,U,z⟩) (C:eB.tab P E=some ⟨v,m,s,t⟩) (A:e.sz=m) (B:Nat.ble s 1024=true) (w:0<=k∧k<a.length) (J:((at' a k).length:Int)+l.length<=1099511627) (R:t.cells.size=m) (h:j.toNat≠k.toNat):
  aS P c n σ M L ⟨d,.call ⟨.builtin .append,#[x,y],#[T,T]⟩,ty,pos,aft,g⟩ (λp:Value=>p) (λp=>M.set i (gN e ((vs.set j.toNat o).set k.toNat p) ((a.set j.toNat b).set k.toNat (at' a k++l)))) (λ_=>L):=by
 have q:at' (a.set j.toNat b) k=at' a k:=Ms _ _ h;have:=rQ (P:=P) (c:=c) (n:=n) (σ:=σ) (M:=M) (L:=L) (d:=d) (ty:=ty) (pos:=pos) (aft:=aft) (g:=g) (x:=x) (y:=y) (u:=u) (k:=k) (vs:=vs.set j.toNat o) (xss:=a.set j.toNat b) (ys:=l) i f (by rw[Ms _ _ h];exact N) O H I F C A B (by simpa using w) (by rw[q];exact J) R;rwa[q]at this
theorem Ed (q:Nat) {vs:List Value} {a:List (List α)} {k j:Int} {u z:Value} (x:M[q]? = some (gN e ((vs.set k.toNat u).set j.toNat z) a)) (i:k.toNat≠j.toNat) (h:0<=k∧k<a.length):∀c w,St c M L w->Go.Sx.one u=true:=λc w t=>by
 obtain⟨S,v,A,p,_⟩:=t.res x;have f:k.toNat<vs.length:=by simp at v;omega
 obtain⟨_,_,s⟩:=p k.toNat u _ (by rw[zAm (Ne.symm i),zAd f]) (zA2 (by omega));rcases s with⟨l,_⟩|⟨b,y,m,T,o,l,_⟩<;>(rw[l];rfl)
theorem nU {A:Type} {b:A->Value} {M' L':A->List bJ} {f:Op} (j:aS P c n σ M L ⟨none,f,ty,pos,aft,none⟩ b M' L') (h:∀x,J c n σ (M' x) (L' x) (wpList P ops Q rest)):
  J c n σ M L (wpList P ops Q (⟨none,f,ty,pos,aft,none⟩::rest)):=λa w s t=>
 mJ Z (Le (nM (λm l ⟨x,i,k⟩=>by subst i;exact h x _ l s k) (j a w s t)))
end
section
variable {P:Program} {rd:Option Nat} {c:xY} {n:Sz} {σ σ':Fr} {M L M' L':List bJ} {Q:Exit->Act->World->Prop} {ops:Array Oper} {rest:List Oper} {K:Act->World->Prop} {G:Act->World->Prop}
variable {d:Option Tmp} {D:Nat} {ty:TypeId} {pos:String} {aft:Array Edge} {g:Option (Nat×Bool)}
variable {α β:Type} {e:bL α} {r:eD α}
theorem OU [eB P] (j:Nat) {T:TypeId} {s2:Nat} {z:Value} {dT:TypeDesc} {x y:Operand} {v u:Value} {i:Int} {m:List α} (yv:α) (hx:ev σ x=some (El v (i.toNat*1))) (hy:ev σ y=some u) (hu:e.enc yv=[u]) (B:one u=true)
  (X:M[j]? = some (Ar e v m)) (hT:eB.tab P T=some ⟨dT,1,s2,z⟩) (N:e.sz=1) (h0:0<=i) (W:i<m.length):
  aS P c n σ M L ⟨none,.store T x y,ty,pos,aft,none⟩ (λ_:Unit=>undef) (λ_=>M.set j (Ar e v (m.set i.toNat yv))) (λ_=>L):=λa w s t=>by
 obtain⟨F,J⟩:=t.res X;have Y:i.toNat<m.length:=by omega
 have E:m[i.toNat]? = some m[i.toNat]:=zA2 Y;have H:m≠[]:=by intro e;subst e;simp at Y
 obtain⟨p,hp⟩:∃p,e.enc m[i.toNat]=[p]:=List.length_eq_one_iff.1 ((e.len _).trans N);have f:=Ak.cell J E (j:=0) (u:=p) (by rw[hp];rfl);rw[N,Nat.add_zero,Nat.mul_one]at f;rw[Nat.mul_one]at hx;have o:=OK J H i.toNat;have I:(execOp a.eval ⟨none,.store T x y,ty,pos,aft,none⟩).run P w = .ok .skip (w.setCell (JH v i.toNat) u):=by
  simp only[execOp,s.eval hx,s.eval hy,El];simp[Ht (eB.ok hT) Z B f o]
 simp only[Oper.wp,I,Oper.upon];refine⟨(),trivial,t.upd X Z Z Z (by simp[World.setCell]) λF J _=> ?_⟩
 obtain⟨hl,W,S⟩:=J;rcases S with⟨_,S⟩|⟨b,l,A,T',O,hv,C,hb,hk,hc,ht⟩
 ·exact absurd S H
 ·subst hv;have ha:JH (.slice (some ⟨b,l,none⟩) m.length A) i.toNat=⟨b,l+i.toNat,none⟩:=by simp[JH,fC]
  rw[ha];refine⟨λk _ U=>Below.heap_setCell _ _ _ _ (λe=>U (by simp only at e;subst e;exact C)),F,⟨by simpa using hl,?_,.inr ⟨b,l,A,T',O.setIfInBounds (l+i.toNat) u,by simp,C,?_,by simpa using hk,by simpa using hc,?_⟩⟩,λ_ h=> .inl h⟩
  ·rw[yA N hu,zA5];intro q V;rcases List.mem_or_eq_of_mem_set V with R|R
   ·exact zA5.1 W q R
   ·rw[R];exact B
  ·simp[World.setCell,Array.getElem?_modify,hb]
  ·rw[yA N hu,<-ht,Array.toList_setIfInBounds,zA0,<-take_set];congr 1;rw[List.drop_set,if_neg (by omega),Nat.add_sub_cancel_left]
theorem Dj [eB P] (j q:Nat) {T:TypeId} {E:Nat} {z:Value} {m:TypeDesc} {x y:Operand} {v u:Value} {i:Int} {vs b:List Value} {f:List (List α)} (h:0<=i∧i<f.length) (B:ev σ x=some (El v (i.toNat*1))) (C:ev σ y=some u)
  (p:M[j]? = some (Ar aE v vs)) (A:M[q]? = some (gN e b f)) (F:b.length=vs.length) (k:one u=true) (o:eB.tab P T=some ⟨m,1,E,z⟩):
  aS P c n σ M L ⟨none,.store T x y,ty,pos,aft,none⟩ (λ_:Unit=>undef) (λ_=>M.set j (Ar aE v (vs.set i.toNat u))) (λ_=>L):=λa w s t=>by
 have l:b.length=f.length:=by obtain⟨_,h⟩:=t.res A;exact h.1
 exact OU j u B C Z k p o Z h.1 (by omega) a w s t
section
variable {l:List Oper} {m:List Nat} {k0:Nat} {H Bs:List (Nat×List bJ×List bJ)} {rs:List Nat}
theorem HE {A:Type} {j:A->Value} {M' L':A->List bJ} {i:Nat} {b:Op}
  (o:l[i]? = some ⟨none,b,ty,pos,aft,none⟩) (v:Nat.blt i k0=true) (y:fV b=true) (z:aS P c n σ M L ⟨none,b,ty,pos,aft,none⟩ j M' L')
  (q:∀x,BS (before m i) (M' x) (L' x) Bs) (h:∀x,JR c n σ (M' x) (L' x) ((i,M,L)::H) Bs (RW P l.toArray Q (before m) (eK l) k0 rs)):
  JR c n σ M L H Bs (RW P l.toArray Q (before m) (eK l) k0 (i::rs)):=λa w X Y s t u k=>by
 have f:l.toArray[i]? = some ⟨none,b,ty,pos,aft,none⟩:=by simpa using o
 simp only[RW,f];rw[if_pos (by simp[Region.wanted])];refine .inr (.inr ⟨by simpa [zAu]using v,by simp[eK,o,y],nM ?_ (z a w s t)⟩);rintro C B ⟨x,rfl,p⟩;exact⟨(q x).use p k,h x _ B _ Y s p ⟨rfl,t,u⟩ k⟩
end
theorem IJ {A B:Type} {f:FuncId} {j:Func} {b:Code} {k:List Value} {m:Nat} {q:Op} (C:A->Prop) (i:A->B->Value) (o l:A->B->List bJ) (E:oB P c n σ M L ⟨d,q,ty,pos,aft,g⟩ f k) (F:P.funcs[f]? = some j) (z:j.body=some b) (I:j.ntmps=m) (H:Nat.ble k.length m=true)
  (u:J c ⟨m,[]⟩ (Cp 0 k) M L (b.wpr none P (nG P j (Vr c C i o l)))):
  aS P c n σ M L ⟨d,q,ty,pos,aft,g⟩ (λx:{p:A×B // C p.1}=>i x.1.1 x.1.2) (λx=>o x.1.1 x.1.2) (λx=>l x.1.1 x.1.2):=λa w s t=>by
 have h:=E.run a w s t;simp only[Oper.wp,h,Oper.upon];refine(x_ F z (u _ w (Rb I H) t)).mono ?_;rintro e O ⟨x,y,v,rfl,N⟩;exact⟨⟨(x,y),v⟩,rfl,N⟩
theorem xZ {A B:Type} {f:FuncId} {j:Func} {h:Code} {vs:List Value} {m:Nat} {o:Op} (C:A->Prop) (i:A->B->Value) (l k:A->B->List bJ) (v:oB P c n σ M L ⟨some D,o,ty,pos,aft,none⟩ f vs) (w:P.funcs[f]? = some j) (u:j.body=some h) (y:j.ntmps=m) (x:Nat.ble vs.length m=true) (t:Nat.blt D n.sz=true)
  (p:J c ⟨m,[]⟩ (Cp 0 vs) M L (h.wpr none P (nG P j (Vr c C i l k)))) (q:∀a b,C a->J c n ((D,i a b)::σ) (l a b) (k a b) (wpList P ops Q rest)):J c n σ M L (wpList P ops Q (⟨some D,o,ty,pos,aft,none⟩::rest)):=
 aM (IJ C i l k v w u y x p) t fun⟨⟨a,b⟩,s⟩=>q a b s
theorem Ys {A B:Type} {f:FuncId} {k:Func} {h:Code} {vs:List Value} {m:Nat} {q:Op} {j:Nat} {p:Bool} (C:A->Prop) (i:A->B->Value) (o l:A->B->List bJ) (z:gv ops σ j=some p) (x:oB P c n σ M L ⟨some D,q,ty,pos,aft,some (j,p)⟩ f vs) (y:P.funcs[f]? = some k) (w:k.body=some h) (F:k.ntmps=m) (E:Nat.ble vs.length m=true) (v:Nat.blt D n.sz=true)
  (s:J c ⟨m,[]⟩ (Cp 0 vs) M L (h.wpr none P (nG P k (Vr c C i o l)))) (t:∀a b,C a->J c n ((D,i a b)::σ) (o a b) (l a b) (wpList P ops Q rest)):J c n σ M L (wpList P ops Q (⟨some D,q,ty,pos,aft,some (j,p)⟩::rest)):=
 lR z (IJ C i o l x y w F E s) v fun⟨⟨a,b⟩,u⟩=>t a b u
section
variable {l:List Oper} {mm:List Nat} {k0:Nat} {H Bs:List (Nat×List bJ×List bJ)} {rs:List Nat}
theorem Ec {A B:Type} {i:Nat} {f:FuncId} {p:Func} {h:Code} {vs:List Value} {m:Nat} {q:Op} (C:A->Prop) (j:A->B->Value) (o k:A->B->List bJ) (E:l[i]? = some ⟨some D,q,ty,pos,aft,none⟩) (F:Nat.blt i k0=true) (I:fV q=true) (y:oB P c n σ M L ⟨some D,q,ty,pos,aft,none⟩ f vs) (z:P.funcs[f]? = some p) (x:p.body=some h) (O:p.ntmps=m) (N:Nat.ble vs.length m=true) (w:Nat.blt D n.sz=true)
  (u:∀a b,BS (before mm i) (o a b) (k a b) Bs) (s:J c ⟨m,[]⟩ (Cp 0 vs) M L (h.wpr none P (nG P p (Vr c C j o k)))) (t:∀a b,C a->JR c n ((D,j a b)::σ) (o a b) (k a b) ((i,M,L)::H) Bs (RW P l.toArray Q (before mm) (eK l) k0 rs)):
  JR c n σ M L H Bs (RW P l.toArray Q (before mm) (eK l) k0 (i::rs)):=
 zBd E F I (IJ C j o k y z x O N s) w (λ_=>u _ _) fun⟨⟨a,b⟩,v⟩=>t a b v
end
theorem Gb [eB P] {T E:TypeId} {k q u b A:Nat} {z B:Value} {f:TypeDesc} {x y:Operand} {v:Value} {o:Nat} {i:Int} (m:ev σ x=some (El v o)) (p:ev σ y=some (.int .i64 i))
  (l:eB.tab P T=some ⟨.array k E,q,u,z⟩) (j:eB.tab P E=some ⟨f,b,A,B⟩) (_h3:(b==0)=false) (h:0<=i∧i<(k:Int)):
  Y P c n σ M L ⟨d,.indexAddr T x y,ty,pos,aft,g⟩ (El v (o+i.toNat*b)):=λa w s t=>by
 simp[execOp,s.eval m,s.eval p,Instr.indexAt,asIntOf,(eB.ok l).run_und w,h,Instr.sureAddr,El,(eB.ok j).run_size w,JV]
theorem bU {x:Operand} {b o:Nat} (f:ev σ x=some (.pointer (some ⟨b,o,none⟩))):Y P c n σ M L ⟨d,.nilCheck x,ty,pos,aft,g⟩ (.pointer (some ⟨b,o,none⟩)):=λa w s t=>by
 simp[execOp,s.eval f]
theorem jQ [eB P] [Inhabited α] (j:Nat) {T:TypeId} {s2 k o q:Nat} {z:Value} {dT:TypeDesc} {x y:Operand} {v u:Value} {us:List Value} {i:Int} {p:List α} (J:α) (h:0<=i∧i<p.length) (hx:ev σ x=some (El v (i.toNat*q+o))) (hy:ev σ y=some u)
  (hf:M[j]? = some (Ar e v p)) (hq:e.sz=q) (U:u.cells=us.toArray) (hk:us.length=k) (ho:Nat.ble (o+k) q=true) (I:e.enc J=(e.enc (at' p i)).take o++us++(e.enc (at' p i)).drop (o+k)) (W:us.all one=true) (hT:eB.tab P T=some ⟨dT,k,s2,z⟩):
  aS P c n σ M L ⟨none,.store T x y,ty,pos,aft,none⟩ (λ_:Unit=>undef) (λ_=>M.set j (Ar e v (p.set i.toNat J))) (λ_=>L):=λa w s t=>by
 subst hq hk;have aq:o+us.length<=e.sz:=by simpa using ho
 have hi:i.toNat<p.length:=by omega
 have t0:=t;obtain⟨aj,FF,hO,af⟩:=t0;obtain⟨h0,A,hh⟩:=hO.res j _ hf;rcases hh with⟨_,rfl⟩|⟨b,m,V,T',f,rfl,X,Y,aa,hc,ht⟩
 ·simp at hi
 -- the parts of the row
 obtain⟨l,B,C,H,hl⟩:∃l B C,p=l++B::C∧l.length=i.toNat:=⟨p.take i.toNat,p[i.toNat],p.drop (i.toNat+1),by rw[List.getElem_cons_drop,zB7],by simp;omega⟩
 have ah:at' p i=B:=by
  rw[at',zAk,<-hl,H,zA8 (zAg _)];simp
 rw[ah]at I;have eE:=e.len B;have eA:(cellsOf e l).length=i.toNat*e.sz:=by rw[fO,hl]
 have E:cellsOf e p=cellsOf e l++(e.enc B++cellsOf e C):=by rw[H];simp[cellsOf]
 have S:cellsOf e (p.set i.toNat J)=cellsOf e l++(e.enc J++cellsOf e C):=by
  have:p.set i.toNat J=l++J::C:=by rw[H,<-hl,List.set_append_right _ _ (zAg _)];simp
  rw[this];simp[cellsOf]
 have ao:p.length*e.sz<=V*e.sz:=zAx _ aa;obtain⟨N,R,O,hH⟩:∃N R,f.toList=N++(cellsOf e l++(e.enc B++(cellsOf e C++R)))∧N.length=m:=by
  refine⟨f.toList.take m,(f.toList.drop m).drop (p.length*e.sz),?_,by simp;omega⟩
  have e1:cellsOf e l++(e.enc B++(cellsOf e C++(f.toList.drop m).drop (p.length*e.sz)))=f.toList.drop m:=by
   have:cellsOf e l++(e.enc B++(cellsOf e C++(f.toList.drop m).drop (p.length*e.sz)))=cellsOf e p++(f.toList.drop m).drop (p.length*e.sz):=by rw[E];simp
   rw[this,<-ht,zB7]
  rw[e1,zB7]
 have am:f.size=f.toList.length:=by simp
 have ak:f.toList.take (m+(i.toNat*e.sz+o))=N++(cellsOf e l++(e.enc B).take o):=by
  have:f.toList=(N++(cellsOf e l++(e.enc B).take o))++((e.enc B).drop o++(cellsOf e C++R)):=by
   rw[O,zB9,zB9,<-zB9 ((e.enc B).take o),zB7]
  rw[this];exact List.take_left' (by simp[hH,eA,eE];omega)
 have al:f.toList.drop (m+(i.toNat*e.sz+o)+us.length)=(e.enc B).drop (o+us.length)++(cellsOf e C++R):=by
  have:f.toList=(N++(cellsOf e l++(e.enc B).take (o+us.length)))++((e.enc B).drop (o+us.length)++(cellsOf e C++R)):=by
   rw[O,zB9,zB9,<-zB9 ((e.enc B).take (o+us.length)),zB7]
  rw[this];exact List.drop_left' (by simp[hH,eA,eE];omega)
 have ae:(i.toNat+1)*e.sz<=p.length*e.sz:=zAx _ (by omega);have ap:(i.toNat+1)*e.sz=i.toNat*e.sz+e.sz:=by rw[zAy,Nat.one_mul]
 have ab:m+(i.toNat*e.sz+o)+0+us.length<=f.size:=by omega
 have ad:=run_storeCells_at P b (m+(i.toNat*e.sz+o)) T' us 0 f w Y ab (λu U=>qT (zA5.1 W u U));simp only[Nat.add_zero]at ad;have ar:(eB.ok hT).run_size w=(eB.ok hT).run_size w:=rfl;have ac:(execOp a.eval ⟨none,.store T x y,ty,pos,aft,none⟩).run P w = .ok .skip (w.setRow b (f.toList.take (m+(i.toNat*e.sz+o))++us++f.toList.drop (m+(i.toNat*e.sz+o)+us.length)).toArray):=by
  simp[execOp,s.eval hx,s.eval hy,El,JH,Instr.storeAt,Instr.sureAddr,storeVar,U,(eB.ok hT).run_size w,fC,ad]
 simp only[Oper.wp,ac,Oper.upon];refine⟨(),trivial,?_⟩
 refine Ga aj hO af hf Z Z Z (by simp) (λk _ ai=>setRow_other w b k _ (λe=>ai (by subst e;exact X))) (F':=FF j) ?_ (λk hk=> .inl hk);have F:(e.enc J).length=e.sz:=e.len J;refine⟨by simpa using h0,?_,.inr ⟨b,m,V,T',_,by simp,X,setRow_heap w b _ _ T' _ Y,by simpa using aa,?_,?_⟩⟩
 ·rw[S];rw[E]at A;simp only[List.all_append,zA7]at A ⊢;refine⟨A.1,?_,A.2.2⟩
  rw[I];simp only[List.all_append,zA7];refine⟨⟨zA5.2 λu U=>zA5.1 A.2.1 u (List.mem_of_mem_take U),W⟩,zA5.2 λu U=>zA5.1 A.2.1 u (List.mem_of_mem_drop U)⟩
 ·simp only[List.size_toArray,zA9,List.length_take,List.length_drop];omega
 ·show((f.toList.take _++us++f.toList.drop _).drop m).take ((p.set i.toNat J).length*e.sz)=_;rw[ak,al,S,I,zA0];have e3:(N++(cellsOf e l++(e.enc B).take o)++us++((e.enc B).drop (o+us.length)++(cellsOf e C++R)))=N++((cellsOf e l++(((e.enc B).take o++us++(e.enc B).drop (o+us.length))++cellsOf e C))++R):=by simp
  rw[e3,<-hH,List.drop_left];refine List.take_left' ?_;have ag:(cellsOf e C).length=C.length*e.sz:=fO e C;have an:p.length=i.toNat+1+C.length:=by rw[H,<-hl];simp;omega
  rw[I]at F;rw[zA9,zA9,F,eA,ag,an,zAy,zAy,Nat.one_mul];omega
end
end Go.Sx
namespace Go.Sx
section
variable {P:Program} {M L:List bJ} {α β γ:Type} {r:eD α} {s:eD γ} {q:eD β}
def eD.Deep (r:eD α) (q:eD β) (f:α->Value×List β):Prop:=∀{w S es x},r.R w S es x->Fc q w S (f x).1 (f x).2
theorem Fj (q:eD β):(eD.sl q).Deep q (λx=>x):=λh=>h.2
theorem TU {f:α->Value×List β} (h:r.Deep q f):(r.pair s).Deep q (λx=>f x.1):=by
 rintro w S d x ⟨b,c,rfl,a,_⟩;exact h a
theorem F_ {f:α->Value×List β} (h:r.Deep q f):(s.pair r).Deep q (λx=>f x.2):=by
 rintro w S d x ⟨b,c,rfl,_,a⟩;exact h a
theorem jS [Inhabited α] {v:Value} {a:List α} {i:Int} {f:α->Value×List β} (h:aA M L (Sl r v a)) (d:r.Deep q f) (b:0<=i) (c:i<a.length):aA M L (Sl q (f (at' a i)).1 (f (at' a i)).2):=h.mono λ{w U} hs=>by
 obtain⟨g,e,_⟩:=sl_cell hs (cV b c);exact d e
theorem QL [eB P] {c:xY} {n:Sz} {j:Fr} {d:Option Tmp} {F:TypeId} {i:String} {e:Array Edge} {g:Option (Nat×Bool)} {T E:TypeId} {A B C D m b:Nat} {z G:Value} {o:TypeDesc} {x l:Operand} {k:Int} (y:ev j x=some (.pointer (some ⟨b,0,none⟩))) (f:ev j l=some (.int .i64 k))
  (v:eB.tab P T=some ⟨.array m E,A,B,z⟩) (u:eB.tab P E=some ⟨o,C,D,G⟩) {q:Int} (h:0<=k∧k<=((m:Nat):Int)∧k<=q):Y P c n j M L ⟨d,.slice T x none (some l) none,F,i,e,g⟩ (.slice (some ⟨b,0,none⟩) k.toNat m):=λa w s t=>by
 have p:0<=k∧k<=(m:Int):=⟨h.1,h.2.1⟩
 simp[execOp,s.eval y,s.eval f,Instr.sliceAt,Instr.slice,(eB.ok v).run_und w,Instr.sliceBounds,Instr.sliceBound,asIntOf,(eB.ok u).run_size w,p,asAddr,Addr.add,Instr.sureAddr]
theorem Vn {e:bL α} {i b T m:Nat} {k:Int} {a:List α} (t:M[i]? = some (bO b (cellsOf e a) T)) (c:e.Fits r) (h:0<=k∧k<=((m:Nat):Int)∧k<=(a.length:Int)) (p:m<=9223372036854775807):aA M L (Sl r (.slice (some ⟨b,0,none⟩) k.toNat m) (a.take k.toNat)):=λw S T U B f C v=>by
 have n:=f i _ t;have o:(a.take k.toNat).length=k.toNat:=by simp;omega
 refine⟨some ⟨b,0,none⟩,m,by rw[o],by rw[o];omega,.inr ⟨b,0,rfl,v _ _ n.1,λj x d=> ?_⟩⟩
 have l:a[j]? = some x:=by
  rw[zAo]at d;split at d
  ·exact d
  ·cases d
 obtain⟨g,D,z,_⟩:=c;refine⟨e.enc x,λq u A=> ?_,z⟩
 have y:=Da e a _ _ l _ _ A;rw[g,Nat.zero_add];exact bO.cell n y
def eD.All (r:eD α) (n:Nat) (g:α->List Value):Prop:=r.sz=n∧∀{w S es x},r.R w S es x->es=g x
theorem QE {e:bL α} (h:e.Fits r):r.All e.sz e.enc:=⟨h.1,h.2.1⟩
theorem QF (q:eD β):(eD.sl q).All 1 (λx=>[x.1]):=⟨rfl,λh=>h.1⟩
theorem Nr {n m:Nat} {f:α->List Value} {g:γ->List Value} (h:r.All n f) (k:s.All m g):(r.pair s).All (n+m) (λx=>f x.1++g x.2):=⟨by show r.sz+s.sz=_;rw[h.1,k.1],by
 rintro w S e x ⟨c,d,rfl,a,b⟩;rw[h.2 a,k.2 b]⟩
theorem QK [eB P] [Inhabited α] {c:xY} {n:Sz} {B:Fr} {d:Option Tmp} {O:TypeId} {o:String} {k:Array Edge} {g:Option (Nat×Bool)} {T:TypeId} {N q m:Nat} {z:Value} {p:TypeDesc} {x:Operand} {v:Value} {i:Int} {e:List α} {cs:List Value} {f:α->List Value} (K:ev B x=some (El v (i.toNat*q))) (G:aA M L (Sl r v e)) (y:r.All m f) (l:f (at' e i)=cs)
  (E:eB.tab P T=some ⟨p,cs.length,N,z⟩) (F:Aq p=true) (H:m=q) (h:0<=i∧i<e.length):Y P c n B M L ⟨d,.load T x,O,o,k,g⟩ (.agg cs.toArray):=λa w s t=>by
 obtain⟨C,D⟩:=h;obtain⟨S,h⟩:=G.st t;obtain⟨Q,I,b⟩:=sl_cell h (cV C D);have:=y.2 I;subst this l;rw[y.1,H]at b;have:=Bw (w:=w) (A:=JH v (i.toNat*q)) (cs:=f (at' e i)) (eB.ok E) F Z (λj u J=>by rw[JV];exact b j u J);simp[execOp,s.eval K,El,this]
end
end Go.Sx
namespace Go.Sx
open Go.RowKit
section
variable {P:Program} {c:xY} {n:Sz} {σ:Fr} {M L:List bJ} {d:Option Tmp} {ty:TypeId} {pos:String} {aft:Array Edge} {g:Option (Nat×Bool)}
def abv (v:Value) (m:Nat):Prop:=∃a e,v = .slice a m e∧(m=0∨∃b f,a=some ⟨b,f,none⟩)
theorem Know.len {f:Type} {r:eD f} {v:Value} {xs:List f} (j:aA M L (Sl r v xs)):∀c w,St c M L w->abv v xs.length:=λc w t=>by
 obtain⟨S,i,cap,k,_,h⟩:=j.st t;exact⟨i,cap,k,h.imp (λh=>by simp[h]) fun⟨b,a,e,_⟩=>⟨b,a,e⟩⟩
theorem cJ [eB P] {T E:TypeId} {B C k D m:Nat} {z F:Value} {o:TypeDesc} {x y:Operand} {v:Value} {i:Int} (u:ev σ x=some v) (A:ev σ y=some (.int .i64 i)) (f:abv v m)
  (s:eB.tab P T=some ⟨.slice E,B,C,z⟩) (r:eB.tab P E=some ⟨o,k,D,F⟩) (h:0<=i∧i<(m:Int)):Y P c n σ M L ⟨d,.indexAddr T x y,ty,pos,aft,g⟩ (El v (i.toNat*k)):=λa w l t=>by
 obtain⟨G,e,rfl,f⟩:=f;obtain⟨p,q⟩:=h;rcases f with rfl|⟨b,j,rfl⟩
 ·omega
 ·simp[execOp,l.eval u,l.eval A,Jd w (eB.ok s) Z (eB.ok r) b j _ e i p q]
theorem Kz [eB P] (i:Nat) {T k:TypeId} {B m o b:Nat} {z:Value} {h:TypeDesc} {x:Operand} {cs us:List Value} (y:ev σ x=some (.pointer (some ⟨b,o,none⟩))) (p:M[i]? = some (bO b cs k)) (q:eB.tab P T=some ⟨h,m,B,z⟩) (r:Aq h=true)
  (f:(cs.drop o).take m=us) (v:us.length=m):Y P c n σ M L ⟨d,.load T x,ty,pos,aft,g⟩ (.agg us.toArray):=λa w s t=>by
 subst v;obtain⟨F,l⟩:=t.res p;have:=Bw (w:=w) (A:=⟨b,o,none⟩) (cs:=us) (eB.ok q) r Z (λj u e=>by
  have:cs[o+j]? = some u:=by
   rw[<-f,zAo]at e;split at e
   ·rwa[zAp]at e
   ·cases e
  rw[fC];exact bO.cell l this)
 simp[execOp,s.eval y,this]
theorem EE {a:Type} [Inhabited a] (l:List a) (k:Int) (h:k.toNat<l.length) (b:0<=k):l.set k.toNat (at' l k)=l:=by
 have:=cV (xs:=l) b (by omega);refine List.ext_getElem? λi=> ?_;by_cases e:k.toNat=i
 ·subst e;rw[zAd h,this]
 ·rw[zAm e]
theorem pQ [eB P] {l:Type} [Inhabited l] {e:bL l} (j:Nat) {T:TypeId} {Q m o q:Nat} {z:Value} {C:TypeDesc} {x y:Operand} {u:Value} {us:List Value} {i k:Int} {vs:List Value} {b:List (List l)} (f:l) (A:0<=k∧k<b.length) (h:0<=i∧i<(at' b k).length) (N:ev σ x=some (El (at' vs k) (i.toNat*q+o))) (O:ev σ y=some u)
  (v:M[j]? = some (gN e vs b)) (I:e.sz=q) (K:u.cells=us.toArray) (G:us.length=m) (H:Nat.ble (o+m) q=true) (B:e.enc f=(e.enc (at' (at' b k) i)).take o++us++(e.enc (at' (at' b k) i)).drop (o+m)) (p:us.all one=true) (D:eB.tab P T=some ⟨C,m,Q,z⟩):
  aS P c n σ M L ⟨none,.store T x y,ty,pos,aft,none⟩ (λ_:Unit=>undef) (λ_=>M.set j (gN e vs (b.set k.toNat ((at' b k).set i.toNat f)))) (λ_=>L):=λa w s t=>by
 have U:=dC j v c w t;have F:j<M.length:=(List.getElem?_eq_some_iff.1 v).1;refine nM (λS R ⟨x,E,J⟩=>⟨x,E,?_⟩) (jQ 0 f h N O Z I K G H B p D a w s (Bn j v A c w t));have r:=Bl (j+1) 0 (u:=at' vs k) (k:=k) (vs:=vs) (xss:=b) (ys:=(at' b k).set i.toNat f) (e:=e) Z (by simp[F]) Z (by simpa using A) c R J;simp only[List.set_cons_zero,List.set_cons_succ,List.eraseIdx_cons_zero,List.set_set]at r;rw[EE vs k (by omega) A.1]at r;exact r
end
theorem a_.ix {M a:List bJ} (l:List Nat) (c:decide l.Nodup=true) (h:l.map (λi=>M[i]?)=a.map some):a_ M a:=by
 have c:l.Nodup:=zB0 c;have k:l.length=a.length:=by simpa using congrArg List.length h
 refine⟨λi=>l.getD i 0,λi j b n e=> ?_,λi m d=> ?_⟩
 ·have f:i<l.length:=by omega
  have g:j<l.length:=by omega
  simp only[zAk,zA2 f,zA2 g,Option.getD_some]at e;exact(List.getElem_inj c).1 e
 ·have b:i<l.length:=by rw[k];exact(List.getElem?_eq_some_iff.1 d).1
  have:=congrArg (λq=>q[i]?) h;simp only[List.getElem?_map,zA2 b,d,Option.map_some,Option.some.injEq]at this;simpa [zAk,zA2 b]using this
def bL.fn:bL Nat:=⟨1,Nat.one_pos,λf=>[.func (.func f) #[] #[]],λ_=>rfl⟩
def eD.fn:eD Nat:=⟨1,Nat.one_pos,λ_ _ cs x=>cs=[.func (.func x) #[] #[]],λh=>by simp[h],λh _=>h⟩
theorem OM:bL.fn.Fits eD.fn:=⟨rfl,λh=>h,rfl,λ_=>rfl⟩
section
variable {P:Program} {rd:Option Nat} {c:xY} {n:Sz} {σ:Fr} {M L:List bJ} {Q:Exit->Act->World->Prop} {ops:Array Oper} {rest:List Oper} {d:Nat} {ty:TypeId} {pos:String} {aft:Array Edge} {x y:Operand} {v:Value} {K:Act->World->Prop}
abbrev vS (x:ByteArray):Value:= .string x
abbrev vB (x:Bool):Value:= .bool x
theorem cQ {a:Type} {p G:Prop} {_:Decidable p} {u:Option a} {r:a} (h:ck p u=some r) (k:p->u=some r->G):G:=k (SL h).1 (SL h).2
theorem eO {a b:Type} {G:Prop} {u:Option a} {f:a->Option b} {r:b} (h:u.bind f=some r) (k:∀y,u=some y->f y=some r->G):G:=by
  obtain⟨y,e,g⟩:=bnd h;exact k y e g
theorem iD (l:List Nat) {a:List bJ} (h:l.map (L[·]?)=a.map some):aI M L a:=λf b=>by
  have g:some f∈l.map (L[·]?):=h▸List.mem_map_of_mem b;obtain⟨j,_,e⟩:=List.mem_map.1 g;exact aA.fact j e
theorem iN.ix (l:List Nat) {a:List bJ} (h:l.map (L[·]?)=a.map some):iN L a:=λf b=>by
  have g:some f∈l.map (L[·]?):=h▸List.mem_map_of_mem b;obtain⟨j,_,e⟩:=List.mem_map.1 g;exact zA1 e
theorem fW {f:bJ} (i:Nat) (h:L[i]? = some f):iN L [f]:=iN.cons (zA1 h) iN.nil
/-- which of the early loads must still hold,with the numbers of what they have read -/
def bsW (A:Nat->Bool):List (List Nat×List Nat)->List (Nat×List bJ×List bJ)->List (List Nat×List Nat×List bJ×List bJ)
  |_,[]=>[]
  |q,(j,Mx,Lx)::B=>bif A j||(Mx.isEmpty&&Lx.isEmpty)then bsW A q B else((q.headD ([],[])).1,(q.headD ([],[])).2,Mx,Lx)::bsW A q.tail B
theorem pB {A:Nat->Bool} (q:List (List Nat×List Nat)) {B:List (Nat×List bJ×List bJ)} (h:(bsW A q B).map (λz=>(decide z.1.Nodup,z.1.map (M[·]?),z.2.1.map (L[·]?)))=(bsW A q B).map (λz=>(true,z.2.2.1.map some,z.2.2.2.map some))):BS A M L B:=by
  induction B generalizing q with
  |nil=>exact BS.z
  | cons b B ih =>
    obtain⟨j,k,i⟩:=b;cases a:A j with
    |true=>exact BS.b a (ih q (by simpa [bsW,a]using h))
    | false =>
      cases g:(k.isEmpty&&i.isEmpty)with
      | true =>
        obtain⟨e,f⟩:=Bool.and_eq_true_iff.1 g;rw[List.isEmpty_iff]at e f;subst e;subst f;exact BS.h a_.nil iN.nil (ih q (by simpa [bsW,a]using h))
      | false =>
        simp only[bsW,a,g,Bool.or_self,cond_false,List.map_cons,List.cons.injEq,Prod.mk.injEq]at h;exact BS.h (a_.ix _ h.1.1 h.1.2.1) (iN.ix _ h.1.2.2) (ih q.tail h.2)
def hkB (A:Nat->Bool):List (Nat×List bJ×List bJ)->Bool
  | []=>true
  |(j,_,_)::H=>bif A j then hkB A H else false
theorem sU {A:Nat->Bool} {f e:List bJ} {H:List (Nat×List bJ×List bJ)} (h:hkB A H=true):aO A f e H:=by
  induction H with
  |nil=>exact aO.z
  | cons b B ih =>
    obtain⟨j,_,_⟩:=b;cases a:A j with
    |false=>simp[hkB,a]at h
    |true=>exact aO.b a (ih (by simpa [hkB,a]using h))
theorem hkN {A:Nat->Bool} {H:List (Nat×List bJ×List bJ)}:aO A [] [] H:=by
  induction H with
  |nil=>exact aO.z
  |cons b B a=>exact aO.h a_.nil iN.nil a
theorem dG {T:Operand} (h:(ev σ T,ev σ x,Nat.blt d n.sz)=(some (.bool true),some v,true)) (k:J c n ((d,v)::σ) M L (wpList P ops Q rest)):J c n σ M L (wpList P ops Q (⟨some d,.pick T x y,ty,pos,aft,none⟩::rest)):=by
  simp only[Prod.mk.injEq]at h;exact aC (AI h.1 h.2.1) h.2.2 k
theorem dR {T:Operand} (h:(ev σ T,ev σ y,Nat.blt d n.sz)=(some (.bool false),some v,true)) (k:J c n ((d,v)::σ) M L (wpList P ops Q rest)):J c n σ M L (wpList P ops Q (⟨some d,.pick T x y,ty,pos,aft,none⟩::rest)):=by
  simp only[Prod.mk.injEq]at h;exact aC (qY h.1 h.2.1) h.2.2 k
theorem iG {vs:List Value} {i:Nat} (h:(ev σ x,vs[i]?,Nat.blt d n.sz)=(some (.tuple vs.toArray),some v,true)) (k:J c n ((d,v)::σ) M L (wpList P ops Q rest)):J c n σ M L (wpList P ops Q (⟨some d,.extract x i,ty,pos,aft,none⟩::rest)):=by
  simp only[Prod.mk.injEq]at h;exact aC (uK h.1 h.2.1) h.2.2 k
theorem kA {t a:TypeId} {i:IntKind} {p q:Int} (h:(ev σ x,ev σ y,Nat.blt d n.sz)=(some (.int i p),some (.int i q),true)) (k:J c n ((d,.bool (decide (p≠q)))::σ) M L (wpList P ops Q rest)):J c n σ M L (wpList P ops Q (⟨some d,.binOp .neq t x y a,ty,pos,aft,none⟩::rest)):=by
  simp only[Prod.mk.injEq]at h;exact aC (xQ h.1 h.2.1) h.2.2 k
theorem jM [eB P] {b:Type} {r:eD b} {T E:TypeId} {f g:Nat} {z:Value} {a:List b} (e:aA M L (Sl r v a)) (h:(ev σ x,eB.tab P T,Nat.blt d n.sz)=(some v,some ⟨.slice E,f,g,z⟩,true)) (k:J c n ((d,.int .i64 a.length)::σ) M L (wpList P ops Q rest)):J c n σ M L (wpList P ops Q (⟨some d,.call ⟨.builtin .len,#[x],#[T]⟩,ty,pos,aft,none⟩::rest)):=by
  simp only[Prod.mk.injEq]at h;exact aC (fG h.1 e h.2.1) h.2.2 k
variable {l:List Oper} {m:List Nat} {k0:Nat} {H Bs:List (Nat×List bJ×List bJ)} {rs:List Nat}
theorem e_ {i a:Nat} {b:Op} (f:l[i]? = some ⟨some a,b,ty,pos,aft,none⟩) (k:Y P c n σ [] [] ⟨some a,b,ty,pos,aft,none⟩ v)
    (h:JR c n ((a,v)::σ) M L H ((i,[],[])::Bs) (RW P l.toArray Q (before m) (eK l) k0 rs))
    (g:Nat.blt i k0=true:=by exact rfl) (j:fV b=false:=by exact rfl) (e:Nat.blt a n.sz=true:=by exact rfl):JR c n σ M L H Bs (RW P l.toArray Q (before m) (eK l) k0 (i::rs)):=bE f a_.nil iN.nil k hkN h g j e
end
end Go.Sx
namespace Go.Sx
abbrev cC:=List Int
abbrev fP:=List (Int×Int)
abbrev bV:=List cC
abbrev jR:=List fP
abbrev fH:=ByteArray×(List (ByteArray×Int×Int×Int×Int×Int))×(List (ByteArray×(Value×fP)×(Value×List (Int×(Value×fP)))))
abbrev gX:=bV×List bV×List (List bV)
abbrev kL:=((bV×List bV×List (List bV))×Int)
abbrev UP:=(ByteArray×(List (ByteArray×Int×Int×Int×Int×Int))×(List (ByteArray×(Value×fP)×(Value×List (Int×(Value×fP))))))×((ByteArray×(List (ByteArray×Int×Int×Int×Int×Int))×(List (ByteArray×(Value×fP)×(Value×List (Int×(Value×fP))))))×(cC×jR)×Int×bV)×jR
abbrev OF:=((ByteArray×(List (ByteArray×Int×Int×Int×Int×Int))×(List (ByteArray×(Value×fP)×(Value×List (Int×(Value×fP))))))×(cC×jR)×Int×bV)×bV×Int×fP
abbrev cS:=cC×jR
abbrev DZ:=(jR×Int×bV×bV×List bV×List (List bV))
abbrev kY:=List (Value×fP)
abbrev UQ:=(ByteArray×(List (ByteArray×Int×Int×Int×Int×Int))×(List (ByteArray×(Value×fP)×(Value×List (Int×(Value×fP))))))×(cC×jR)×Int×bV
abbrev mR:=List (Value×cC)
abbrev wP:=Int×bV×List bV×List (List bV)
abbrev CM:=jR×Int×bV×bV×List bV×List (List bV)
abbrev BP:=List (Value×List (Value×List (Value×cC)))
abbrev Aj:=(Int×bV×List bV×List (List bV))
abbrev TA:=(((ByteArray×(List (ByteArray×Int×Int×Int×Int×Int))×(List (ByteArray×(Value×fP)×(Value×List (Int×(Value×fP))))))×(cC×jR)×Int×bV)×bV×Int×fP)
abbrev oC:=List (Int×Int×Int)
abbrev fM:=List Value
abbrev BQ:=List (Value×List (Value×cC))
abbrev gH:=(Int×Int)
abbrev Qb:=ByteArray×List (ByteArray×Int×Int×Int×Int×Int)×List (fP×List (Int×fP))
abbrev gC:=Int×Int
abbrev FW:=ByteArray×Int×Int×Int×Int×Int
abbrev TC:=Value×List Value×List (List Value)×Value×List Value×List (List Value)×List (List (List Value))
abbrev Ac:=List (List Value)
abbrev XT:=Value×(List (Value×cC))×Value×(List (Value×List (Value×cC)))×Value×(List (Value×List (Value×List (Value×cC))))
abbrev TD:=(ByteArray×List (ByteArray×Int×Int×Int×Int×Int)×List (fP×List (Int×fP)))
abbrev Iv:=Int×cC×cC×cC×Bool×Bool
abbrev BR:=List (List bV)
abbrev JF:=Int×(List ((Int×Int)×Int))
abbrev o_:=List bV
abbrev MY:=(Int×List bV×List (List bV))
abbrev CN:=((cC×jR))
abbrev MZ:=Int×List bV×List (List bV)
abbrev M_:=(Int×(List ((Int×Int)×Int)))
abbrev Na:=List (fP×List (Int×fP))
abbrev Lz:=List (List (List Value))
abbrev CO:=(cC×jR)
abbrev Ha:=Value×List Value
abbrev Qc:=Int×Int×Int×Int×Int×Int×Int
abbrev aaZ:=Value×Value×Value×List Value×List Value×List (List Value)×List Value×List (List Value)×List (List (List Value))
abbrev TE:=Value×List Value×List (List Value)
abbrev Iw:=List (Nat×Nat)
abbrev TF:=(Int×Int×Int×Int×Int×Int×Int)
abbrev aa_:=List Value×List (List Value)×List (List (List Value))×List Value×List (List Value)
abbrev Ix:=Int×Int×Int
abbrev LA:=(Int×Int×bV)
abbrev cY:Value:=Value.slice none 0 0
abbrev Qs:List Value:=[vI (0:Int),vI (0:Int)]
abbrev vD1:List Value:=[vS (ByteArray.mk #[]),vI (0:Int),vI (0:Int),vI (0:Int),vI (0:Int),vI (0:Int)]
end Go.Sx
namespace Go.Sx
open Go.RowKit
section
variable {P:Program} {c:xY} {n:Sz} {σ:Fr} {M L:List bJ} {d:Option Tmp} {ty:TypeId} {pos:String} {aft:Array Edge} {g:Option (Nat×Bool)} {α:Type} {e:bL α} {r:eD α}
def Yn {α:Type} (e:bL α) (v:Value) (l:List Value) (i:List (List α)):bJ where
 p w F:=∃A B:Nat->Prop,Ak aE w A v l∧(gN e l i).p w B∧(∀k,A k->F k)∧(∀k,B k->F k)∧∀k,A k->¬B k
 mono:=by
  rintro w x S u ⟨A,B,s,t,m,o,q⟩ j;exact⟨λk=>A k∧k<w.heap.size,λk=>B k∧k<w.heap.size,(Ar aE v l).mono s λk f h=>⟨⟨f,h⟩,(j k (m k f) h).2⟩,(gN e l i).mono t λk f h=>⟨⟨f,h⟩,(j k (o k f) h).2⟩,λk f=>(j k (m k f.1) f.2).1,λk f=>(j k (o k f.1) f.2).1,λk a b=>q k a.1 b.1⟩
def rR {α:Type} (e:bL α) (vs:List Value) (wss:List (List Value)) (xsss:List (List (List α))):bJ where
 p w F:=(vs.length=xsss.length∧wss.length=xsss.length)∧∃G:Nat->Nat->Prop,(∀i v h a,vs[i]? = some v->wss[i]? = some h->xsss[i]? = some a->(Yn e v h a).p w (G i))∧(∀i k,G i k->F k)∧∀i j k,G i k->G j k->i=j
 mono:=by
  rintro w B S A ⟨u,G,o,l,q⟩ m;exact⟨u,λi k=>G i k∧k<w.heap.size,λi v h a x y z=>(Yn e v h a).mono (o i v h a x y z) λk b f=>⟨⟨b,f⟩,(m k (l i k b) f).2⟩,λi k b=>(m k (l i k b.1) b.2).1,λi j k s t=>q i j k s.1 t.1⟩
theorem Ck (e:bL α):eS M L (rR e [] [] []::M) L:=eS.add λw=>⟨⟨rfl,rfl⟩,λ_ _=>False,λi v f b a=>by simp at a,λ_ _ h=>h,λ_ _ _ h=>h.elim⟩
theorem JP (i j:Nat) {v:Value} {f:List Value} {a:List (List α)} (b:Nat.beq i j=false) (m:M[i]? = some (Ar aE v f)) (o:M[j]? = some (gN e f a)):eS M L ((M.set i (Yn e v f a)).eraseIdx j) L:=λc w t=>
 t.merge i j (λe=>by subst e;simp at b) m o λh k l=>⟨_,_,h,k,λ_=> .inl,λ_=> .inr,l⟩
theorem Kt (i j:Nat) {u:Value} {us:List Value} {m:List (List α)} {vs:List Value} {wss:List (List Value)} {xsss:List (List (List α))} (p:Nat.beq i j=false) (K:M[i]? = some (rR e vs wss xsss)) (N:M[j]? = some (Yn e u us m)):eS M L ((M.set i (rR e (vs++[u]) (wss++[us]) (xsss++[m]))).eraseIdx j) L:=λc w t=>
 t.merge i j (λe=>by subst e;simp at p) K N (by
  rintro w Q D ⟨⟨s,x⟩,G,E,o,F⟩ J A;refine⟨⟨by simp[s],by simp[x]⟩,λq k=>(q<vs.length∧G q k)∨(q=vs.length∧D k),?_,?_,?_⟩
  ·intro q v O z f h l;by_cases B:q<vs.length
   ·rw[zAa B]at f;rw[zAa (by omega)]at h l;exact bJ.same (E q v O z f h l) (λk a=> .inl ⟨B,a⟩) (λ_ _ _=>rfl)
   ·rw[zA8 (by omega)]at f h l;have y:q - vs.length=0:=by have:=bQ f;simp at this;omega
    rw[y]at f;rw[show q - wss.length=0 by omega]at h;rw[show q - xsss.length=0 by omega]at l;simp at f h l;subst f;subst h;subst l;exact bJ.same J (λk a=> .inr ⟨by omega,a⟩) (λ_ _ _=>rfl)
  ·rintro q k (⟨_,a⟩|⟨_,a⟩)
   ·exact .inl (o q k a)
   ·exact .inr a
  ·rintro q C k (⟨H,a⟩|⟨H,a⟩) (⟨I,b⟩|⟨I,b⟩)
   ·exact F q C k a b
   ·exact absurd b (A k (o q k a))
   ·exact absurd a (A k (o C k b))
   ·omega)
theorem Ku (i j:Nat) {us vs:List Value} {o wss:List (List Value)} {f xsss:List (List (List α))} (z:Nat.beq i j=false) (R:M[i]? = some (rR e vs wss xsss)) (S:M[j]? = some (rR e us o f)):eS M L ((M.set i (rR e (vs++us) (wss++o) (xsss++f))).eraseIdx j) L:=λc w t=>
 t.merge i j (λe=>by subst e;simp at z) R S (by
  rintro w T U ⟨⟨A,B⟩,G,K,x,N⟩ ⟨⟨C,D⟩,J,u,h,y⟩ E;refine⟨⟨by simp[A,C],by simp[B,D]⟩,λq k=>(q<vs.length∧G q k)∨(vs.length<=q∧J (q - vs.length) k),?_,?_,?_⟩
  ·intro q v I p s l m;by_cases F:q<vs.length
   ·rw[zAa F]at s;rw[zAa (by omega)]at l m;exact bJ.same (K q v I p s l m) (λk a=> .inl ⟨F,a⟩) (λ_ _ _=>rfl)
   ·rw[zA8 (by omega)]at s l m;rw[show q - wss.length=q - vs.length by omega]at l;rw[show q - xsss.length=q - vs.length by omega]at m;exact bJ.same (u _ v I p s l m) (λk a=> .inr ⟨by omega,a⟩) (λ_ _ _=>rfl)
  ·rintro q k (⟨_,a⟩|⟨_,a⟩)
   ·exact .inl (x q k a)
   ·exact .inr (h _ k a)
  ·rintro q H k (⟨O,a⟩|⟨O,a⟩) (⟨Q,b⟩|⟨Q,b⟩)
   ·exact N q H k a b
   ·exact absurd (h _ k b) (E k (x q k a))
   ·exact absurd (h _ k a) (E k (x H k b))
   ·have:=y _ _ k a b;omega)
theorem lE (q:Nat) {vs:List Value} {wss:List (List Value)} {xsss:List (List (List α))} (a:M[q]? = some (rR e vs wss xsss)):∀c w,St c M L w->vs.length=xsss.length:=λc w t=>by
 obtain⟨_,h⟩:=t.res a;exact h.1.1
end
def Pw {e g:Type} (f:e->g->bJ) (c:List e) (d:List g):bJ where
 p w S:=c.length=d.length∧∀(i:Nat) a b,c[i]? = some a->d[i]? = some b->(f a b).p w S
 mono:=fun⟨j,k⟩ h=>⟨j,λi a b l m=>(f a b).mono (k i a b l m) h⟩
abbrev mS {a:Type} (r:eD a):fM->List (List a)->bJ:=Pw (Sl r)
abbrev xH {a:Type} (r:eD a):Ac->List (List (List a))->bJ:=Pw (mS r)
abbrev An {a:Type} (r:eD a):Lz->List (List (List (List a)))->bJ:=Pw (xH r)
def HJ:eD Value:=⟨1,Nat.one_pos,λ_ _ a x=>a=[x],λh=>by simp[h],λh _=>h⟩
theorem IE {w:World} {F:Nat->Prop} {v:Value} {d:fM} (h:Ak aE w F v d):Fc HJ w F v d:=by
 have f:=h;obtain⟨q,_,k⟩:=h;rcases k with⟨rfl,rfl⟩|⟨b,c,a,T,e,rfl,g,n,p,o,r⟩
 ·exact⟨none,0,rfl,by simp,.inl Z⟩
 ·refine⟨_,a,rfl,by omega,.inr ⟨b,c,rfl,g,λi x m=>⟨[x],λj u l=> ?_,rfl⟩⟩⟩
  have:=Ak.cell f m (j:=j) (u:=u) l;simp only[JH,fC]at this;exact this
theorem hN:HJ.Cell 0 (λx=>x):=λh=>by simp[show _=[_]from h]
section
variable {M L:List bJ} {α β:Type} {f:α->β->bJ} {la cs:List α} {lb ds:List β} {a:α} {b:β}
theorem fR:aA M L (Pw f [] []):=λ_ _ _ _ _ _ _ _=>⟨rfl,λi a b c=>by simp at c⟩
theorem Bj (n:Nat) (h:aA M L (f a b)):aA M L (Pw f (List.replicate n a) (List.replicate n b)):=λw S T U c d e g=>⟨by simp,λi x y j k=>by
 obtain⟨_,rfl⟩:=List.mem_replicate.1 (zA1 j);obtain⟨_,rfl⟩:=List.mem_replicate.1 (zA1 k);exact h w S T U c d e g⟩
theorem mV (h:aA M L (Pw f la lb)) (k:aA M L (Pw f cs ds)):aA M L (Pw f (la++cs) (lb++ds)):=λw S T U j l m n=>by
 obtain⟨g,o⟩:=h w S T U j l m n;obtain⟨p,q⟩:=k w S T U j l m n;refine⟨by simp[g,p],λi x y c d=> ?_⟩
 by_cases e:i<la.length
 ·rw[zAa e]at c;rw[zAa (by omega)]at d;exact o i x y c d
 ·rw[zA8 (by omega)]at c;rw[zA8 (by omega),<-g]at d;exact q _ x y c d
theorem OT (h:aA M L (f a b)):aA M L (Pw f [a] [b]):=Bj 1 h
theorem lS (h:aA M L (f a b)) (k:aA M L (Pw f la lb)):aA M L (Pw f (a::la) (b::lb)):=mV (OT h) k
theorem eP (k:Nat) (h:aA M L (Pw f la lb)) (g:aA M L (f a b)):aA M L (Pw f (la.set k a) (lb.set k b)):=λw S T U j l m n=>by
 obtain⟨o,p⟩:=h w S T U j l m n;refine⟨by simp[o],λi x y c d=> ?_⟩
 by_cases e:k=i
 ·subst e;have q:=bQ c;have r:=bQ d;rw[zAd (by simpa using q)]at c;rw[zAd (by simpa using r)]at d;cases c;cases d;exact g w S T U j l m n
 ·rw[zAm e]at c d;exact p i x y c d
theorem bK [Inhabited α] [Inhabited β] {k:Int} (h:aA M L (Pw f la lb)) (c:0<=k) (e:k<lb.length):aA M L (f (at' la k) (at' lb k)):=h.mono λ{w U} hp=>by
 obtain⟨g,d⟩:=hp;exact d k.toNat _ _ (cV c (by omega)) (cV c e)
theorem Nq (m:Nat) (h:aA M L (Pw f la lb)):aA M L (Pw f (la.take m) (lb.take m)):=h.mono λ{w U} hp=>by
 obtain⟨e,g⟩:=hp;refine⟨by simp[e],λi x y c d=> ?_⟩
 rw[zAo]at c d;split at c
 ·rename_i h;rw[if_pos h]at d;exact g i x y c d
 ·cases c
theorem HF (m:Nat) (h:aA M L (Pw f la lb)):aA M L (Pw f (la.drop m) (lb.drop m)):=h.mono λ{w U} hp=>by
 obtain⟨e,g⟩:=hp;refine⟨by simp[e],λi x y c d=> ?_⟩
 rw[zAp]at c d;exact g _ x y c d
theorem aZ (h:aA M L (Pw f la lb)):∀c w,St c M L w->la.length=lb.length:=λc w t=>by
 obtain⟨S,d⟩:=h.st t;exact d.1
theorem lT {r:eD α} {e:bL α} {j:Nat} {vs:List Value} {d:List (List α)} (m:M[j]? = some (gN e vs d)) (c:e.Fits r):aA M L (mS r vs d):=λw S T U u k x l=>by
 obtain⟨n,G,g,h,_⟩:=k j _ m;exact⟨n,λi v t p s=>(Ak.sl c (g i v t p s)).mono λq o _=>⟨l j q (h _ q o),rfl⟩⟩
theorem cR {g:bJ} (h:aA [] L g):eS M L M (g::L):=λc w ⟨k,F,e,d⟩=>⟨k,F,e,λx hx=>by
 rcases zAq.1 hx with rfl|hx
 ·exact h w (Di c F) (λ_ _=>False) (Di c F) d (λi m j=>by simp at j) (λ_ h=>h) (λ_ _ h=>h.elim)
 ·exact d x hx⟩
theorem uJ (n q:List bJ) {g:bJ} (u:a_ M (n++q)) (h:aA n L g):eS M L q (g::L):=λc w t=>by
 obtain⟨v,F,o,s⟩:=t.weak u (λ_ h=>h);refine⟨v,λi k=>i<q.length∧F (i+n.length) k,⟨λi m p=> ?_,λi k d=>o.rng _ k d.2,λi j k e r=>by have:=o.dis _ _ k e.2 r.2;omega⟩,λx hx=> ?_⟩
 ·have e:=bQ p;exact bJ.same (o.res (i+n.length) m (by rw[zA8 (by omega),Nat.add_sub_cancel];exact p)) (λk d=>⟨e,d⟩) (λ_ _ _=>rfl)
 ·have l:∀k,Di c F k->Di c (λi k=>i<q.length∧F (i+n.length) k) k:=λk d=>⟨d.1,λi e=>d.2 _ e.2⟩
  rcases zAq.1 hx with rfl|hx
  ·refine h w (Di c F) (λi k=>i<n.length∧F i k) _ s (λi m p=> ?_) l (λi k d=> ?_)
   ·have e:=bQ p;exact bJ.same (o.res i m (by rw[zAa e];exact p)) (λk d=>⟨e,d⟩) (λ_ _ _=>rfl)
   ·refine⟨.inr (o.rng i k d.2).1,λj r=> ?_⟩
    have:=o.dis _ _ k d.2 r.2;omega
  ·exact bJ.same (s x hx) l (λ_ _ _=>rfl)
end
section
variable {M L:List bJ} {α β γ:Type} {e:bL α} {r:eD α}
abbrev S3 (r:eD α) (v:Value) (a:List (Value×List (Value×List α))) (x:List (List (List α))):bJ:=Sn (eD.sl (eD.sl r)) (λz=>z.2.map λy=>y.2) v a x
abbrev S4 (r:eD α) (v:Value) (a:List (Value×List (Value×List (Value×List α)))) (x:List (List (List (List α)))):bJ:=Sn (eD.sl (eD.sl (eD.sl r))) (λz=>z.2.map λy=>y.2.map λq=>q.2) v a x
theorem bR {q:eD γ} {c:γ->β} {v:Value} {b:List (Value×List γ)} {a:List (List β)} {i:Int} (h:aA M L (Sn (eD.sl q) (λz=>z.2.map c) v b a)) (d:0<=i) (f:i<a.length):aA M L (Sn q c (at' b i).1 (at' b i).2 (at' a i)):=h.mono λ{w U} h=>by
 obtain⟨h,g⟩:=h;have j:i<b.length:=by rw[<-g]at f;simpa using f
 obtain⟨l,k,_⟩:=sl_cell h (cV d j);exact⟨k.2,by rw[<-g,Sp _ d j]⟩
theorem c_ {P:Program} [eB P] {c:xY} {n:Sz} {p:Fr} {d:Option Tmp} {F:TypeId} {k:String} {j:Array Edge} {g:Option (Nat×Bool)} {T:TypeId} {D E:Nat} {z:Value} {l:TypeDesc} {x:Operand} {q:eD γ} {u:Value×List γ->β} {v:Value} {i:Int} {o:List (Value×List γ)} {b:List β} (C:ev p x=some (El v (i.toNat*1))) (m:aA M L (Sn (eD.sl q) u v o b))
  (A:eB.tab P T=some ⟨l,D,E,z⟩) (B:Aq l=false) (h:0<=i∧i<b.length):Y P c n p M L ⟨d,.load T x,F,k,j,g⟩ (at' o i).1:=λa w s t=>by
 obtain⟨_,y⟩:=m.st t;exact cL (r:=eD.sl q) (f:=λz=>z.1) C m.sl A B Z (eD.sl_cell q) (by rw[Sn.len y];exact h) a w s t
theorem Jf {q:eD γ} {w:World} {S F:Nat->Prop} {v:Value} {c:List Value} {d:List (Value×List γ)} (m:Ak aE w F v c) (n:c.length=d.length) (C:∀(i:Nat) u z,c[i]? = some u->d[i]? = some z->z.1=u∧Fc q w S z.1 z.2) (A:∀k,F k->S k):Fc (eD.sl q) w S v d:=by
 have g:=m;obtain⟨K,_,B⟩:=m;rcases B with⟨rfl,rfl⟩|⟨b,l,f,E,s,rfl,h,G,J,H,N⟩
 ·have:d=[]:=zAl (by simpa using n.symm);subst this;exact⟨none,0,rfl,by simp,.inl Z⟩
 ·refine⟨_,f,by rw[n],by omega,.inr ⟨b,l,rfl,A _ h,λi x p=> ?_⟩⟩
  have I:=bQ p;have o:c[i]? = some (c[i]'(by omega)):=zA2 _;obtain⟨t,y⟩:=C i _ x o p;refine⟨[x.1],λD u a=> ?_,rfl,y⟩
  rw[t]at a;have:=Ak.cell g o (j:=D) (u:=u) a;simp only[JH,fC]at this;exact this
def Z3 (vs:List Value) (wss:List (List Value)) (xsss:List (List (List α))):List (Value×List (Value×List α)):=vs.zip (List.zipWith List.zip wss xsss)
def Z4 (us:List Value) (wss:List (List Value)) (a:List (List (List Value))) (y:List (List (List (List α)))):List (Value×List (Value×List (Value×List α))):=us.zip (List.zipWith (λb p=>Z3 b p.1 p.2) wss (a.zip y))
theorem Oc {w:World} {S F:Nat->Prop} {v:Value} {d:List Value} {a:List (List α)} (j:Ak aE w F v d) (b:(mS r d a).p w S) (l:∀k,F k->S k):Fc (eD.sl r) w S v (d.zip a):=by
 obtain⟨m,b⟩:=b;refine Jf j (by simp[m]) (λi u z g c=> ?_) l;rw[List.getElem?_zip_eq_some]at c;rw[g]at c;obtain⟨f,h⟩:=c;refine⟨(Option.some.inj f).symm,b i _ _ ?_ h⟩
 rw[g];exact f
theorem Rz {w:World} {S F:Nat->Prop} {v:Value} {vs:List Value} {wss:List (List Value)} {xsss:List (List (List α))} (hA:Ak aE w F v vs) (hR:(gN aE vs wss).p w F) (hP:(xH r wss xsss).p w S) (hF:∀k,F k->S k):Fc (eD.sl (eD.sl r)) w S v (Z3 vs wss xsss)∧(Z3 vs wss xsss).map (λz=>z.2.map λy=>y.2)=xsss:=by
 obtain⟨hl,hP⟩:=hP;obtain⟨hl2,G,g1,g2,_⟩:=hR;unfold Z3;refine⟨Jf hA (by simp[hl2,hl]) (λi u z hu hz=> ?_) hF,?_⟩
 ·rw[List.getElem?_zip_eq_some]at hz;obtain⟨h1,h2⟩:=hz;rw[hu]at h1;have h1:=Option.some.inj h1;rw[List.getElem?_zipWith]at h2;split at h2
  ·rename_i ws xss hws hxs;have h2:=Option.some.inj h2;have:=Oc (g1 i u ws hu hws) (hP i ws xss hws hxs) (λk hk=>hF k (g2 i k hk));refine⟨h1.symm,?_⟩
   rw[<-h1,<-h2];exact this
  ·cases h2
 ·refine List.ext_getElem? λi=> ?_;rw[List.getElem?_map];by_cases hi:i<xsss.length
  ·have e1:vs[i]? = some (vs[i]'(by omega)):=zA2 _;have e2:wss[i]? = some (wss[i]'(by omega)):=zA2 _;have e3:xsss[i]? = some (xsss[i]'hi):=zA2 _;have e4:(vs.zip (List.zipWith List.zip wss xsss))[i]? = some (vs[i]'(by omega),(wss[i]'(by omega)).zip (xsss[i]'hi)):=by
    rw[List.getElem?_zip_eq_some];exact⟨e1,by rw[List.getElem?_zipWith,e2,e3]⟩
   rw[e4,e3];simp only[Option.map_some,Option.some.injEq];rw[List.map_snd_zip];have:=(hP i _ _ e2 e3).1;omega
  ·rw[zAn (by simp;omega),zAn (by omega)];rfl
theorem bW {i j:Nat} {v:Value} {vs:List Value} {a:List (List α)} (h:M[i]? = some (Ar aE v vs)) (k:L[j]? = some (mS r vs a)):aA M L (S2 r v (vs.zip a) a):=λw S T U c d f g=>by
 have b:=bJ.wide (c _ (zA1 k)) f;refine⟨Oc (d i _ h) b (g i),?_⟩
 rw[List.map_snd_zip];have:=b.1;omega
theorem cU {i q j:Nat} {v:Value} {vs:List Value} {wss:List (List Value)} {xsss:List (List (List α))} (f:M[i]? = some (Ar aE v vs)) (k:M[q]? = some (gN aE vs wss)) (g:L[j]? = some (xH r wss xsss)):aA M L (S3 r v (Z3 vs wss xsss) xsss):=λw S T U c a d b=>
 Rz (F:=U) (bJ.wide (a i _ f) (b i)) (bJ.wide (a q _ k) (b q)) (bJ.wide (c _ (zA1 g)) d) (λ_ h=>h)
theorem dL {i q j:Nat} {v:Value} {us:List Value} {wss:List (List Value)} {a:List (List (List Value))} {y:List (List (List (List α)))} (hi:M[i]? = some (Ar aE v us)) (hq:M[q]? = some (rR aE us wss a)) (hj:L[j]? = some (An r a y)):aA M L (S4 r v (Z4 us wss a y) y):=λw S T U V I X J=>by
 obtain⟨hl,W⟩:=bJ.wide (V _ (zA1 hj)) X;obtain⟨⟨l1,l2⟩,G,Q,H,_⟩:=bJ.wide (I q _ hq) (J q);have R:=bJ.wide (I i _ hi) (J i);have c:∀(m:Nat) u z,us[m]? = some u->(Z4 us wss a y)[m]? = some z->z.1=u∧Fc (eD.sl (eD.sl r)) w U z.1 z.2∧∃x,y[m]? = some x∧z.2.map (λy=>y.2.map λq=>q.2)=x:=by
  intro m u z o d;unfold Z4 at d;rw[List.getElem?_zip_eq_some]at d;obtain⟨g,b⟩:=d;rw[o]at g;have g:=Option.some.inj g;rw[List.getElem?_zipWith]at b;split at b
  ·rename_i K p D n;rw[List.getElem?_zip_eq_some]at n;have b:=Option.some.inj b;obtain⟨A,B,s,t,N,O,_⟩:=Q m u K p.1 o D n.1;have:=Rz (r:=r) (F:=U) (bJ.wide (f:=Ar aE u K) s (λk C=>H m k (N k C))) (bJ.wide t (λk C=>H m k (O k C))) (W m p.1 p.2 n.1 n.2) (λ_ h=>h);refine⟨g.symm,?_,p.2,n.2,?_⟩
   ·rw[<-g,<-b];exact this.1
   ·rw[<-b];exact this.2
  ·cases b
 have l:us.length=(Z4 us wss a y).length:=by unfold Z4;simp;omega
 refine⟨Jf (F:=U) R l (λm u z o d=>⟨(c m u z o d).1,(c m u z o d).2.1⟩) (λ_ h=>h),?_⟩
 refine List.ext_getElem? λm=> ?_;rw[List.getElem?_map];by_cases hm:m<us.length
 ·have P:us[m]? = some (us[m]'hm):=zA2 _;have E:(Z4 us wss a y)[m]? = some ((Z4 us wss a y)[m]'(by omega)):=zA2 _;obtain⟨_,_,x,hx,Y⟩:=c m _ _ P E;rw[E,hx,Option.map_some];exact congrArg some Y
 ·rw[zAn (by omega),zAn (by omega)];rfl
theorem uI {q j:Nat} {vs:List Value} {wss:List (List Value)} {xsss:List (List (List α))} {k:Int} (p:M[q]? = some (gN aE vs wss)) (n:L[j]? = some (xH r wss xsss)) (a:0<=k) (f:k<xsss.length):aA M L (S2 r (at' vs k) ((at' wss k).zip (at' xsss k)) (at' xsss k)):=λw S T U g h l m=>by
 obtain⟨s,i⟩:=bJ.wide (g _ (zA1 n)) l;obtain⟨o,G,c,d,_⟩:=bJ.wide (h q _ p) (m q);have b:=i k.toNat _ _ (cV a (by omega)) (cV a f);refine⟨Oc (c k.toNat _ _ (cV a (by omega)) (cV a (by omega))) b (d _),?_⟩
 rw[List.map_snd_zip];have:=b.1;omega
theorem xP {q j:Nat} {us:List Value} {wss:List (List Value)} {a:List (List (List Value))} {y:List (List (List (List α)))} {k:Int} (D:M[q]? = some (rR aE us wss a)) (x:L[j]? = some (An r a y)) (b:0<=k) (o:k<y.length):aA M L (S3 r (at' us k) (Z3 (at' wss k) (at' a k) (at' y k)) (at' y k)):=λw S T U p s u v=>by
 obtain⟨E,t⟩:=bJ.wide (p _ (zA1 x)) u;obtain⟨⟨H,I⟩,G,n,i,_⟩:=bJ.wide (s q _ D) (v q);have C:=t k.toNat _ _ (cV b (by omega)) (cV b o);obtain⟨A,B,c,d,l,m,_⟩:=n k.toNat _ _ _ (cV b (by omega)) (cV b (by omega)) (cV b (by omega));exact Rz (r:=r) (F:=U) (bJ.wide (f:=Ar aE _ _) c (λz g=>i _ z (l z g))) (bJ.wide d (λz g=>i _ z (m z g))) C (λ_ h=>h)
theorem Am {q j:Nat} {us:List Value} {wss:List (List Value)} {a:List (List (List Value))} {y:List (List (List (List α)))} {k b:Int} (H:M[q]? = some (rR aE us wss a)) (C:L[j]? = some (An r a y)) (h:0<=k∧k<y.length) (c:0<=b∧b<(at' y k).length):aA M L (S2 r (at' (at' wss k) b) ((at' (at' a k) b).zip (at' (at' y k) b)) (at' (at' y k) b)):=λw S T U s t v x=>by
 obtain⟨N,u⟩:=bJ.wide (s _ (zA1 C)) v;obtain⟨⟨O,P⟩,G,n,o,_⟩:=bJ.wide (t q _ H) (x q);have E:=u k.toNat _ _ (cV h.1 (by omega)) (cV h.1 h.2);obtain⟨A,B,p,f,K,i,_⟩:=n k.toNat _ _ _ (cV h.1 (by omega)) (cV h.1 (by omega)) (cV h.1 (by omega));obtain⟨D,J,l,m,_⟩:=f;obtain⟨F,g⟩:=E;have d:=g b.toNat _ _ (cV c.1 (by omega)) (cV c.1 c.2);refine⟨Oc (l b.toNat _ _ (cV c.1 (by omega)) (cV c.1 (by omega))) d (λz I=>o _ z (i z (m _ z I))),?_⟩
 rw[List.map_snd_zip];have:=d.1;omega
theorem CY {q:Nat} {vs:List Value} {wss:List (List Value)} {k:Int} (i:M[q]? = some (gN aE vs wss)) (a:0<=k) (d:k<wss.length):aA M L (Sl HJ (at' vs k) (at' wss k)):=λw S T U l f m g=>by
 obtain⟨h,G,b,c,_⟩:=bJ.wide (f q _ i) (g q);exact(IE (b k.toNat _ _ (cV a (by omega)) (cV a d))).mono λz j _=>⟨c _ z j,rfl⟩
theorem mU {q:Nat} {us:List Value} {wss:List (List Value)} {a:List (List (List Value))} {k:Int} (m:M[q]? = some (rR aE us wss a)) (b:0<=k) (h:k<a.length):aA M L (Sl HJ (at' us k) (at' wss k)):=λw S T U p j s l=>by
 obtain⟨⟨t,u⟩,G,f,g,_⟩:=bJ.wide (j q _ m) (l q);obtain⟨A,B,c,i,d,o,_⟩:=f k.toNat _ _ _ (cV b (by omega)) (cV b (by omega)) (cV b h);exact(IE c).mono λz n _=>⟨g _ z (d z n),rfl⟩
theorem Jo {q:Nat} {us:List Value} {wss:List (List Value)} {a:List (List (List Value))} {k b:Int} (s:M[q]? = some (rR aE us wss a)) (h:0<=k∧k<a.length) (c:0<=b∧b<(at' a k).length):aA M L (Sl HJ (at' (at' wss k) b) (at' (at' a k) b)):=λw S T U x n y o=>by
 obtain⟨⟨C,D⟩,G,j,l,_⟩:=bJ.wide (n q _ s) (o q);obtain⟨A,B,m,d,v,f,_⟩:=j k.toNat _ _ _ (cV h.1 (by omega)) (cV h.1 (by omega)) (cV h.1 h.2);obtain⟨p,u,g,i,_⟩:=d;exact(IE (g b.toNat _ _ (cV c.1 (by omega)) (cV c.1 c.2))).mono λz t _=>⟨l _ z (f z (i _ z t)),rfl⟩
theorem BU (j:Nat) {vs:List Value} {wss:List (List Value)} {xsss:List (List (List α))} {k:Int} (Y:M[j]? = some (rR e vs wss xsss)) (x:0<=k∧k<xsss.length):eS M L (Ar aE (at' vs k) (at' wss k)::gN e (at' wss k) (at' xsss k)::M.set j (rR e (vs.set k.toNat (.slice none 0 0)) (wss.set k.toNat []) (xsss.set k.toNat []))) L:=by
 rintro c w ⟨ho,F,l,hL⟩;obtain⟨⟨I,J⟩,G,X,p,D⟩:=l.res j _ Y;have K:=bQ Y;obtain⟨A,B,hA,hB,P,Q,R⟩:=X k.toNat _ _ _ (cV x.1 (by omega)) (cV x.1 (by omega)) (cV x.1 x.2);have t:∀b,A b->F j b:=λb h=>p _ b (P b h);have u:∀b,B b->F j b:=λb h=>p _ b (Q b h);refine⟨ho,λq b=>(q=0∧A b)∨(q=1∧B b)∨∃r,q=r+2∧((r=j∧∃j',j'≠k.toNat∧G j' b)∨(r≠j∧F r b)),⟨?_,?_,?_⟩,λf H=> ?_⟩
 ·intro q m n
  match q,n with
  |0,n=>
   obtain rfl:=Option.some.inj n;exact bJ.same hA (λb d=> .inl ⟨rfl,d⟩) (λ_ _ _=>rfl)
  |1,n=>
   obtain rfl:=Option.some.inj n;exact bJ.same hB (λb d=> .inr (.inl ⟨rfl,d⟩)) (λ_ _ _=>rfl)
  | r + 2, n =>
   have n:(M.set j _)[r]? = some m:=n;by_cases C:r=j
   ·subst C;rw[zAd K]at n;cases n;refine⟨by simp[I,J],λj' q=>j'≠k.toNat∧G j' q,λj' v ws O s y z=> ?_,λj' q N=> .inr (.inr ⟨r,rfl,.inl ⟨rfl,j',N⟩⟩),λj1 j2 q h1 h2=>D _ _ q h1.2 h2.2⟩
    by_cases o:j'=k.toNat
    ·subst o;rw[zAd (by omega)]at s;rw[zAd (by omega)]at y;rw[zAd (by omega)]at z;cases s;cases y;cases z;exact⟨λ_=>False,λ_=>False,⟨by simp,rfl,.inl ⟨rfl,rfl⟩⟩,⟨rfl,λ_ _=>False,λi v xs s=>by simp at s,λ_ _ h=>h,λ_ _ _ h=>h.elim⟩,λ_ h=>h.elim,λ_ h=>h.elim,λ_ h=>h.elim⟩
    ·rw[zAm (Ne.symm o)]at s y z;exact bJ.same (X j' v ws O s y z) (λq N=>⟨o,N⟩) (λ_ _ _=>rfl)
   ·rw[zAm (Ne.symm C)]at n;exact bJ.same (l.res r m n) (λb d=> .inr (.inr ⟨r,rfl,.inr ⟨C,d⟩⟩)) (λ_ _ _=>rfl)
 ·rintro q b (⟨_,d⟩|⟨_,d⟩|⟨r,_,⟨_,j',_,d⟩|⟨_,d⟩⟩)
  ·exact l.rng _ b (t b d)
  ·exact l.rng _ b (u b d)
  ·exact l.rng _ b (p _ b d)
  ·exact l.rng _ b d
 ·have S:∀b j',A b->j'≠k.toNat->¬G j' b:=λb j' h g E=>g (D _ _ b E (P b h));have T:∀b j',B b->j'≠k.toNat->¬G j' b:=λb j' h g E=>g (D _ _ b E (Q b h));rintro q q' b (⟨U,d⟩|⟨U,d⟩|⟨r,U,d⟩) (⟨o,a⟩|⟨o,a⟩|⟨r',o,a⟩)
  ·omega
  ·exact absurd a (R b d)
  ·rcases a with⟨_,j',g,a⟩|⟨g,a⟩
   ·exact absurd a (S b j' d g)
   ·exact absurd (l.dis _ _ b a (t b d)) g
  ·exact absurd d (R b a)
  ·omega
  ·rcases a with⟨_,j',g,a⟩|⟨g,a⟩
   ·exact absurd a (T b j' d g)
   ·exact absurd (l.dis _ _ b a (u b d)) g
  ·rcases d with⟨_,j',g,d⟩|⟨g,d⟩
   ·exact absurd d (S b j' a g)
   ·exact absurd (l.dis _ _ b d (t b a)) g
  ·rcases d with⟨_,j',g,d⟩|⟨g,d⟩
   ·exact absurd d (T b j' a g)
   ·exact absurd (l.dis _ _ b d (u b a)) g
  ·rcases d with⟨V,j',_,d⟩|⟨V,d⟩<;>rcases a with⟨W,aa,_,a⟩|⟨W,a⟩
   ·omega
   ·exact absurd (l.dis _ _ b a (p _ b d)) W
   ·exact absurd (l.dis _ _ b d (p _ b a)) V
   ·have:=l.dis _ _ b d a;omega
 ·refine bJ.same (hL f H) (λb d=>⟨d.1,?_⟩) (λ_ _ _=>rfl);rintro q (⟨_,h⟩|⟨_,h⟩|⟨r,_,⟨_,j',_,h⟩|⟨_,h⟩⟩)
  ·exact d.2 _ (t b h)
  ·exact d.2 _ (u b h)
  ·exact d.2 _ (p _ b h)
  ·exact d.2 _ h
theorem Kv (i j:Nat) {u:Value} {us:List Value} {h:List (List α)} {k:Int} {vs:List Value} {g:List (List Value)} {d:List (List (List α))} (p:Nat.beq i j=false) (J:M[i]? = some (rR e vs g d)) (K:M[j]? = some (Yn e u us h)) (P:0<=k∧k<d.length):
  eS M L ((M.set i (rR e (vs.set k.toNat u) (g.set k.toNat us) (d.set k.toNat h))).eraseIdx j) L:=λc w t=>
 t.merge i j (λe=>by subst e;simp at p) J K (by
  rintro w O C ⟨⟨s,x⟩,G,D,o,E⟩ I A;refine⟨⟨by simp[s],by simp[x]⟩,λq b=>(q=k.toNat∧C b)∨(q≠k.toNat∧G q b),?_,?_,?_⟩
  ·intro q v N z l m n;by_cases y:q=k.toNat
   ·subst y;rw[zAd (by omega)]at l;rw[zAd (by omega)]at m;rw[zAd (by omega)]at n;cases l;cases m;cases n;exact bJ.same I (λb a=> .inl ⟨rfl,a⟩) (λ_ _ _=>rfl)
   ·rw[zAm (Ne.symm y)]at l m n;exact bJ.same (D q v N z l m n) (λb a=> .inr ⟨y,a⟩) (λ_ _ _=>rfl)
  ·rintro q b (⟨_,a⟩|⟨_,a⟩)
   ·exact .inr a
   ·exact .inl (o q b a)
  ·rintro q B b (⟨F,a⟩|⟨F,a⟩) (⟨H,f⟩|⟨H,f⟩)
   ·omega
   ·exact absurd a (A b (o B b f))
   ·exact absurd f (A b (o q b a))
   ·exact E q B b a f)
theorem CZ (i j q:Nat) {us:List Value} {a:List (List α)} {k:Int} {vs:List Value} {wss:List (List Value)} {xsss:List (List (List α))} {i' j':Nat} (g:Nat.beq j q=false) (f:Nat.beq i' j'=false) (p:M[i]? = some (rR e (vs.set k.toNat (.slice none 0 0)) (wss.set k.toNat []) (xsss.set k.toNat []))) (n:M[j]? = some (Ar aE (at' vs k) us)) (o:M[q]? = some (gN e us a))
  (d:((M.set j (Yn e (at' vs k) us a)).eraseIdx q)[i']? = some (rR e (vs.set k.toNat (.slice none 0 0)) (wss.set k.toNat []) (xsss.set k.toNat []))) (b:((M.set j (Yn e (at' vs k) us a)).eraseIdx q)[j']? = some (Yn e (at' vs k) us a)) (m:0<=k∧k<xsss.length):
  eS M L ((((M.set j (Yn e (at' vs k) us a)).eraseIdx q).set i' (rR e vs (wss.set k.toNat us) (xsss.set k.toNat a))).eraseIdx j') L:=by
 rintro c w t;have s:vs.length=xsss.length:=by obtain⟨_,h⟩:=t.res p;simpa using h.1.1
 have u:=JP (L:=L) j q g n o c w t;have l:=Kv (L:=L) (k:=k) _ _ f d b (by simpa using m) c w u;simp only[List.set_set]at l;rw[EE vs k (by omega) m.1]at l;exact l
end
section
variable {P:Program} {rd:Option Nat} {c:xY} {n:Sz} {σ:Fr} {M L:List bJ} {Q:Exit->Act->World->Prop} {ops:Array Oper} {rest:List Oper} {d:Option Tmp} {ty:TypeId} {pos:String} {aft:Array Edge} {g:Option (Nat×Bool)} {α:Type} {e:bL α} {r:eD α}
def Fi:eD Value:=⟨1,Nat.one_pos,λ_ _ a x=>a=[x]∧one x=true,λh=>by simp[h.1],λh _=>h⟩
def abm {α:Type} (e:bL α) (r:eD α):Prop:=r.sz=e.sz∧∀{w S es x},r.R w S es x->es=e.enc x∧(e.enc x).all one=true
theorem GD:abm aE Fi:=⟨rfl,λh=>⟨h.1,by show[_].all one=true;simp[h.2]⟩⟩
theorem Kk {w:World} {F:Nat->Prop} {v:Value} {l:List Value} (h:Ak aE w F v l):Fc Fi w F v l:=by
 have o:=h;obtain⟨B,p,s⟩:=h;rcases s with⟨rfl,rfl⟩|⟨b,f,a,T,m,rfl,q,y,A,z,C⟩
 ·exact⟨none,0,rfl,by simp,.inl Z⟩
 ·refine⟨_,a,rfl,by omega,.inr ⟨b,f,rfl,q,λi x k=>⟨[x],λj u t=> ?_,rfl,?_⟩⟩⟩
  ·have:=Ak.cell o k (j:=j) (u:=u) t;simp only[JH,fC]at this;exact this
  ·exact zA5.1 p x (by simp only[cellsOf,List.mem_flatMap];exact⟨x,zA1 k,by simp[aE]⟩)
theorem Pa [eB P] (b:abm e r) {w:World} {S:Nat->Prop} {v:Value} {f:List α} {T E:TypeId} {D F:Nat} {z:Value} (h:Fc r w S v f) (p:eB.tab P T=some ⟨.slice E,D,F,z⟩):
  Src P e.sz T v f.length (cellsOf e f) w∧(cellsOf e f).all one=true:=by
 obtain⟨a,k⟩:=b;obtain⟨m,A,y,t,q⟩:=Fc.src h p (λ{w S o x} hr=>by rw[(k hr).1];exact(k hr).2);have:m=cellsOf e f:=Jp (by rw[t,a]) (λi x C j u B=>by
  obtain⟨o,l,s⟩:=q i x C;rw[<-a];exact s j u (by rw[(k l).1];exact B))
 subst this;rw[<-a];exact⟨A,y⟩
theorem oP {i:Nat} {v:Value} {vs:List Value} (a:M[i]? = some (Ar aE v vs)):aA M L (Sl Fi v vs):=(aA.res i a).mono λh=>Kk h
theorem jP (q:Nat) {vs:List Value} {wss:List (List Value)} {xsss:List (List (List α))} (j:M[q]? = some (rR e vs wss xsss)) {k:Int} (h:0<=k∧k<xsss.length):∀c w,St c M L w->(at' wss k).length=(at' xsss k).length:=λc w t=>by
 obtain⟨_,⟨f,i⟩,G,a,l,_⟩:=t.res j;obtain⟨A,B,m,b,_⟩:=a k.toNat _ _ _ (cV h.1 (by omega)) (cV h.1 (by omega)) (cV h.1 h.2);exact b.1
theorem mN {a f:Type} {q:eD a} {b:a->f}:aA M L (Sn q b (.slice none 0 0) [] []):=λ_ _ _ _ _ _ _ _=>⟨⟨none,0,rfl,by simp,.inl Z⟩,rfl⟩
theorem Kp [eB P] (q:Nat) {x y:Operand} {v:Value} {f:List Value} {i j:Int} {T E:TypeId} {s1 s2 D s4:Nat} {z z':Value} {dE:TypeDesc} (hx:ev σ x=some (slq v (0:Int).toNat i.toNat D)) (hy:ev σ y=some (slq v j.toNat (f.length:Int).toNat D)) (hf:M[q]? = some (Ar aE v f))
  (hT:eB.tab P T=some ⟨.slice E,s1,s2,z⟩) (hE:eB.tab P E=some ⟨dE,D,s4,z'⟩) (h3:aE.sz=D) (h:0<=i∧i<j∧j<=f.length):
  aS P c n σ M L ⟨d,.call ⟨.builtin .append,#[x,y],#[T,T]⟩,ty,pos,aft,g⟩ (λ_:Unit=>slq v 0 (i+((f.length:Int) - j)).toNat D) (λ_=>M.set q (Ar aE (slq v 0 (i+((f.length:Int) - j)).toNat D) (f.take i.toNat++f.drop j.toNat))) (λ_=>L):=λa w s t=>by
 subst h3;have t0:=t;obtain⟨ho,W,hO,N⟩:=t0;have Y:=hO.res q _ hf;have V:=Kk Y;have U:=Fc.part V (l:=j.toNat) (h:=f.length) (by omega) (zAg _);have U:Fc Fi w (W q) (slq v j.toNat f.length aE.sz) ((f.take f.length).drop j.toNat):=U;obtain⟨hs,F⟩:=Pa GD U hT;obtain⟨h0,K,hh⟩:=Y;rcases hh with⟨_,rfl⟩|⟨b,o,p,X,m,rfl,G,H,hk,hc,ht⟩
 ·simp at h;omega
 have J:((f.take f.length).drop j.toNat)=f.drop j.toNat:=by rw[zB4]
 rw[J]at hs F;have A:(f.drop j.toNat).length=f.length - j.toNat:=by simp
 have hn:(i+((f.length:Int) - j)).toNat=i.toNat+(f.length - j.toNat):=by omega
 rw[show(0:Int).toNat=0 from rfl,Ln]at hx;rw[show(f.length:Int).toNat=f.length by omega]at hy;have C:i.toNat+(f.drop j.toNat).length<=p:=by omega
 have hr:=Ll (P:=P) (ty:=ty) (eB.ok hT) Z (eB.ok hE) H hs C hc;simp only[Oper.wp,zY s hx hy w,hr,Result.andThen_ok,Oper.upon];have aa:(i.toNat+(f.length - j.toNat))*aE.sz<=p*aE.sz:=zAx _ (by omega);have I:(cellsOf aE (f.drop j.toNat)).length=(f.length - j.toNat)*aE.sz:=by rw[fO,A]
 have B:(i.toNat+(f.length - j.toNat))*aE.sz=i.toNat*aE.sz+(f.length - j.toNat)*aE.sz:=zAy _ _ _;have S:o+i.toNat*aE.sz+(cellsOf aE (f.drop j.toNat)).length<=m.toList.length:=by
  rw[I];simp;omega
 refine⟨(),?_,?_⟩
 ·rw[Ln,hn,A]
 ·rw[Ln,hn];refine Ga ho hO N hf Z Z Z (by simp) (λk _ O=>setRow_other w b k _ (λe=>O (by subst e;exact G))) (F':=W q) ?_ (λk hk=> .inl hk);refine⟨by simp;omega,?_,.inr ⟨b,o,p,X,_,by simp;omega,G,setRow_heap w b _ _ X _ H,by simp;omega,?_,?_⟩⟩
  ·rw[mB,List.all_append,F,Bool.and_true];refine zA5.2 λu hu=>zA5.1 K u ?_;rw[<-zB7 i.toNat f,mB];exact List.mem_append_left _ hu
  ·simp only[List.size_toArray,zA9,List.length_take,List.length_drop];have:m.size=m.toList.length:=by simp
   omega
  ·have hd:=Mw m.toList o (i.toNat*aE.sz) (cellsOf aE (f.drop j.toNat)) S;have e1:(f.take i.toNat++f.drop j.toNat).length*aE.sz=i.toNat*aE.sz+(cellsOf aE (f.drop j.toNat)).length:=by
    rw[I,zA9,List.length_take,A,Nat.min_eq_left (by omega)];exact B
   have e2:(m.toList.drop o).take (i.toNat*aE.sz)=cellsOf aE (f.take i.toNat):=by
    have:(m.toList.drop o).take (i.toNat*aE.sz)=((m.toList.drop o).take (f.length*aE.sz)).take (i.toNat*aE.sz):=by
     rw[List.take_take,Nat.min_eq_left (zAx _ (by omega))]
    rw[this,ht]
    conv=>lhs;rw[<-zB7 i.toNat f,mB]
    have R:(cellsOf aE (f.take i.toNat)).length=i.toNat*aE.sz:=by rw[fO,List.length_take,Nat.min_eq_left (by omega)]
    rw[<-R,List.take_left]
   rw[e1,mB,<-e2];exact hd
theorem QI (e:bL α) (k:Nat):eS M L (rR e (List.replicate k (.slice none 0 0)) (List.replicate k []) (List.replicate k [])::M) L:=eS.add λw=>by
 refine⟨⟨by simp,by simp⟩,λ_ _=>False,λi v l j a b f=> ?_,λ_ _ h=>h,λ_ _ _ h=>h.elim⟩
 obtain⟨_,rfl⟩:=List.mem_replicate.1 (zA1 a);obtain⟨_,rfl⟩:=List.mem_replicate.1 (zA1 b);obtain⟨_,rfl⟩:=List.mem_replicate.1 (zA1 f);exact⟨λ_=>False,λ_=>False,⟨by simp,rfl,.inl ⟨rfl,rfl⟩⟩,⟨rfl,λ_ _=>False,λi v m a=>by simp at a,λ_ _ h=>h,λ_ _ _ h=>h.elim⟩,λ_ h=>h.elim,λ_ h=>h.elim,λ_ h=>h.elim⟩
theorem LN [eB P] (i:Nat) (b:abm e r) {x y:Operand} {v u:Value} {h j:List α} {T E:TypeId} {V W m k:Nat} {z p:Value} {q:TypeDesc} (R:ev σ x=some v) (S:ev σ y=some u) (I:M[i]? = some (Ar e v h)) (J:aA M L (Sl r u j))
  (o:eB.tab P T=some ⟨.slice E,V,W,z⟩) (D:eB.tab P E=some ⟨q,m,k,p⟩) (B:e.sz=m) (C:Nat.ble k 1024=true) (X:(h.length:Int)+j.length<=1099511627) (U:p.cells.size=m):
  aS P c n σ M L ⟨d,.call ⟨.builtin .append,#[x,y],#[T,T]⟩,ty,pos,aft,g⟩ (λf:Value=>f) (λf=>M.set i (Ar e f (h++j))) (λ_=>L):=λa w s t=>by
 subst B;obtain⟨F,G⟩:=J.st t;obtain⟨N,A⟩:=Pa b G o;have l:k<=1024:=by simpa using C
 have H:(h.length+j.length)*k<=140737488355328:=zB2 (Nat.mul_le_mul (show h.length+j.length<=1099511627 by omega) l) (by decide);obtain⟨f,Y,K,O⟩:=t.append (ty:=ty) I N A o D H (by omega) U;simp only[Oper.wp,zY s R S w,K,Result.andThen_ok,Oper.upon];exact⟨f,rfl,O⟩
theorem cG {a h:Type} {q:eD a} {i:a->h} {v:Value} {k:List a} {f:List h} (b:aA M L (Sn q i v k f)):∀c w,St c M L w->abv v f.length:=λc w t=>by
 obtain⟨_,j⟩:=b.st t;rw[<-Sn.len j];exact Know.len b.sl c w t
theorem TZ [eB P] {T E:TypeId} {F G m H:Nat} {z I:Value} {u:TypeDesc} {x l:Operand} {v:Value} {i:Int} {j p:Type} {q:eD j} {y:j->p} {o:List j} {b:List p} (D:ev σ x=some v) (f:ev σ l=some (.int .i64 i)) (k:aA M L (Sn q y v o b))
  (C:eB.tab P T=some ⟨.slice E,F,G,z⟩) (B:eB.tab P E=some ⟨u,m,H,I⟩) (h:0<=i∧i<=(b.length:Int)):Y P c n σ M L ⟨d,.slice T x (some l) none none,ty,pos,aft,g⟩ (slq v i.toNat b.length m):=λa w s t=>by
 obtain⟨_,A⟩:=k.st t;have J:=Sn.len A;have:=Pg (P:=P) (c:=c) (n:=n) (d:=d) (ty:=ty) (pos:=pos) (aft:=aft) (g:=g) D f k.sl C B (by omega) a w s t;rw[show((o.length:Nat):Int).toNat=b.length by omega]at this;exact this
theorem Ak.tail {w:World} {F:Nat->Prop} {v:Value} {f:List α} {i m:Nat} (x:Ak e w F v f) (E:f.length=m) (D:i<=m):Ak e w F (slq v i m e.sz) (f.drop i):=by
 subst E;have p:(cellsOf e (f.drop i))=(cellsOf e f).drop (i*e.sz):=by
  have:cellsOf e f=cellsOf e (f.take i)++cellsOf e (f.drop i):=by rw[<-mB,zB7]
  have z:(cellsOf e (f.take i)).length=i*e.sz:=by rw[fO,List.length_take,Nat.min_eq_left (by omega)]
  rw[this,<-z,List.drop_left]
 have o:(cellsOf e (f.drop i)).all one=true:=by
  rw[p,zA5];intro u H;exact zA5.1 x.2.1 u (List.mem_of_mem_drop H)
 obtain⟨z,B,C⟩:=x;rcases C with⟨rfl,rfl⟩|⟨b,h,a,t,k,rfl,l,y,J,I,G⟩
 ·have s:i=0:=by simp at D;omega
  subst s;exact⟨by simp,rfl,.inl ⟨rfl,rfl⟩⟩
 ·refine⟨by simp;omega,o,.inr ?_⟩
  have A:slq (.slice (some ⟨b,h,none⟩) f.length a) i f.length e.sz = .slice (if a=i then some ⟨b,h,none⟩else some ⟨b,h+i*e.sz,none⟩) (f.length - i) (a - i):=by simp[slq,fC]
  rw[A];by_cases j:a=i
  ·have q:f.drop i=[]:=List.drop_of_length_le (by omega);rw[if_pos j,q];exact⟨b,h,a - i,t,k,by simp;omega,l,y,by simp,by have:=zAx e.sz (show a - i<=a by omega);omega,by simp[cellsOf]⟩
  ·rw[if_neg j];refine⟨b,h+i*e.sz,a - i,t,k,by simp,l,y,by simp;omega,?_,?_⟩
   ·have:=zAx e.sz (show i<=a by omega);rw[Nat.sub_mul];omega
   ·rw[p,<-G,List.drop_take,List.drop_drop,List.length_drop,Nat.sub_mul]
theorem TX (j:Nat) {v:Value} {k:List α} {i:Int} {m:Nat} (o:M[j]? = some (Ar e v k)) (s:k.length=m) (h:0<=i∧i<=(m:Int)):eS M L (M.set j (Ar e (slq v i.toNat m e.sz) (k.drop i.toNat))) L:=λc w t=>by
 obtain⟨u,F,a,p⟩:=t;have f:=bQ o;refine⟨u,F,⟨λq x b=> ?_,a.rng,a.dis⟩,p⟩
 by_cases l:j=q
 ·subst l;rw[zAd f]at b;cases b;exact Ak.tail (a.res j _ o) s (by omega)
 ·rw[zAm l]at b;exact a.res q x b
theorem gF (i:Nat) {a g:bJ} (b:M[i]? = some a) (h:aA [a] L g):eS M L (M.eraseIdx i) (g::L):=uJ [a] _ (a_.cons i b (a_.refl _)) h
theorem tD {x:Operand} {v:Value} {o:Nat} (b:ev σ x=some (El v o)):Y P c n σ M L ⟨d,.nilCheck x,ty,pos,aft,g⟩ (El v o):=λa w s _=>by
 simp[execOp,s.eval b,El]
end
end Go.Sx
namespace Go.Proofs.YtflciafboapaaaaGreat
open Go.Sx
abbrev ESt:bL ByteArray:=⟨1,Nat.one_pos,λx=>[.string x],λ_=>rfl⟩
abbrev RSt:eD ByteArray:=⟨1,Nat.one_pos,λ_ _ a x=>a=[.string x],λh=>by simp[h],λh _=>h⟩
theorem FSt:ESt.Fits RSt:=⟨rfl,λh=>h,rfl,λ_=>rfl⟩
abbrev iF:bL Int:=bL.int .i64
abbrev aP:eD Int:=eD.int .i64
theorem iH:iF.Fits aP:=Nl .i64
theorem fN:aP.Cell 0 (λx=> .int .i64 x):=Ns .i64
abbrev Gq:bL (ByteArray×Int×Int×Int×Int×Int):=bL.pair ESt (bL.pair iF (bL.pair iF (bL.pair iF (bL.pair iF (iF)))))
abbrev aG:eD (ByteArray×Int×Int×Int×Int×Int):=eD.pair RSt (eD.pair aP (eD.pair aP (eD.pair aP (eD.pair aP (aP)))))
theorem BL:Gq.Fits aG:=lP FSt (lP iH (lP iH (lP iH (lP iH (iH)))))
theorem nV:aG.Cell 1 (λx=> .int .i64 x.2.1):=eH (nF (fN))
theorem EY:aG.Cell 2 (λx=> .int .i64 x.2.2.1):=eH (eH (nF (fN)))
theorem EZ:aG.Cell 3 (λx=> .int .i64 x.2.2.2.1):=eH (eH (eH (nF (fN))))
theorem E_:aG.Cell 4 (λx=> .int .i64 x.2.2.2.2.1):=eH (eH (eH (eH (nF (fN)))))
theorem Fa:aG.Cell 5 (λx=> .int .i64 x.2.2.2.2.2):=eH (eH (eH (eH (eH (fN)))))
abbrev bY:bL gH:=bL.pair iF (iF)
abbrev bA:eD gH:=eD.pair aP (aP)
theorem cF:bY.Fits bA:=lP iH (iH)
theorem gU:bA.Cell 0 (λx=> .int .i64 x.1):=nF (fN)
theorem Ef:bA.Cell 1 (λx=> .int .i64 x.2):=eH (fN)
abbrev mW:eD (Int×(Value×fP)):=eD.pair aP ((eD.sl bA))
theorem LM:mW.All 2 (λx=>[Value.int .i64 (x.1),x.2.1]):=(Nr (QE iH) (QF bA))
theorem EN:mW.Cell 0 (λx=> .int .i64 x.1):=nF (fN)
theorem JG:mW.Cell 1 (λx=>x.2.1):=eH (eD.sl_cell bA)
theorem BA:mW.Deep bA (λx=>x.2):=F_ (Fj bA)
abbrev aF:eD (ByteArray×(Value×fP)×(Value×List (Int×(Value×fP)))):=eD.pair RSt (eD.pair (eD.sl bA) ((eD.sl mW)))
theorem sI:aF.Cell 1 (λx=>x.2.1.1):=eH (nF (eD.sl_cell bA))
theorem sK:aF.Deep bA (λx=>x.2.1):=F_ (TU (Fj bA))
theorem sJ:aF.Cell 2 (λx=>x.2.2.1):=eH (eH (eD.sl_cell mW))
theorem cP:aF.Deep mW (λx=>x.2.2):=F_ (F_ (Fj mW))
abbrev EFn:bL Nat:=bL.fn
abbrev RFn:eD Nat:=eD.fn
theorem FFn:EFn.Fits RFn:=OM
abbrev JN:bL (Int×Nat):=bL.pair iF (EFn)
abbrev Yv:eD (Int×Nat):=eD.pair aP (RFn)
theorem CV:JN.Fits Yv:=lP iH (FFn)
abbrev EBo:bL Bool:=bL.bool
abbrev Jn:bL (Int×Int×Int):=bL.pair iF (bL.pair iF (iF))
abbrev dV:eD (Int×Int×Int):=eD.pair aP (eD.pair aP (aP))
theorem CW:Jn.Fits dV:=lP iH (lP iH (iH))
def Qg (x:Int):Value:=Value.int .i64 (x)
def nT (x:gC):Value:=Value.agg #[Value.int .i64 (x.1),Value.int .i64 (x.2)]
theorem WY (x y:gC) (m:Nat) (w:World):(Op.equalIn (m+2) 138 (.agg #[.int .i64 x.1,.int .i64 x.2]) (.agg #[.int .i64 y.1,.int .i64 y.2])).run Tryz.prog w = .ok (decide (x=y)) w:=by
 have c:∀a b:Int,(Op.equalIn (m+1) 3 (.int .i64 a) (.int .i64 b)).run Tryz.prog w = .ok (a==b) w:=by
  intro a b;simp[Op.equalIn]
 unfold Op.equalIn;simp[show List.range' 0 2=[0,1]from rfl,part,isAgg,c];obtain⟨d,e⟩:=x;obtain⟨f,g⟩:=y;by_cases h:d=f<;>by_cases i:e=g<;>simp[h,i,c]
theorem Wh (b:Bool) (k:gC) (w:World):(Instr.checkKey b 10000 138 (nT k)).run Tryz.prog w = .ok () w:=by
 have a:∀m:Nat,(Instr.checkKey b (m+2) 138 (nT k)).run Tryz.prog w = .ok () w:=by
  intro m;simp[Instr.checkKey,nT,part,isAgg,show List.range' 0 2=[0,1]from rfl]
 exact a 9998
theorem NV:Ko Tryz.prog 138 nT:=Qz Tryz.underlying138 Wh (λ_ _=>rfl) (λa b w=>WY a b 9998 w) (λk=>by
 have c:∀m:Nat,Instr.sameBits (m+2) (nT k) (nT k)=true:=λm=>by simp[Instr.sameBits,nT]
 exact c 9998)
theorem rT (b:Value) (c:one b=true) (a:Array Value) (h:a.size=1*1):Instr.fill (λi=>some (i*1,1)) a [(0,b)]=some [b].toArray:=by
 obtain⟨l⟩:=a
 match l,h with
 | [z0],_=>simp[Instr.fill,eR c]
theorem Bq (b c:Value) (a:Array Value) (h:a.size=1*2):Instr.fill (λi=>some (i*2,2)) a [(0,.agg #[b,c])]=some [b,c].toArray:=by
 obtain⟨l⟩:=a
 match l,h with
 | [z0,z1],_=>simp[Instr.fill,Value.cells]
theorem WG (b c d:Value) (a:Array Value) (h:a.size=1*3):Instr.fill (λi=>some (i*3,3)) a [(0,.agg #[b,c,d])]=some [b,c,d].toArray:=by
 obtain⟨l⟩:=a
 match l,h with
 | [z0,z1,z2],_=>simp[Instr.fill,Value.cells]
theorem Fx (b c:Value) (d:one b=true) (e:one c=true) (a:Array Value) (h:a.size=2*1):Instr.fill (λi=>some (i*1,1)) a [(0,b),(1,c)]=some [b,c].toArray:=by
 obtain⟨l⟩:=a
 match l,h with
 | [z0,z1],_=>simp[Instr.fill,eR d,eR e]
theorem WH (b c d e f g:Value) (a:Array Value) (h:a.size=3*2):Instr.fill (λi=>some (i*2,2)) a [(0,.agg #[b,c]),(1,.agg #[d,e]),(2,.agg #[f,g])]=some [b,c,d,e,f,g].toArray:=by
 obtain⟨l⟩:=a
 match l,h with
 | [z0,z1,z2,z3,z4,z5],_=>simp[Instr.fill,Value.cells]
def Bi (a:Int) (b:Bool):Option (Int):=
 if b=true then(some (-1:Int))else(if a<=(17:Int)then(some (0:Int))else(if a<=(29:Int)then(some (1:Int))else(if a<=(42:Int)then(some (2:Int))else(some (3:Int)))))
def yS (U:Nat) (a:Int):Option (Int):=
 if a<(1:Int)then(Bi a (true))else(Bi a (decide ((43:Int)<a)))
theorem Zo:bD Tryz.prog 246:=Tryz.call246
theorem OD (U:Nat) {b:Int} (r:Int) (h:yS U b=some r):
  bG Tryz.prog 246 #[vI (b)] [] (λx:Unit=>vI (r)) (λx l=>l) (λ_ l=>l):=by
 refine bG.of Tryz.func246 Z Tryz.ntmps246 Z λc=>?_;refine aX<|aD Z<|aQ<|aN<|aW<|aN<|eG (λa=>Bi b a=some r) (λa d=>[(0,vI (b)),(3,vB (a))]) (λa d=>[]) ?_ ?_
 ·refine aU<|aB Z<|cX Z<|aB Z ?_;refine AL h Z (λ_ h=>?_) λ_ h=>?_
  ·refine aK Z<|aK Z<|dG Z<|aD Z<|aQ ?_;exact gJ (true) () h SF Z
  refine dH Z<|aR Z (sL Z Z) Z<|dR Z<|aD Z<|aQ ?_;exact gJ (decide ((43:Int)<b)) () h SF Z
 intro a d h;refine qS h Z (λ_ h=>?_) λ_ h=>?_
 ·refine aX<|aD Z<|aQ<|aT<|bF<|aJ ?_;cases h;exact iJ Z
 refine aX<|aB Z<|aC (BM Z Z) Z<|aD Z<|aQ ?_;refine eJ h Z (λh=>?_) λh=>?_
 ·refine aX<|aD Z<|aQ<|aT<|bF<|aJ ?_;cases h;exact iJ Z
 refine aX<|aB Z<|aC (BM Z Z) Z<|aD Z<|aQ ?_;refine eJ h Z (λh=>?_) λh=>?_
 ·refine aX<|aD Z<|aQ<|aT<|bF<|aJ ?_;cases h;exact iJ Z
 refine aX<|aB Z<|aC (BM Z Z) Z<|aD Z<|aQ ?_;refine eJ h Z (λh=>?_) λh=>?_
 ·refine aX<|aD Z<|aQ<|aT<|bF<|aJ ?_;cases h;exact iJ Z
 refine eC<|lJ<|aX<|aD Z<|aQ<|aT ?_;cases h;exact iJ Z
def FV  (a:Unit):Option (Int):=
 some (-1:Int)
def mI (U:Nat) (d:fP) (a:gC) (c:gH->Option (Int)):Option (Int):=
 if a.1<(d.length:Int)then(ck (0<=a.1∧a.1<(d.length:Int)) (Option.bind (yS U ((at' d a.1).1)) λb=>(if b<(0:Int)then(some (-1:Int))else(if(wI .i64 (a.2+(wI .i64 (b - (1:Int)))))=(0:Int)then(some (wI .i64 (a.1+(1:Int))))else(c ((wI .i64 (a.1+(1:Int))),(wI .i64 (a.2+(wI .i64 (b - (1:Int)))))))))))else(FV  (()))
def Dh (U:Nat) (b:fP) (c:Int) (a:Bool):Option (Int):=
 if a=true then(some (-1:Int))else(bP (mI U b) U (c,(1:Int)))
def Et (U:Nat) (b:fP) (a:Int):Option (Int):=
 if a<(0:Int)then(Dh U b a (true))else(Dh U b a (decide ((b.length:Int)<=a)))
theorem Zh:bD Tryz.prog 217:=Tryz.call217
theorem RQ (U:Nat) {g:fP} {b:Int} (k:Value) (r:Int) (h:Et U g b=some r):
  bG Tryz.prog 217 #[k,vI (b)] [Sl bA k g] (λx:Unit=>vI (r)) (λx l=>l) (λ_ l=>l):=by
 refine bG.of Tryz.func217 Z Tryz.ntmps217 Z λc=>?_;refine aX<|aD Z<|aQ<|aN<|aN<|eG (λd=>Dh U g b d=some r) (λd n=>[(0,k),(1,vI (b)),(14,vB (d))]) (λd n=>[]) ?_ ?_
 ·refine aU<|aB Z<|cX Z<|aB Z ?_;refine AL h Z (λ_ h=>?_) λ_ h=>?_
  ·refine aK Z<|aK Z<|aK Z<|aK Z<|dG Z<|aQ ?_;exact gJ (true) () h SF Z
  refine dH Z<|dH Z<|aR Z (fG Z (aA.fact 0 Z) Z) Z<|aR Z (tC Z Z) Z<|dR Z<|aQ ?_;exact gJ (decide ((g.length:Int)<=b)) () h SF Z
 intro d n h;refine qS h Z (λ_ h=>?_) λ_ h=>?_
 ·refine aX<|aD Z<|aQ<|aT<|aJ ?_;cases h;exact iJ Z
 refine cK<|aN<|eG (λj=>FV  j=some r) (λj o=>[]) (λj o=>[]) ?_ ?_
 ·refine aX<|aD Z<|aQ<|aW<|fJ (mI U g) (λa e=>[(0,k),(1,vI (a.1)),(5,vI (a.2))]) (λa e=>[]) (b,(1:Int)) () h SF (a_.refl _) ?_;intro p a e h;refine aN<|aX<|aB Z<|aB Z<|jM (aA.fact 0 Z) Z<|cX Z<|aQ ?_;refine eJ h Z (λh=>?_) λh=>?_
  ·refine cK<|aN<|aW<|aX<|aB Z<|aB Z<|cQ h λf h=>aC (bI Z Z (aA.fact 0 Z) Z Z f) Z<|aC (dX Z Z Z Z Z) Z<|aC (fI Z (aA.fact 0 Z) Z Z Z gU f) Z<|eO h λi m h=>aM (zBa Zo (OD U  i m) Z .nil) Z λq=>aD Z<|aQ<|aN<|aX<|aB Z<|cX Z<|aQ ?_;refine eJ h Z (λh=>?_) λh=>?_
   ·refine aX<|aD Z<|aQ<|aT<|aJ<|bF<|aJ<|aJ<|bF<|aJ ?_;cases h;exact iJ Z
   refine cK<|aX<|aB Z<|aB Z<|aC (oD Z Z) Z<|cW Z<|aD Z<|aQ<|aX<|aB Z<|cI Z<|aQ ?_;refine eJ h Z (λh=>?_) λh=>?_
   ·refine aX<|aB Z<|cW Z<|aD Z<|aQ<|aT<|bF<|aJ<|aJ<|bF<|aJ ?_;cases h;exact iJ Z
   refine eC<|lJ<|aU<|aB Z<|cW Z<|aD Z<|aQ ?_;exact vT ((wI .i64 (a.1+(1:Int))),(wI .i64 (a.2+(wI .i64 (i - (1:Int)))))) () h SF Z
  refine fF ?_;exact gJ () (()) h SF Z
 intro j o h;unfold FV at h;refine aX<|aD Z<|aQ<|aT ?_;cases h;exact iJ Z
def j_ (U:Nat) (a:Bool):Option (Int):=
 if a=true then(some (1:Int))else(some (0:Int))
theorem AJ:bD Tryz.prog 260:=Tryz.call260
theorem lZ (U:Nat) {a:Bool} (r:Int) (h:j_ U a=some r):
  bG Tryz.prog 260 #[vB (a)] [] (λx:Unit=>vI (r)) (λx l=>l) (λ_ l=>l):=by
 refine bG.of Tryz.func260 Z Tryz.ntmps260 Z λc=>?_;refine aX<|aD Z<|aQ<|aN<|aX<|aB Z<|aQ ?_;refine qS h Z (λ_ h=>?_) λ_ h=>?_
 ·refine aX<|aD Z<|aQ<|aT<|aJ ?_;cases h;exact iJ Z
 refine cK<|aX<|aD Z<|aQ<|aT ?_;cases h;exact iJ Z
def tI (U:Nat) (a:UQ) (d:Int) (b:Int) (c:Int):Option (Int):=
 if d=(6:Int)then(some (a.2.1.1.length:Int))else(if d=(7:Int)then(some (a.2.2.1))else(if d=(8:Int)then(ck (0<=b∧b<(a.2.1.1.length:Int)) (some (at' a.2.1.1 b)))else(if d=(9:Int)then(ck (0<=b∧b<(a.2.1.2.length:Int)) (some ((at' a.2.1.2 b).length:Int)))else(if d=(10:Int)then(Option.bind (j_ U (decide (b=(0:Int)))) λf=>(some (f)))else(if d=(11:Int)then(some (c))else(ck (0<=b∧b<(a.2.1.2.length:Int)) (ck (0<=c∧c<((at' a.2.1.2 b).length:Int)) (if d=(13:Int)then(ck (0<=((at' (at' a.2.1.2 b) c).1)∧((at' (at' a.2.1.2 b) c).1)<(a.2.1.1.length:Int)) (some (at' a.2.1.1 ((at' (at' a.2.1.2 b) c).1))))else(if d=(14:Int)then(ck (0<=((at' (at' a.2.1.2 b) c).1)∧((at' (at' a.2.1.2 b) c).1)<(a.2.1.2.length:Int)) (some ((at' a.2.1.2 ((at' (at' a.2.1.2 b) c).1)).length:Int)))else(if d=(15:Int)then(Option.bind (j_ U (decide (((at' (at' a.2.1.2 b) c).1)=(0:Int)))) λe=>(some (e)))else(if d=(16:Int)then(some ((at' (at' a.2.1.2 b) c).2))else(ck (0<=b∧b<(a.2.2.2.length:Int)) (ck (0<=c∧c<((at' a.2.2.2 b).length:Int)) (some (at' (at' a.2.2.2 b) c)))))))))))))))
theorem Zp:bD Tryz.prog 259:=Tryz.call259
theorem FI (U:Nat) {d:UQ} {t:Int} {k:Int} {m:Int} (f:Nat)  (u:Value)  (v:Value)  (w:Value)  (y:Value)  (G:kY)  (A:Value)  (H:mR) (r:Int) (h:tI U d t k m=some r):
  bG Tryz.prog 259 #[vP f,vI (t),vI (k),vI (m)] [bO f [vS (d.1.1),u,v,w,y,vI (d.2.2.1),A] 206,Sl aG u d.1.2.1,Sl aF v d.1.2.2,Sl aP w d.2.1.1,S2 bA y G d.2.1.2,S2 aP A H d.2.2.2] (λx:Unit=>vI (r)) (λx l=>l) (λ_ l=>l):=by
 let n:=(at' (at' d.2.1.2 k) m)
 refine bG.of Tryz.func259 Z Tryz.ntmps259 Z λc=>?_;refine aX<|aD Z<|aQ<|aN<|aX<|aB Z<|aQ<|aW<|aX<|cI Z<|aD Z<|aQ ?_;refine eJ h Z (λh=>?_) λh=>?_
 ·refine aX<|aB Z<|aC (bU Z) Z<|bX Z<|bX Z<|aC (fX Z (aA.fact 0 Z) Z Z Z) Z<|jM (aA.fact 3 Z) Z<|aD Z<|aQ<|aT<|bF<|aJ ?_;cases h;exact iJ Z
 refine aX<|cI Z<|aD Z<|aQ ?_;refine eJ h Z (λh=>?_) λh=>?_
 ·refine aX<|aB Z<|aC (bU Z) Z<|bX Z<|aC (fX Z (aA.fact 0 Z) Z Z Z) Z<|aD Z<|aQ<|aT<|bF<|aJ ?_;cases h;exact iJ Z
 refine aX<|cI Z<|aD Z<|aQ ?_;refine eJ h Z (λh=>?_) λh=>?_
 ·refine aX<|aB Z<|aC (bU Z) Z<|bX Z<|bX Z<|aC (fX Z (aA.fact 0 Z) Z Z Z) Z<|aB Z<|cQ h λs h=>aC (bI Z Z (aA.fact 3 Z) Z Z s) Z<|aC (cL Z (aA.fact 3 Z) Z Z Z fN s) Z<|aD Z<|aQ<|aT<|bF<|aJ ?_;cases h;exact iJ Z
 refine aX<|cI Z<|aD Z<|aQ ?_;refine eJ h Z (λh=>?_) λh=>?_
 ·refine aX<|aB Z<|aC (bU Z) Z<|bX Z<|bX Z<|aC (fX Z (aA.fact 0 Z) Z Z Z) Z<|aB Z<|cQ h λo h=>aC (bH Z Z (aA.fact 4 Z) Z Z o) Z<|aC (bS Z (aA.fact 4 Z) Z Z o) Z<|aC (fG Z (zBb (aA.fact 4 Z) o.1 o.2) Z) Z<|aD Z<|aQ<|aT<|bF<|aJ ?_;cases h;exact iJ Z
 refine aX<|cI Z<|aD Z<|aQ ?_;refine eJ h Z (λh=>?_) λh=>?_
 ·refine aX<|aB Z<|cI Z<|eO h λC D h=>aM (zBa AJ (lZ U  C D) Z .nil) Z λE=>aD Z<|aQ<|aT<|bF<|aJ ?_;cases h;exact iJ Z
 refine aX<|cI Z<|aD Z<|aQ ?_;refine eJ h Z (λh=>?_) λh=>?_
 ·refine aX<|aB Z<|aD Z<|aQ<|aT<|bF<|aJ ?_;cases h;exact iJ Z
 refine eC<|lJ<|aX<|aB Z<|aC (bU Z) Z<|bX Z<|bX Z<|aC (fX Z (aA.fact 0 Z) Z Z Z) Z<|aB Z<|cQ h λa h=>aC (bH Z Z (aA.fact 4 Z) Z Z a) Z<|aC (bS Z (aA.fact 4 Z) Z Z a) Z<|aB Z<|cQ h λg h=>aC (bI Z Z (zBb (aA.fact 4 Z) a.1 a.2) Z Z g) Z<|aC (gM (cs:=[vI (n.1),vI (n.2)]) Z (zBb (aA.fact 4 Z) a.1 a.2) cF Z Z Z Z g) Z<|aM (aS.alloc (cs:=Qs) Z Z) Z λB=>cA 0 (vs:=[vI ((at' (at' d.2.1.2 k) m).1),vI ((at' (at' d.2.1.2 k) m).2)]) Z Z Z Z Z Z<|aQ<|aN<|aX<|aB Z<|aQ<|aW<|aX<|cI Z<|aD Z<|aQ ?_;refine eJ h Z (λh=>?_) λh=>?_
 ·refine aN ?_;refine JR.start [0,1,3,7,15,0,32,127,255,511] 7 mixedOrders (by decide +kernel) ?_;refine zBc (by exact rfl) ?_;refine aV Z<|e_ Z (bU Z)<|cB Z<|cB Z<|bE Z .nil (fW 0 Z) (fX Z (aA.fact 0 Z) Z Z Z) aO.z<|cB Z<|eI 0 Z<|bM 7 Z Z<|cQ h λi h=>aC (bI Z Z (aA.fact 3 Z) Z Z i) Z<|aC (cL Z (aA.fact 3 Z) Z Z Z fN i) Z<|aD Z<|aQ<|aT<|bF<|aJ ?_;cases h;exact lY Z
 refine aX<|cI Z<|aD Z<|aQ ?_;refine eJ h Z (λh=>?_) λh=>?_
 ·refine aN ?_;refine JR.start [0,1,3,7,15,0,32,127,255,511,1023] 7 mixedOrders (by decide +kernel) ?_;refine zBc (by exact rfl) ?_;refine aV Z<|e_ Z (bU Z)<|cB Z<|cB Z<|bE Z .nil (fW 0 Z) (fX Z (aA.fact 0 Z) Z Z Z) aO.z<|cB Z<|eI 0 Z<|bM 7 Z Z<|cQ h λe h=>aC (bH Z Z (aA.fact 4 Z) Z Z e) Z<|aC (bS Z (aA.fact 4 Z) Z Z e) Z<|aC (fG Z (zBb (aA.fact 4 Z) e.1 e.2) Z) Z<|aD Z<|aQ<|aT<|bF<|aJ ?_;cases h;exact lY Z
 refine aX<|cI Z<|aD Z<|aQ ?_;refine eJ h Z (λh=>?_) λh=>?_
 ·refine aX<|bX Z<|dU 0 Z<|cI Z<|eO h λp q h=>aM (zBa AJ (lZ U  p q) Z .nil) Z λF=>aD Z<|aQ<|aT<|bF<|aJ ?_;cases h;exact lY Z
 refine aX<|cI Z<|aD Z<|aQ ?_;refine eJ h Z (λh=>?_) λh=>?_
 ·refine aX<|bX Z<|dU 0 Z<|aD Z<|aQ<|aT<|bF<|aJ ?_;cases h;exact lY Z
 refine eC<|lJ<|aX<|aB Z<|aC (bU Z) Z<|bX Z<|aC (fX Z (aA.fact 0 Z) Z Z Z) Z<|aB Z<|cQ h λb h=>aC (bH Z Z (aA.fact 5 Z) Z Z b) Z<|aC (bS Z (aA.fact 5 Z) Z Z b) Z<|aB Z<|cQ h λj h=>aC (bI Z Z (zBb (aA.fact 5 Z) b.1 b.2) Z Z j) Z<|aC (cL Z (zBb (aA.fact 5 Z) b.1 b.2) Z Z Z fN j) Z<|aD Z<|aQ<|aT ?_;cases h;exact lY Z
def mQ (U:Nat) (a:OF) (b:gC) (c:Int):Option (Int):=
 if b.1=(1:Int)then(some (b.2))else(if b.1=(2:Int)then(some (1:Int))else(if b.1=(3:Int)then(some (0:Int))else(if b.1=(4:Int)then(some (-1:Int))else(if b.1=(5:Int)then(ck (0<=a.2.2.1∧a.2.2.1<(a.2.1.length:Int)) (ck (0<=b.2∧b.2<((at' a.2.1 a.2.2.1).length:Int)) (some (at' (at' a.2.1 a.2.2.1) b.2))))else(if b.1=(12:Int)then(ck (0<=a.2.2.1∧a.2.2.1<(a.1.2.1.2.length:Int)) (ck (0<=c∧c<((at' a.1.2.1.2 a.2.2.1).length:Int)) (ck (0<=((at' (at' a.1.2.1.2 a.2.2.1) c).1)∧((at' (at' a.1.2.1.2 a.2.2.1) c).1)<(a.2.1.length:Int)) (ck (0<=b.2∧b.2<((at' a.2.1 ((at' (at' a.1.2.1.2 a.2.2.1) c).1)).length:Int)) (some (at' (at' a.2.1 ((at' (at' a.1.2.1.2 a.2.2.1) c).1)) b.2))))))else(Option.bind (tI U ((((a.1.1.1,a.1.1.2.1,a.1.1.2.2)),((a.1.2.1.1,a.1.2.1.2)),a.1.2.2.1,a.1.2.2.2)) b.1 a.2.2.1 c) λd=>(some (d))))))))
theorem Zl:bD Tryz.prog 235:=Tryz.call235
theorem Gy (U:Nat) {d:OF} {k:gC} {y:Int} (g:Nat)  (e:Nat)  (o:Value)  (p:Value)  (q:Value)  (s:Value)  (B:kY)  (t:Value)  (C:mR)  (A:Value)  (v:mR)  (m:Value) (r:Int) (h:mQ U d k y=some r):
  bG Tryz.prog 235 #[vP g,Value.agg #[vI (k.1),vI (k.2)],vI (y)] [bO g [vP e,A,vI (d.2.2.1),m] 237,bO e [vS (d.1.1.1),o,p,q,s,vI (d.1.2.2.1),t] 206,Sl aG o d.1.1.2.1,Sl aF p d.1.1.2.2,Sl aP q d.1.2.1.1,S2 bA s B d.1.2.1.2,S2 aP t C d.1.2.2.2,S2 aP A v d.2.1,Sl bA m d.2.2.2] (λx:Unit=>vI (r)) (λx l=>l) (λ_ l=>l):=by
 refine bG.of Tryz.func235 Z Tryz.ntmps235 Z λc=>?_;refine aX<|aM (aS.box (cs:=[vI (k.1),vI (k.2)]) Z Z) Z λE=>aD Z<|aQ<|aN<|aX<|bX Z<|dU 0 Z<|aQ<|aW<|aX<|cI Z<|aD Z<|aQ ?_;refine eJ h Z (λh=>?_) λh=>?_
 ·refine aX<|bX Z<|dU 0 Z<|aD Z<|aQ<|aT<|bF<|aJ ?_;cases h;exact lY Z
 refine aX<|cI Z<|aD Z<|aQ ?_;refine eJ h Z (λh=>?_) λh=>?_
 ·refine aX<|aD Z<|aQ<|aT<|bF<|aJ ?_;cases h;exact lY Z
 refine aX<|cI Z<|aD Z<|aQ ?_;refine eJ h Z (λh=>?_) λh=>?_
 ·refine aX<|aD Z<|aQ<|aT<|bF<|aJ ?_;cases h;exact lY Z
 refine aX<|cI Z<|aD Z<|aQ ?_;refine eJ h Z (λh=>?_) λh=>?_
 ·refine aX<|aD Z<|aQ<|aT<|bF<|aJ ?_;cases h;exact lY Z
 refine aX<|cI Z<|aD Z<|aQ ?_;refine eJ h Z (λh=>?_) λh=>?_
 ·refine aN ?_;refine JR.start [0,1,3,7,0,16,48,112,255,511,0,1024,4095,8191,16383] 12 mixedOrders (by decide +kernel) ?_;refine zBc (by exact rfl) ?_;refine aV Z<|e_ Z (bU Z)<|cB Z<|bE Z .nil (fW 0 Z) (fX Z (aA.fact 0 Z) Z Z Z) aO.z<|aV Z<|e_ Z (bU Z)<|cB Z<|bE Z .nil (fW 0 Z) (fX Z (aA.fact 0 Z) Z Z Z) aO.z<|cQ h λf h=>bE Z .nil (fW 7 Z) (bH Z Z (aA.fact 0 Z) Z Z f) aO.z<|bE Z .nil (fW 7 Z) (bS Z (aA.fact 0 Z) Z Z f) aO.z<|cB Z<|eI 0 Z<|bM 12 Z Z<|cQ h λw h=>aC (bI Z Z (zBb (aA.fact 7 Z) f.1 f.2) Z Z w) Z<|aC (cL Z (zBb (aA.fact 7 Z) f.1 f.2) Z Z Z fN w) Z<|aD Z<|aQ<|aT<|bF<|aJ ?_;cases h;exact lY Z
 refine aX<|cI Z<|aD Z<|aQ ?_;refine eJ h Z (λh=>?_) λh=>?_
 ·refine aN ?_;refine JR.start [0,1,3,7,0,16,48,112,240,496,1008,2032,0,4096,12288,28672,65520,131056,0,524272,1048560,2097136,4194303,8388607,0,16777216,67108863,134217727,268435455] 26 mixedOrders (by decide +kernel) ?_;refine zBc (by exact rfl) ?_;refine aV Z<|e_ Z (bU Z)<|cB Z<|bE Z .nil (fW 0 Z) (fX Z (aA.fact 0 Z) Z Z Z) aO.z<|aV Z<|e_ Z (bU Z)<|cB Z<|bE Z .nil (fW 0 Z) (fX Z (aA.fact 0 Z) Z Z Z) aO.z<|e_ Z (bU Z)<|cB Z<|cB Z<|bE Z .nil (fW 1 Z) (fX Z (aA.fact 0 Z) Z Z Z) aO.z<|aV Z<|e_ Z (bU Z)<|cB Z<|bE Z .nil (fW 0 Z) (fX Z (aA.fact 0 Z) Z Z Z) aO.z<|cQ h λa h=>bE Z .nil (fW 5 Z) (bH Z Z (aA.fact 0 Z) Z Z a) aO.z<|bE Z .nil (fW 5 Z) (bS Z (aA.fact 0 Z) Z Z a) aO.z<|aV Z<|cQ h λi h=>bE Z .nil (fW 5 Z) (bI Z Z (zBb (aA.fact 0 Z) a.1 a.2) Z Z i) aO.z<|e_ Z (dX Z Z Z Z Z)<|bE Z .nil (fW 5 Z) (fI Z (zBb (aA.fact 0 Z) a.1 a.2) Z Z Z gU i) aO.z<|cQ h λb h=>bE Z .nil (fW 7 Z) (bH Z Z (aA.fact 0 Z) Z Z b) aO.z<|bE Z .nil (fW 7 Z) (bS Z (aA.fact 0 Z) Z Z b) aO.z<|cB Z<|eI 0 Z<|bM 26 Z Z<|cQ h λj h=>aC (bI Z Z (zBb (aA.fact 7 Z) b.1 b.2) Z Z j) Z<|aC (cL Z (zBb (aA.fact 7 Z) b.1 b.2) Z Z Z fN j) Z<|aD Z<|aQ<|aT<|bF<|aJ ?_;cases h;exact lY Z
 refine eC<|lJ<|aN ?_;refine JR.start [0,1,3,7,0,16,0,64,192,448,0,2047,4095] 11 mixedOrders (by decide +kernel) ?_;refine zBc (by exact rfl) ?_;refine aV Z<|e_ Z (bU Z)<|cB Z<|bE Z .nil (fW 0 Z) (fX Z (aA.fact 0 Z) Z Z Z) aO.z<|cB Z<|eI 0 Z<|aV Z<|e_ Z (bU Z)<|cB Z<|bE Z .nil (fW 0 Z) (fX Z (aA.fact 0 Z) Z Z Z) aO.z<|aV Z<|bM 11 Z Z<|eO h λn u h=>aM (zBa Zp (FI U e o p q s B t C n u) Z (iD [1,2,3,4,5,6] Z)) Z λD=>aD Z<|aQ<|aT ?_;cases h;exact lY Z
def BY (U:Nat) (b:Int) (a:Int):Option (Int):=
 if b=(18:Int)then(some (wI .i64 (0 - a)))else(Option.bind (j_ U (decide (a=(0:Int)))) λc=>(some (c)))
theorem Zm:bD Tryz.prog 236:=Tryz.call236
theorem Oo (U:Nat) {a:Int} {b:Int} (r:Int) (h:BY U a b=some r):
  bG Tryz.prog 236 #[vI (a),vI (b)] [] (λx:Unit=>vI (r)) (λx l=>l) (λ_ l=>l):=by
 refine bG.of Tryz.func236 Z Tryz.ntmps236 Z λc=>?_;refine aX<|aD Z<|aQ<|aN<|aX<|aB Z<|cI Z<|aQ ?_;refine eJ h Z (λh=>?_) λh=>?_
 ·refine aX<|aB Z<|aC (aaO Z) Z<|aD Z<|aQ<|aT<|aJ ?_;cases h;exact iJ Z
 refine cK<|aX<|aB Z<|cI Z<|eO h λd e h=>aM (zBa AJ (lZ U  d e) Z .nil) Z λf=>aD Z<|aQ<|aT ?_;cases h;exact iJ Z
def kH (U:Nat) (a:Int):Option (Int):=
 some (max (-1073741824:Int) (min a (1073741824:Int)))
theorem Gc:bD Tryz.prog 262:=Tryz.call262
theorem nE (U:Nat) {a:Int} (r:Int) (h:kH U a=some r):
  bG Tryz.prog 262 #[vI (a)] [] (λx:Unit=>vI (r)) (λx l=>l) (λ_ l=>l):=by
 refine bG.of Tryz.func262 Z Tryz.ntmps262 Z λc=>?_;unfold kH at h;refine aX<|aD Z<|aQ<|aX<|aB Z<|aC (Mo Z Z) Z<|aC (HO Z Z) Z<|aD Z<|aQ<|aT ?_;cases h;exact iJ Z
def pW  (a:Int):Option (Int):=
 some (a)
def uO (a:Int) (b:Int) (c:Bool):Option (Int):=
 if c=true then(pW  (wI .i64 ((wI .i64 (Int.tdiv a b)) - (1:Int))))else(pW  (wI .i64 (Int.tdiv a b)))
def rV (U:Nat) (b:Int) (a:Int):Option (Int):=
 if a=(0:Int)then(some (0:Int))else(ck (a≠0) (ck (a≠0) (if(Int.tmod b a)≠(0:Int)then(uO b a (((decide (b<(0:Int))) != (decide (a<(0:Int))))))else(uO b a (false)))))
theorem SD:bD Tryz.prog 263:=Tryz.call263
theorem ER (U:Nat) {a:Int} {b:Int} (r:Int) (h:rV U a b=some r):
  bG Tryz.prog 263 #[vI (a),vI (b)] [] (λx:Unit=>vI (r)) (λx l=>l) (λ_ l=>l):=by
 refine bG.of Tryz.func263 Z Tryz.ntmps263 Z λc=>?_;refine aX<|aD Z<|aQ<|aN<|aX<|aB Z<|cI Z<|aQ ?_;refine eJ h Z (λh=>?_) λh=>?_
 ·refine aX<|aD Z<|aQ<|aT<|aJ ?_;cases h;exact iJ Z
 refine cK<|aX<|aB Z<|aB Z<|cQ h λj h=>aC (VB Z Z j) Z<|aD Z<|aQ<|aN<|eG (λd=>pW  d=some r) (λd g=>[(5,vI (d))]) (λd g=>[]) ?_ ?_
 ·refine aN<|eG (λe=>uO a b e=some r) (λe i=>[(5,vI (wI .i64 (Int.tdiv a b))),(21,vB (e))]) (λe i=>[]) ?_ ?_
  ·refine aU<|aB Z<|aB Z<|cQ h λf h=>aC (Sg Z Z f) Z<|kA Z<|aB Z ?_;refine AL h Z (λ_ h=>?_) λ_ h=>?_
   ·refine dH Z<|aR Z (EO Z Z) Z<|dH Z<|aR Z (EO Z Z) Z<|aR Z (VA Z Z Z) Z<|dG Z<|aQ ?_;exact gJ (((decide (a<(0:Int))) != (decide (b<(0:Int))))) () h SF Z
   refine aK Z<|aK Z<|aK Z<|aK Z<|aK Z<|dR Z<|aQ ?_;exact gJ (false) () h SF Z
  intro e i h;refine qS h Z (λ_ h=>?_) λ_ h=>?_
  ·refine aU<|aB Z<|aC (oD Z Z) Z<|aD Z<|aQ ?_;exact gJ (wI .i64 ((wI .i64 (Int.tdiv a b)) - (1:Int))) () h SF Z
  refine cK ?_;exact gJ (wI .i64 (Int.tdiv a b)) () h SF Z
 intro d g h;unfold pW at h;refine aX<|aB Z<|aD Z<|aQ<|aT ?_;cases h;exact iJ Z
def wW (U:Nat) (c:Int) (a:Int) (b:Int):Option Bool:=
 if c=(35:Int)then(some (decide (a=b)))else(if c=(36:Int)then(some (decide (a≠b)))else(if c=(37:Int)then(some (decide (a<b)))else(if c=(38:Int)then(some (decide (a<=b)))else(if c=(39:Int)then(some (decide (b<a)))else(some (decide (b<=a)))))))
theorem Zr:bD Tryz.prog 264:=Tryz.call264
theorem JJ (U:Nat) {a:Int} {b:Int} {d:Int} (r:Bool) (h:wW U a b d=some r):
  bG Tryz.prog 264 #[vI (a),vI (b),vI (d)] [] (λx:Unit=>vB (r)) (λx l=>l) (λ_ l=>l):=by
 refine bG.of Tryz.func264 Z Tryz.ntmps264 Z λc=>?_;refine aX<|aD Z<|aQ<|aN<|aX<|aB Z<|aQ<|aW<|aX<|cI Z<|aD Z<|aQ ?_;refine eJ h Z (λh=>?_) λh=>?_
 ·refine aX<|aB Z<|aB Z<|cI Z<|aD Z<|aQ<|aT<|bF<|aJ ?_;cases h;exact iJ Z
 refine aX<|cI Z<|aD Z<|aQ ?_;refine eJ h Z (λh=>?_) λh=>?_
 ·refine aX<|aB Z<|aB Z<|kA Z<|aD Z<|aQ<|aT<|bF<|aJ ?_;cases h;exact iJ Z
 refine aX<|cI Z<|aD Z<|aQ ?_;refine eJ h Z (λh=>?_) λh=>?_
 ·refine aX<|aB Z<|aB Z<|cX Z<|aD Z<|aQ<|aT<|bF<|aJ ?_;cases h;exact iJ Z
 refine aX<|cI Z<|aD Z<|aQ ?_;refine eJ h Z (λh=>?_) λh=>?_
 ·refine aX<|aB Z<|aB Z<|aC (BM Z Z) Z<|aD Z<|aQ<|aT<|bF<|aJ ?_;cases h;exact iJ Z
 refine aX<|cI Z<|aD Z<|aQ ?_;refine eJ h Z (λh=>?_) λh=>?_
 ·refine aX<|aB Z<|aB Z<|aC (sL Z Z) Z<|aD Z<|aQ<|aT<|bF<|aJ ?_;cases h;exact iJ Z
 refine eC<|lJ<|aX<|aB Z<|aB Z<|aC (tC Z Z) Z<|aD Z<|aQ<|aT ?_;cases h;exact iJ Z
def pU  (a:Int):Option (Int):=
 some (a)
def pV  (a:Int):Option (Int):=
 some (a)
def AO (U:Nat) (c:Int) (b:Int) (a:Int):Option (Int):=
 if c=(30:Int)then(Option.bind (kH U (wI .i64 (b*a))) λn=>(some (n)))else(if c=(31:Int)then(Option.bind (rV U b a) λo=>(Option.bind (kH U o) λp=>(some (p))))else(if c=(32:Int)then(if a=(0:Int)then(some (0:Int))else(Option.bind (rV U b a) λd=>(Option.bind (kH U (wI .i64 (b - (wI .i64 (a*d))))) λe=>(some (e)))))else(if c=(33:Int)then(Option.bind (kH U (wI .i64 (b+a))) λf=>(some (f)))else(if c=(34:Int)then(Option.bind (kH U (wI .i64 (b - a))) λg=>(some (g)))else(if c=(41:Int)then(if b≠(0:Int)then(Option.bind (j_ U (decide (a≠(0:Int)))) λh=>(pU  (h)))else(Option.bind (j_ U false) λi=>(pU  (i))))else(if c=(42:Int)then(if b≠(0:Int)then(Option.bind (j_ U true) λj=>(pV  (j)))else(Option.bind (j_ U (decide (a≠(0:Int)))) λk=>(pV  (k))))else(Option.bind (wW U c b a) λl=>(Option.bind (j_ U l) λm=>(some (m))))))))))
theorem Zn:bD Tryz.prog 238:=Tryz.call238
theorem LW (U:Nat) {E:Int} {F:Int} {G:Int} (r:Int) (h:AO U E F G=some r):
  bG Tryz.prog 238 #[vI (E),vI (F),vI (G)] [] (λx:Unit=>vI (r)) (λx l=>l) (λ_ l=>l):=by
 refine bG.of Tryz.func238 Z Tryz.ntmps238 Z λc=>?_;refine aX<|aD Z<|aQ<|aN<|aX<|aB Z<|aQ<|aW<|aX<|cI Z<|aD Z<|aQ ?_;refine eJ h Z (λh=>?_) λh=>?_
 ·refine aX<|aB Z<|aB Z<|aC (Fp Z Z) Z<|eO h λH K h=>aM (zBa Gc (nE U  H K) Z .nil) Z λY=>aD Z<|aQ<|aT<|bF<|aJ ?_;cases h;exact iJ Z
 refine aX<|cI Z<|aD Z<|aQ ?_;refine eJ h Z (λh=>?_) λh=>?_
 ·refine aX<|aB Z<|aB Z<|eO h λI L h=>aM (zBa SD (ER U  I L) Z .nil) Z λx8=>eO h λJ s h=>aM (zBa Gc (nE U  J s) Z .nil) Z λM=>aD Z<|aQ<|aT<|bF<|aJ ?_;cases h;exact iJ Z
 refine aX<|cI Z<|aD Z<|aQ ?_;refine eJ h Z (λh=>?_) λh=>?_
 ·refine aN<|aX<|aB Z<|cI Z<|aQ ?_;refine eJ h Z (λh=>?_) λh=>?_
  ·refine aX<|aD Z<|aQ<|aT<|aJ<|bF<|aJ ?_;cases h;exact iJ Z
  refine cK<|aX<|aB Z<|aB Z<|aB Z<|aB Z<|eO h λk t h=>aM (zBa SD (ER U  k t) Z .nil) Z λN=>aC (Fp Z Z) Z<|aC (oD Z Z) Z<|eO h λm u h=>aM (zBa Gc (nE U  m u) Z .nil) Z λO=>aD Z<|aQ<|aT<|bF<|aJ ?_;cases h;exact iJ Z
 refine aX<|cI Z<|aD Z<|aQ ?_;refine eJ h Z (λh=>?_) λh=>?_
 ·refine aX<|aB Z<|aB Z<|cW Z<|eO h λn v h=>aM (zBa Gc (nE U  n v) Z .nil) Z λP=>aD Z<|aQ<|aT<|bF<|aJ ?_;cases h;exact iJ Z
 refine aX<|cI Z<|aD Z<|aQ ?_;refine eJ h Z (λh=>?_) λh=>?_
 ·refine aX<|aB Z<|aB Z<|aC (oD Z Z) Z<|eO h λo w h=>aM (zBa Gc (nE U  o w) Z .nil) Z λQ=>aD Z<|aQ<|aT<|bF<|aJ ?_;cases h;exact iJ Z
 refine aX<|cI Z<|aD Z<|aQ ?_;refine eJ h Z (λh=>?_) λh=>?_
 ·refine aN<|eG (λa=>pU  a=some r) (λa d=>[(6,vI (a))]) (λa d=>[]) ?_ ?_
  ·refine aU<|aB Z<|kA Z<|aB Z ?_;refine AL h Z (λ_ h=>?_) λ_ h=>?_
   ·refine dH Z<|aR Z (xQ Z Z) Z<|dG Z<|eO h λf y h=>aM (zBa AJ (lZ U  f y) Z .nil) Z λR=>aD Z<|aQ ?_;exact gJ (f) () h SF Z
   refine aK Z<|aK Z<|dR Z<|eO h λg z h=>aM (zBa AJ (lZ U  g z) Z .nil) Z λS=>aD Z<|aQ ?_;exact gJ (g) () h SF Z
  intro a d h;unfold pU at h;refine aT<|bF<|aJ ?_;cases h;exact iJ Z
 refine aX<|cI Z<|aD Z<|aQ ?_;refine eJ h Z (λh=>?_) λh=>?_
 ·refine aN<|eG (λb=>pV  b=some r) (λb e=>[(6,vI (b))]) (λb e=>[]) ?_ ?_
  ·refine aU<|aB Z<|kA Z<|aB Z ?_;refine AL h Z (λ_ h=>?_) λ_ h=>?_
   ·refine aK Z<|aK Z<|dG Z<|eO h λi A h=>aM (zBa AJ (lZ U  i A) Z .nil) Z λT=>aD Z<|aQ ?_;exact gJ (i) () h SF Z
   refine dH Z<|aR Z (xQ Z Z) Z<|dR Z<|eO h λj B h=>aM (zBa AJ (lZ U  j B) Z .nil) Z λV=>aD Z<|aQ ?_;exact gJ (j) () h SF Z
  intro b e h;unfold pV at h;refine aT<|bF<|aJ ?_;cases h;exact iJ Z
 refine eC<|lJ<|aX<|aB Z<|aB Z<|aB Z<|eO h λp C h=>aM (zBa Zr (JJ U  p C) Z .nil) Z λW=>eO h λq D h=>aM (zBa AJ (lZ U  q D) Z .nil) Z λX=>aD Z<|aQ<|aT ?_;cases h;exact iJ Z
def AK  (a:Int):Option (Int):=
 some (a)
def vV (c:gC) (b:gH->Option (Int)) (a:Int):Option (Int):=
 b (a,(wI .i64 (c.2+(1:Int))))
def sC (c:cC) (a:gC) (b:gH->Option (Int)):Option (Int):=
 if a.2<(c.length:Int)then(ck (0<=a.2∧a.2<(c.length:Int)) (if(at' c a.2)≠(0:Int)then(vV a b (wI .i64 (a.1+(1:Int))))else(vV a b (a.1))))else(AK  (a.1))
def q_ (U:Nat) (a:cC):Option (Int):=
 bP (sC a) U ((0:Int),(0:Int))
theorem NH:bD Tryz.prog 280:=Tryz.call280
theorem EH (U:Nat) {d:cC} (i:Value) (r:Int) (h:q_ U d=some r):
  bG Tryz.prog 280 #[i] [Sl aP i d] (λx:Unit=>vI (r)) (λx l=>l) (λ_ l=>l):=by
 refine bG.of Tryz.func280 Z Tryz.ntmps280 Z λc=>?_;unfold q_ at h;refine aX<|aD Z<|aQ<|aX<|aD Z<|aQ<|aN<|eG (λe=>AK  e=some r) (λe j=>[(3,vI (e))]) (λe j=>[]) ?_ ?_
 ·refine aX<|aB Z<|jM (aA.fact 0 Z) Z<|aB Z<|aQ<|aW<|fJ (sC d) (λb k=>[(3,vI (b.1)),(6,i),(7,vI (d.length:Int)),(8,vI (b.2))]) (λb k=>[]) ((0:Int),(0:Int)) () h SF (a_.refl _) ?_;intro m b k h;refine aX<|cX Z<|aQ<|aN ?_;refine eJ h Z (λh=>?_) λh=>?_
  ·refine cK<|aN<|eG (λa=>vV b (bP (sC d) m) a=some r) (λa f=>[(3,vI (a)),(6,i),(7,vI (d.length:Int)),(8,vI (b.2))]) (λa f=>[]) ?_ ?_
   ·refine aW<|aX<|cQ h λg h=>aC (bI Z Z (aA.fact 0 Z) Z Z g) Z<|aC (cL Z (aA.fact 0 Z) Z Z Z fN g) Z<|aD Z<|aQ<|aX<|aB Z<|kA Z<|aQ ?_;refine eJ h Z (λh=>?_) λh=>?_
    ·refine aU<|aB Z<|cW Z<|aD Z<|fU<|lJ ?_;exact gJ (wI .i64 (b.1+(1:Int))) () h SF Z
    refine eC<|lJ ?_;exact gJ (b.1) () h SF Z
   intro a f h;unfold vV at h;refine aU<|cW Z<|aB Z<|aQ ?_;exact vT (a,(wI .i64 (b.2+(1:Int)))) () h SF Z
  refine fF ?_;exact gJ (b.1) () h SF Z
 intro e j h;unfold AK at h;refine aX<|aB Z<|aD Z<|aQ<|aT ?_;cases h;exact iJ Z
def pP  (a:Unit):Option (Int):=
 some (-1:Int)
def iU (c:cC) (e:Int->Option Bool) (a:Int) (b:(Int)->Option (Int)):Option (Int):=
 if a<(c.length:Int)then(ck (0<=a∧a<(c.length:Int)) (Option.bind (e (at' c a)) λd=>(if d=true then(some (a))else(b (wI .i64 (a+(1:Int)))))))else(pP  (()))
def nL (U:Nat) (b:cC) (a:Int->Option Bool):Option (Int):=
 bP (iU b a) U (0:Int)
theorem Zs:bD Tryz.prog 281:=Tryz.call281
theorem Hy (U:Nat) {b:cC} {o:Int->Option Bool} (k:FuncId) (a:fM) (j:List bJ) (e:bD Tryz.prog k) (f:∀(t:Int) (r:Bool),o t=some r->bG Tryz.prog k ([vI (t)]++a).toArray j (λ_:Unit=>vB (r)) (λ_ l=>l) (λ_ l=>l)) (i:Value) (r:Int) (h:nL U b o=some r):
  bG Tryz.prog 281 #[i,Value.func (.func k) #[] (a).toArray] ([Sl aP i b]++j) (λx:Unit=>vI (r)) (λx l=>l) (λ_ l=>l):=by
 refine bG.of Tryz.func281 Z Tryz.ntmps281 Z λc=>?_;unfold nL at h;refine aX<|aD Z<|aQ<|aN<|lC (B:=Unit) (λg=>pP  g=some r) (λg m=>[]) (λg m=>[]) (λg m=>([Sl aP i b]++j)) ?_ ?_
 ·refine aX<|aB Z<|jM (aA.fact 0 Z) Z<|aB Z<|aQ<|aW<|oO (B:=Unit) (iU b o) (λd n=>[(0,i),(1,Value.func (.func k) #[] (a).toArray),(7,vI (b.length:Int)),(8,vI (d))]) (λd n=>[]) (λd n=>([Sl aP i b]++j)) (0:Int) () h SF (a_.refl _) (aI.refl _ _) ?_;intro v d n h;refine aX<|cX Z<|aQ<|aN ?_;refine eJ h Z (λh=>?_) λh=>?_
  ·refine cK<|aN<|aW<|aX<|aB Z<|aD Z<|aQ<|aX<|aB Z<|aB Z<|aB Z<|cQ h λs h=>aC (bI Z Z (aA.fact 0 Z) Z Z s) Z<|aC (cL Z (aA.fact 0 Z) Z Z Z fN s) Z<|eO h λp q h=>aM (s_ (vs:=[vI (at' b d)]) (cs:=a) e Z (f (at' b d) p q) Z (aI.tail _) (λ_ _=>rfl)) Z λu=>aQ ?_;refine qS h Z (λ_ h=>?_) λ_ h=>?_
   ·refine aX<|aB Z<|aD Z<|aQ<|aT<|bF<|aJ<|aJ<|bF<|aJ ?_;cases h;exact iJ Z
   refine eC<|lJ<|aU<|cW Z<|aB Z<|aQ ?_;exact vT (wI .i64 (d+(1:Int))) () h SF Z
  refine fF ?_;exact gJ () (()) h SF Z
 intro g m h;unfold pP at h;refine aX<|aD Z<|aQ<|aT ?_;cases h;exact iJ Z
def pD (U:Nat) (a:Int):Option Bool:=
 some (decide (a≠(0:Int)))
theorem Zt:bD Tryz.prog 282:=Tryz.call282
theorem LX (U:Nat) {a:Int} (r:Bool) (h:pD U a=some r):
  bG Tryz.prog 282 #[vI (a)] [] (λx:Unit=>vB (r)) (λx l=>l) (λ_ l=>l):=by
 refine bG.of Tryz.func282 Z Tryz.ntmps282 Z λc=>?_;unfold pD at h;refine aX<|aD Z<|aQ<|aX<|aB Z<|kA Z<|aD Z<|aQ<|aT ?_;cases h;exact iJ Z
def vN  (a:gC):Option gH:=
 some (a.1,a.2)
def pM (c:Ix) (b:(Int×Int×Int)->Option gH) (a:gC):Option gH:=
 b (a.1,a.2,(wI .i64 (c.2.2+(1:Int))))
def vO (c:cC) (a:Ix) (b:(Int×Int×Int)->Option gH):Option gH:=
 if a.2.2<(c.length:Int)then(ck (0<=a.2.2∧a.2.2<(c.length:Int)) (if a.1<(at' c a.2.2)then(pM a b ((at' c a.2.2),a.1))else(pM a b (a.1,(max a.2.1 (at' c a.2.2))))))else(vN  (a.1,a.2.1))
def rA (U:Nat) (a:cC):Option gH:=
 bP (vO a) U ((-1073741824:Int),(-1073741824:Int),(0:Int))
theorem SE:bD Tryz.prog 283:=Tryz.call283
theorem CK (U:Nat) {d:cC} (j:Value) (r:gC) (h:rA U d=some r):
  bG Tryz.prog 283 #[j] [Sl aP j d] (λx:Unit=>Value.tuple #[vI (r.1),vI (r.2)]) (λx l=>l) (λ_ l=>l):=by
 refine bG.of Tryz.func283 Z Tryz.ntmps283 Z λc=>?_;unfold rA at h;refine aX<|aD Z<|aD Z<|aQ<|aX<|aD Z<|aD Z<|aQ<|aN<|eG (λe=>vN  e=some r) (λe m=>[(2,vI (e.1)),(3,vI (e.2))]) (λe m=>[]) ?_ ?_
 ·refine aX<|aB Z<|jM (aA.fact 0 Z) Z<|aB Z<|aQ<|aW<|fJ (vO d) (λb f=>[(2,vI (b.1)),(3,vI (b.2.1)),(6,j),(7,vI (d.length:Int)),(8,vI (b.2.2))]) (λb f=>[]) ((-1073741824:Int),(-1073741824:Int),(0:Int)) () h SF (a_.refl _) ?_;intro k b f h;refine aX<|cX Z<|aQ<|aN ?_;refine eJ h Z (λh=>?_) λh=>?_
  ·refine cK<|aN<|eG (λa=>pM b (bP (vO d) k) a=some r) (λa g=>[(2,vI (a.1)),(3,vI (a.2)),(6,j),(7,vI (d.length:Int)),(8,vI (b.2.2))]) (λa g=>[]) ?_ ?_
   ·refine aW<|aX<|cQ h λi h=>aC (bI Z Z (aA.fact 0 Z) Z Z i) Z<|aC (cL Z (aA.fact 0 Z) Z Z Z fN i) Z<|aD Z<|aQ<|aX<|aB Z<|aB Z<|aC (sL Z Z) Z<|aQ ?_;refine eJ h Z (λh=>?_) λh=>?_
    ·refine aU<|aB Z<|aB Z<|aD Z<|aD Z<|fU<|lJ ?_;exact gJ ((at' d b.2.2),b.1) () h SF Z
    refine aU<|aB Z<|aB Z<|aC (HO Z Z) Z<|aD Z<|fU<|lJ ?_;exact gJ (b.1,(max b.2.1 (at' d b.2.2))) () h SF Z
   intro a g h;unfold pM at h;refine aU<|cW Z<|aB Z<|aQ ?_;exact vT (a.1,a.2,(wI .i64 (b.2.2+(1:Int)))) () h SF Z
  refine fF ?_;exact gJ (b.1,b.2.1) () h SF Z
 intro e m h;unfold vN at h;refine aX<|aB Z<|aB Z<|aD Z<|aD Z<|aQ<|aT ?_;cases h;exact hJ () Z Z (RV.tmp Z) (RV.tmp Z) (a_.refl _) aI.nil
def xD  (a:Unit):Option (Int):=
 some (-1:Int)
def lB (c:cC) (d:Int) (a:Int) (b:(Int)->Option (Int)):Option (Int):=
 if a<(c.length:Int)then(ck (0<=a∧a<(c.length:Int)) (if d=(at' c a)then(some (a))else(b (wI .i64 (a+(1:Int))))))else(xD  (()))
def qB (U:Nat) (a:cC) (b:Int):Option (Int):=
 bP (lB a b) U (0:Int)
theorem Za:bD Tryz.prog 178:=Tryz.call178
theorem Lu (U:Nat) {d:cC} {e:Int} (f:Value) (r:Int) (h:qB U d e=some r):
  bG Tryz.prog 178 #[f,vI (e)] [Sl aP f d] (λx:Unit=>vI (r)) (λx l=>l) (λ_ l=>l):=by
 refine bG.of Tryz.func178 Z Tryz.ntmps178 Z λc=>?_;unfold qB at h;refine aX<|aD Z<|aQ<|aN<|eG (λa=>xD  a=some r) (λa g=>[]) (λa g=>[]) ?_ ?_
 ·refine aX<|aB Z<|jM (aA.fact 0 Z) Z<|aB Z<|aQ<|aW<|fJ (lB d e) (λb i=>[(0,f),(1,vI (e)),(7,vI (d.length:Int)),(8,vI (b))]) (λb i=>[]) (0:Int) () h SF (a_.refl _) ?_;intro k b i h;refine aX<|cX Z<|aQ<|aN ?_;refine eJ h Z (λh=>?_) λh=>?_
  ·refine cK<|aN<|aW<|aX<|aB Z<|aD Z<|aQ<|aX<|aB Z<|aB Z<|aB Z<|cQ h λj h=>aC (bI Z Z (aA.fact 0 Z) Z Z j) Z<|aC (cL Z (aA.fact 0 Z) Z Z Z fN j) Z<|cI Z<|aQ ?_;refine eJ h Z (λh=>?_) λh=>?_
   ·refine aX<|aB Z<|aD Z<|aQ<|aT<|bF<|aJ<|aJ<|bF<|aJ ?_;cases h;exact iJ Z
   refine eC<|lJ<|aU<|cW Z<|aB Z<|aQ ?_;exact vT (wI .i64 (b+(1:Int))) () h SF Z
  refine fF ?_;exact gJ () (()) h SF Z
 intro a g h;unfold xD at h;refine aX<|aD Z<|aQ<|aT ?_;cases h;exact iJ Z
def sN (U:Nat) (a:cC) (b:Int):Option Bool:=
 Option.bind (qB U a b) λc=>(some (decide ((0:Int)<=c)))
theorem Zv:bD Tryz.prog 290:=Tryz.call290
theorem Iu (U:Nat) {b:cC} {d:Int} (a:Value) (r:Bool) (h:sN U b d=some r):
  bG Tryz.prog 290 #[a,vI (d)] [Sl aP a b] (λx:Unit=>vB (r)) (λx l=>l) (λ_ l=>l):=by
 refine bG.of Tryz.func290 Z Tryz.ntmps290 Z λc=>?_;refine aX<|aD Z<|aQ<|aX<|aB Z<|aB Z<|eO h λe f h=>aM (zBa Za (Lu U a e f) Z (iD [0] Z)) Z λg=>aC (tC Z Z) Z<|aD Z<|aQ<|aT ?_;cases h;exact iJ Z
def Db  (a:Int):Option (Int):=
 some (a)
def Bp (U:Nat) (c:cC) (a:Int) (b:(Int)->Option (Int)):Option (Int):=
 Option.bind (sN U c a) λd=>(if d=true then(b (wI .i64 (a+(1:Int))))else(Db  (a)))
def CB (U:Nat) (a:cC):Option (Int):=
 bP (Bp U a) U (0:Int)
theorem Zu:bD Tryz.prog 284:=Tryz.call284
theorem RP (U:Nat) {e:cC} (d:Value) (r:Int) (h:CB U e=some r):
  bG Tryz.prog 284 #[d] [Sl aP d e] (λx:Unit=>vI (r)) (λx l=>l) (λ_ l=>l):=by
 refine bG.of Tryz.func284 Z Tryz.ntmps284 Z λc=>?_;unfold CB at h;refine aX<|aD Z<|aQ<|aX<|aD Z<|aQ<|aN<|eG (λa=>Db  a=some r) (λa g=>[(3,vI (a))]) (λa g=>[]) ?_ ?_
 ·refine aW<|fJ (Bp U e) (λb i=>[(0,d),(3,vI (b))]) (λb i=>[]) (0:Int) () h SF (a_.refl _) ?_;intro m b i h;refine aN<|aX<|aB Z<|aB Z<|eO h λj f h=>aM (zBa Zv (Iu U d j f) Z (iD [0] Z)) Z λk=>aQ ?_;refine qS h Z (λ_ h=>?_) λ_ h=>?_
  ·refine cK<|aW<|aU<|aB Z<|cW Z<|aD Z<|fU<|lJ ?_;exact vT (wI .i64 (b+(1:Int))) () h SF Z
  refine fF ?_;exact gJ (b) () h SF Z
 intro a g h;unfold Db at h;refine aX<|aB Z<|aD Z<|aQ<|aT ?_;cases h;exact iJ Z
def BX  (a:Int):Option (Int):=
 some (a)
def uM (c:cC) (a:gC) (b:gH->Option (Int)):Option (Int):=
 if a.2<(c.length:Int)then(ck (0<=a.2∧a.2<(c.length:Int)) (b ((min a.1 (at' c a.2)),(wI .i64 (a.2+(1:Int))))))else(BX  (a.1))
def En (U:Nat) (a:Int):Option (Int):=
 Option.bind (kH U a) λb=>(some (b))
def uN (U:Nat) (c:cC) (a:gC) (b:gH->Option (Int)):Option (Int):=
 if a.2<(c.length:Int)then(ck (0<=a.2∧a.2<(c.length:Int)) (b ((wI .i64 (a.1+(at' c a.2))),(wI .i64 (a.2+(1:Int))))))else(En U (a.1))
def De (U:Nat) (b:Int) (a:cC):Option (Int):=
 if b=(20:Int)then(Option.bind (q_ U a) λi=>(Option.bind (j_ U (decide (i=(a.length:Int)))) λj=>(some (j))))else(if b=(21:Int)then(Option.bind (q_ U a) λk=>(Option.bind (j_ U (decide ((0:Int)<k))) λc=>(some (c))))else(if b=(22:Int)then(Option.bind (q_ U a) λd=>(some (d)))else(if b=(23:Int)then(Option.bind (nL U a (λl=>pD U l)) λe=>(some (e)))else(if b=(24:Int)then(bP (uM a) U ((1073741824:Int),(0:Int)))else(if b=(25:Int)then(Option.bind (rA U a) λf=>(some (f.1)))else(if b=(26:Int)then(bP (uN U a) U ((0:Int),(0:Int)))else(if b=(27:Int)then(Option.bind (CB U a) λg=>(some (g)))else(if b=(28:Int)then(Option.bind (rA U a) λh=>(some (h.2)))else(if(a.length:Int)=(0:Int)then(some (0:Int))else(ck (0<=(0:Int)∧(0:Int)<(a.length:Int)) (some (at' a (0:Int)))))))))))))
theorem Zq:bD Tryz.prog 261:=Tryz.call261
theorem PZ (U:Nat) {H:Int} {g:cC} (f:Value) (r:Int) (h:De U H g=some r):
  bG Tryz.prog 261 #[vI (H),f] [Sl aP f g] (λx:Unit=>vI (r)) (λx l=>l) (λ_ l=>l):=by
 refine bG.of Tryz.func261 Z Tryz.ntmps261 Z λc=>?_;refine aX<|aD Z<|aQ<|aN<|aX<|aB Z<|aQ<|aW<|aX<|cI Z<|aD Z<|aQ ?_;refine eJ h Z (λh=>?_) λh=>?_
 ·refine aX<|aB Z<|eO h λK N h=>aM (zBa NH (EH U f K N) Z (iD [0] Z)) Z λY=>aB Z<|jM (aA.fact 0 Z) Z<|cI Z<|eO h λL O h=>aM (zBa AJ (lZ U  L O) Z .nil) Z λx7=>aD Z<|aQ<|aT<|bF<|aJ ?_;cases h;exact iJ Z
 refine aX<|cI Z<|aD Z<|aQ ?_;refine eJ h Z (λh=>?_) λh=>?_
 ·refine aX<|aB Z<|eO h λM z h=>aM (zBa NH (EH U f M z) Z (iD [0] Z)) Z λP=>aC (sL Z Z) Z<|eO h λq A h=>aM (zBa AJ (lZ U  q A) Z .nil) Z λQ=>aD Z<|aQ<|aT<|bF<|aJ ?_;cases h;exact iJ Z
 refine aX<|cI Z<|aD Z<|aQ ?_;refine eJ h Z (λh=>?_) λh=>?_
 ·refine aX<|aB Z<|eO h λs B h=>aM (zBa NH (EH U f s B) Z (iD [0] Z)) Z λR=>aD Z<|aQ<|aT<|bF<|aJ ?_;cases h;exact iJ Z
 refine aX<|cI Z<|aD Z<|aQ ?_;refine eJ h Z (λh=>?_) λh=>?_
 ·refine aX<|aB Z<|eO h λt C h=>aM (zBa Zs (Hy U 282 [] [] Zt (λy0 r h=>LX U  r h) f t C) Z (iD [0] Z)) Z λS=>aD Z<|aQ<|aT<|bF<|aJ ?_;cases h;exact iJ Z
 refine aX<|cI Z<|aD Z<|aQ ?_;refine eJ h Z (λh=>?_) λh=>?_
 ·refine aX<|aD Z<|aQ<|aN<|eG (λd=>BX  d=some r) (λd i=>[(5,vI (d))]) (λd i=>[]) ?_ ?_
  ·refine aX<|aB Z<|jM (aA.fact 0 Z) Z<|aB Z<|aQ<|aW<|fJ (uM g) (λa j=>[(5,vI (a.1)),(40,f),(41,vI (g.length:Int)),(42,vI (a.2))]) (λa j=>[]) ((1073741824:Int),(0:Int)) () h SF (a_.refl _) ?_;intro I a j h;refine aX<|cX Z<|aQ<|aN ?_;refine eJ h Z (λh=>?_) λh=>?_
   ·refine cK<|aN<|aW<|aX<|cQ h λn h=>aC (bI Z Z (aA.fact 0 Z) Z Z n) Z<|aC (cL Z (aA.fact 0 Z) Z Z Z fN n) Z<|aD Z<|aQ<|aU<|aB Z<|aB Z<|aC (Mo Z Z) Z<|aD Z<|fU<|lJ<|aU<|cW Z<|aB Z<|aQ ?_;exact vT ((min a.1 (at' g a.2)),(wI .i64 (a.2+(1:Int)))) () h SF Z
   refine fF ?_;exact gJ (a.1) () h SF Z
  intro d i h;unfold BX at h;refine aX<|aB Z<|aD Z<|aQ<|aT<|bF<|aJ ?_;cases h;exact iJ Z
 refine aX<|cI Z<|aD Z<|aQ ?_;refine eJ h Z (λh=>?_) λh=>?_
 ·refine aX<|aB Z<|eO h λu D h=>aM (zBa SE (CK U f u D) Z (iD [0] Z)) Z λT=>aB Z<|iG Z<|iG Z<|aD Z<|aD Z<|aQ<|aX<|aB Z<|aD Z<|aQ<|aT<|bF<|aJ ?_;cases h;exact iJ Z
 refine aX<|cI Z<|aD Z<|aQ ?_;refine eJ h Z (λh=>?_) λh=>?_
 ·refine aX<|aD Z<|aQ<|aN<|eG (λe=>En U e=some r) (λe k=>[(10,vI (e))]) (λe k=>[]) ?_ ?_
  ·refine aX<|aB Z<|jM (aA.fact 0 Z) Z<|aB Z<|aQ<|aW<|fJ (uN U g) (λb m=>[(10,vI (b.1)),(61,f),(62,vI (g.length:Int)),(63,vI (b.2))]) (λb m=>[]) ((0:Int),(0:Int)) () h SF (a_.refl _) ?_;intro J b m h;refine aX<|cX Z<|aQ<|aN ?_;refine eJ h Z (λh=>?_) λh=>?_
   ·refine cK<|aN<|aW<|aX<|cQ h λo h=>aC (bI Z Z (aA.fact 0 Z) Z Z o) Z<|aC (cL Z (aA.fact 0 Z) Z Z Z fN o) Z<|aD Z<|aQ<|aU<|aB Z<|aB Z<|cW Z<|aD Z<|fU<|lJ<|aU<|cW Z<|aB Z<|aQ ?_;exact vT ((wI .i64 (b.1+(at' g b.2))),(wI .i64 (b.2+(1:Int)))) () h SF Z
   refine fF ?_;exact gJ (b.1) () h SF Z
  intro e k h;refine aX<|aB Z<|eO h λv E h=>aM (zBa Gc (nE U  v E) Z .nil) Z λV=>aD Z<|aQ<|aT<|bF<|aJ ?_;cases h;exact iJ Z
 refine aX<|cI Z<|aD Z<|aQ ?_;refine eJ h Z (λh=>?_) λh=>?_
 ·refine aX<|aB Z<|eO h λw F h=>aM (zBa Zu (RP U f w F) Z (iD [0] Z)) Z λW=>aD Z<|aQ<|aT<|bF<|aJ ?_;cases h;exact iJ Z
 refine aX<|cI Z<|aD Z<|aQ ?_;refine eJ h Z (λh=>?_) λh=>?_
 ·refine aX<|aB Z<|eO h λy G h=>aM (zBa SE (CK U f y G) Z (iD [0] Z)) Z λX=>aB Z<|iG Z<|iG Z<|aD Z<|aD Z<|aQ<|aX<|aB Z<|aD Z<|aQ<|aT<|bF<|aJ ?_;cases h;exact iJ Z
 refine eC<|lJ<|aN<|aX<|aB Z<|jM (aA.fact 0 Z) Z<|cI Z<|aQ ?_;refine eJ h Z (λh=>?_) λh=>?_
 ·refine aX<|aD Z<|aQ<|aT<|aJ ?_;cases h;exact iJ Z
 refine cK<|aX<|aB Z<|cQ h λp h=>aC (bI Z Z (aA.fact 0 Z) Z Z p) Z<|aC (cL Z (aA.fact 0 Z) Z Z Z fN p) Z<|aD Z<|aQ<|aT ?_;cases h;exact iJ Z
end Go.Proofs.YtflciafboapaaaaGreat