/- Models and proofs. Conditions: none. -/
import Derived.Test.YtlkhndebimcbbaaGreatDoorZNRc1
import Derived.Maps.RangeRun
set_option linter.unusedVariables false
set_option linter.unusedSimpArgs false
set_option maxHeartbeats 4000000
set_option maxRecDepth 20000
namespace Go.Sx
open Go.RowKit
section
variable {P:Program} {rd:Option Nat} {c:uZ} {n:Sz} {σ:Fr} {M L M' L':List bE} {Q:Exit->Act->World->Prop} {ops:Array Oper} {rest:List Oper} {K:Act->World->Prop}
variable {d:Option Tmp} {D:Nat} {ty:TypeId} {pos:String} {aft:Array Edge} {g:Option (Nat×Bool)}
variable {α β:Type} {e:dD α} {r:eQ α}
theorem aM.b {A:Nat->Bool} {f a M L:List bE} {j:Nat} {H:List (Nat×List bE×List bE)} (h:A j=true) (k:aM A f a H):aM A f a ((j,M,L)::H):=⟨.inl h,k⟩
theorem aM.h {A:Nat->Bool} {b a M L:List bE} {j:Nat} {H:List (Nat×List bE×List bE)} (h:a_ M b) (f:AZ L a) (k:aM A b a H):aM A b a ((j,M,L)::H):=⟨.inr ⟨h,f⟩,k⟩
theorem aM.z {A:Nat->Bool} {b a:List bE}:aM A b a []:=trivial
theorem Ax.b {A:Nat->Bool} {f a M L:List bE} {j:Nat} {H:List (Nat×List bE×List bE)} (h:A j=true) (k:Ax A M L H):Ax A M L ((j,f,a)::H):=⟨.inl h,k⟩
theorem Ax.h {A:Nat->Bool} {b a M L:List bE} {j:Nat} {H:List (Nat×List bE×List bE)} (h:a_ M b) (f:AZ L a) (k:Ax A M L H):Ax A M L ((j,b,a)::H):=⟨.inr ⟨h,f⟩,k⟩
theorem Ax.z {A:Nat->Bool} {M L:List bE}:Ax A M L []:=trivial
theorem lN {v:Value} {vs:List Value} (h:one v=true) (k:vs.all one=true):(v::vs).all one=true:=by simp[h,k]
theorem dR (k:IntKind) (x:Int):(Value.int k x).cells = #[.int k x]:=rfl
theorem cW (b:Bool):(Value.bool b).cells = #[.bool b]:=rfl
theorem cO (a:Option Addr) (l k:Nat):(Value.slice a l k).cells = #[.slice a l k]:=rfl
theorem dU (a:Option Addr):(Value.pointer a).cells = #[.pointer a]:=rfl
theorem dV (a:ByteArray):(Value.string a).cells = #[.string a]:=rfl
theorem cX (f:Fn) (a b:Array Value):(Value.func f a b).cells = #[.func f a b]:=rfl
theorem Aj (q:Nat) {vs:List Value} {a:List (List α)} {k:Int} {u:Value} (s:M[q]? = some (lK e (vs.set k.toNat u) a)) (h:0<=k∧k<a.length):∀c w,St c M L w->Go.Sx.one u=true:=λc w t=>by
 obtain⟨S,p,x,m,_⟩:=t.res s;have f:k.toNat<vs.length:=by simp at p;omega
 obtain⟨_,_,o⟩:=m k.toNat u _ (by rw[zAm f]) (zA0 (by omega));rcases o with⟨i,_⟩|⟨b,v,j,T,l,i,_⟩<;>(rw[i];rfl)
theorem Wj [cQ P] [Inhabited α] {T o:TypeId} {C:Nat} {z:Value} {l:TypeDesc} {x:Operand} {b k:Nat} {i:Int} {f:List α} {u:Value} (m:ev σ x=some (.pointer (some ⟨b,i.toNat*1,none⟩)))
  (q:aE M L (bV b (cellsOf e f) o)) (v:cQ.tab P T=some ⟨l,1,C,z⟩) (y:xS l=false) (A:e.sz=1) (B:(e.enc (at' f i))=[u]) (h:(0<=i∧i<(k:Int))∧f.length=k):
  Y P c n σ M L ⟨d,.load T x,ty,pos,aft,g⟩ u:=λa w s t=>by
 obtain⟨F,p⟩:=q.st t;have j:=xA e f i.toNat (at' f i) (jW h.1.1 (by omega)) 0 u (by rw[B];rfl);rw[A,Nat.add_zero]at j;rw[Nat.mul_one]at m j;simp[execOp,s.eval m,zO (cQ.ok v) y (bV.cell p j)]
theorem Kn [cQ P] (q:Nat) {T j:TypeId} {B:Nat} {z:Value} {p:TypeDesc} {x y:Operand} {b k:Nat} {i:Int} {a:List α} {u:Value} (o:α) (h:(0<=i∧i<(k:Int))∧a.length=k) (m:ev σ x=some (.pointer (some ⟨b,i.toNat*1,none⟩))) (A:ev σ y=some u)
  (s:M[q]? = some (bV b (cellsOf e a) j)) (w:e.enc o=[u]) (f:one u=true) (t:cQ.tab P T=some ⟨p,1,B,z⟩) (l:e.sz=1)
  (v:J c n σ (M.set q (bV b (cellsOf e (a.set i.toNat o)) j)) L (wpList P ops Q rest)):
  J c n σ M L (wpList P ops Q (⟨none,.store T x y,ty,pos,aft,none⟩::rest)):=by
 rw[Nat.mul_one]at m;refine iC q m A f s t ?_ ?_
 ·have:=eS e a;rw[l]at this;rw[zAy];omega
 ·rw[<-xW l w];exact v
end
end Go.Sx
namespace Go.Sx
abbrev vI (x:Int):Value:= .int .i64 x
abbrev vU (x:Int):Value:= .int .u32 x
abbrev vP (b:Nat):Value:= .pointer (some ⟨b,0,none⟩)
open Go.RowKit
variable {P:Program} {rd:Option Nat} {c:uZ} {n:Sz} {σ:Fr} {M L:List bE} {Q:Exit->Act->World->Prop} {ops:Array Oper} {rest:List Oper} {d:Nat} {ty:TypeId} {pos:String} {aft:Array Edge} {x y:Operand} {v:Value} {K:Act->World->Prop}
theorem aA (h:(ev σ x,Nat.blt d n.sz)=(some v,true)) (k:J c n ((d,v)::σ) M L (wpList P ops Q rest)):J c n σ M L (wpList P ops Q (⟨some d,.move x,ty,pos,aft,none⟩::rest)):=aB (fY (Prod.mk.inj h).1) (Prod.mk.inj h).2 k
theorem aD (h:(ev σ x,Nat.blt d n.sz)=(some v,true)) (k:J c n ((d,v)::σ) M L (wpList P ops Q rest)):J c n σ M L (wpList P ops Q (⟨some d,.assign x,ty,pos,aft,none⟩::rest)):=aB (oZ (Prod.mk.inj h).1) (Prod.mk.inj h).2 k
theorem bX [cQ P] {T:TypeId} {r s i t:Nat} {z w:Value} {e:Array Field} {p u q:String} {m:Bool} {g a j:Nat} {l:TypeDesc} {b o f:Nat} (h:(ev σ x,cQ.tab P T,e[f]?,cQ.tab P g,i==0,Nat.blt d n.sz)=(some (.pointer (some ⟨b,o,none⟩)),some ⟨.struct e,r,s,z⟩,some ⟨p,g,a,m,u,q,j⟩,some ⟨l,i,t,w⟩,false,true)) (k:J c n ((d,.pointer (some ⟨b,o+a,none⟩))::σ) M L (wpList P ops Q rest)):J c n σ M L (wpList P ops Q (⟨some d,.fieldAddr T x f,ty,pos,aft,none⟩::rest)):=by
  simp only[Prod.mk.injEq]at h;exact aB (c_ h.1 h.2.1 h.2.2.1 h.2.2.2.1 h.2.2.2.2.1) h.2.2.2.2.2 k
theorem dQ [cQ P] (i:Nat) {T e:TypeId} {f g:Nat} {z:Value} {a:TypeDesc} {b o:Nat} {cs:List Value} (h:(ev σ x,M[i]?,cQ.tab P T,xS a,cs[o]?,Nat.blt d n.sz)=(some (.pointer (some ⟨b,o,none⟩)),some (bV b cs e),some ⟨a,f,g,z⟩,false,some v,true)) (k:J c n ((d,v)::σ) M L (wpList P ops Q rest)):J c n σ M L (wpList P ops Q (⟨some d,.load T x,ty,pos,aft,none⟩::rest)):=by
  simp only[Prod.mk.injEq]at h;exact aB (eB i h.1 h.2.1 h.2.2.1 h.2.2.2.1 h.2.2.2.2.1) h.2.2.2.2.2 k
theorem dN [cQ P] (i:Nat) {T e:TypeId} {f:Nat} {z:Value} {a:TypeDesc} {b:Nat} {cs:List Value} (h:(ev σ x,M[i]?,cQ.tab P T,xS a,Nat.blt d n.sz)=(some (.pointer (some ⟨b,0,none⟩)),some (bV b cs e),some ⟨a,cs.length,f,z⟩,true,true)) (k:J c n ((d,.agg cs.toArray)::σ) M L (wpList P ops Q rest)):J c n σ M L (wpList P ops Q (⟨some d,.load T x,ty,pos,aft,none⟩::rest)):=by
  simp only[Prod.mk.injEq]at h;exact aB (fJ i h.1 h.2.1 h.2.2.1 h.2.2.2.1) h.2.2.2.2 k
theorem aI {e:Op} {j:Nat} {b a:Bool} (h:(gv ops σ j,a==b,Nat.blt d n.sz)=(some a,false,true)) (k:J c n ((d,undef)::σ) M L (wpList P ops Q rest)):J c n σ M L (wpList P ops Q (⟨some d,e,ty,pos,aft,some (j,b)⟩::rest)):=by
  simp only[Prod.mk.injEq]at h;exact Xy h.1 h.2.1 h.2.2 k
theorem cP {j:Nat} {b:Bool} (h:(gv ops σ j,ev σ x,Nat.blt d n.sz)=(some b,some v,true)) (k:J c n ((d,v)::σ) M L (wpList P ops Q rest)):J c n σ M L (wpList P ops Q (⟨some d,.move x,ty,pos,aft,some (j,b)⟩::rest)):=by
  simp only[Prod.mk.injEq]at h;exact aP h.1 (fY h.2.1) h.2.2 k
theorem cM {t a:TypeId} {i:IntKind} {p q:Int} (h:(ev σ x,ev σ y,Nat.blt d n.sz)=(some (.int i p),some (.int i q),true)) (k:J c n ((d,.bool (decide (p<q)))::σ) M L (wpList P ops Q rest)):J c n σ M L (wpList P ops Q (⟨some d,.binOp .lss t x y a,ty,pos,aft,none⟩::rest)):=by
  simp only[Prod.mk.injEq]at h;exact aB (Hl h.1 h.2.1) h.2.2 k
theorem cS {t a:TypeId} {i:IntKind} {p q:Int} (h:(ev σ x,ev σ y,Nat.blt d n.sz)=(some (.int i p),some (.int i q),true)) (k:J c n ((d,.bool (decide (p=q)))::σ) M L (wpList P ops Q rest)):J c n σ M L (wpList P ops Q (⟨some d,.binOp .eql t x y a,ty,pos,aft,none⟩::rest)):=by
  simp only[Prod.mk.injEq]at h;exact aB (MH h.1 h.2.1) h.2.2 k
theorem cJ {t a:TypeId} {i:IntKind} {p q:Int} (h:(ev σ x,ev σ y,Nat.blt d n.sz)=(some (.int i p),some (.int i q),true)) (k:J c n ((d,.int i (wI i (p+q)))::σ) M L (wpList P ops Q rest)):J c n σ M L (wpList P ops Q (⟨some d,.binOp .add t x y a,ty,pos,aft,none⟩::rest)):=by
  simp only[Prod.mk.injEq]at h;exact aB (Az h.1 h.2.1) h.2.2 k
theorem cdI {e b:Code} {p:Prop} {_:Decidable p} {f:Type} {u w:Option f} {r:f} (h:(if p then u else w)=some r) (j:ev σ x=some (.bool (decide p))) (i:p->u=some r->J c n σ M L (e.wpr rd P Q)) (g:¬p->w=some r->J c n σ M L (b.wpr rd P Q)):J c n σ M L ((Code.cond x e b).wpr rd P Q):=aa_ j (λa=>i a (IA a h)) (λa=>g a (ifN a h))
theorem fD {b a:Code} {p:Prop} {_:Decidable p} {e:Type} {u w:Option e} {r:e} (h:(if p then u else w)=some r) (i:ev σ x=some (.bool (decide p))) (g:u=some r->J c n σ M L (b.wpr rd P Q)) (f:w=some r->J c n σ M L (a.wpr rd P Q)):J c n σ M L ((Code.cond x b a).wpr rd P Q):=cdI h i (λ_=>g) (λ_=>f)
theorem Am {f e:Code} {b:Bool} {g:Type} {u w:Option g} {r:g} (h:(if b=true then u else w)=some r) (k:ev σ x=some (.bool b)) (j:b=true->u=some r->J c n σ M L (f.wpr rd P Q)) (i:b=false->w=some r->J c n σ M L (e.wpr rd P Q)):J c n σ M L ((Code.cond x f e).wpr rd P Q):=NO k (λa=>j a (IA a h)) (λa=>i a (Dw a h))
theorem Eo {d:Option Tmp} {f:Op} {j e:Nat} {p:Prop} {_:Decidable p} {b:Bool} {i:Type} {u w:Option i} {r:i} (h:(if p then u else w)=some r) (g:((ops[j]?).bind (·.dst),lk σ e)=(some e,some (.bool (decide p)))) (l:p->u=some r->J c n ((e,.bool true)::σ) M L (wpList P ops Q (⟨d,f,ty,pos,aft,some (j,b)⟩::rest))) (k:¬p->w=some r->J c n ((e,.bool false)::σ) M L (wpList P ops Q (⟨d,f,ty,pos,aft,some (j,b)⟩::rest))):J c n σ M L (wpList P ops Q (⟨d,f,ty,pos,aft,some (j,b)⟩::rest)):=Xx (Prod.mk.inj g).1 (Prod.mk.inj g).2 (λa=>l a (IA a h)) (λa=>k a (ifN a h))
theorem aN {ops:Array Oper} (h:J c n σ M L K):J c n σ M L (wpList P ops (Exit.then K Q) []):=h
theorem aX {id:Nat} {l:List Oper} {z:Code} (h:J c n σ M L (wpList P l.toArray (Exit.then (z.wpr rd P Q) Q) l)) (a:l.all kC=true:=by rfl):J c n σ M L ((Code.seq (Code.region id l.toArray false) z).wpr rd P Q):=aK (aQ h a)
variable {A B:Type} {ret:Unit->Value} {MO LO:Unit->List bE->List bE} {fn:Func} {C:A->Prop} {σI:A->B->Fr} {MI LI:A->B->List bE}
theorem lA {t:Tmp} (h:(ret (),fn.results,lk σ t,MO () [],LO () [],n.ds)=(v,#[.tmp t],some v,M,[],[])):J c n σ M L (gZ P fn (NS c ret MO LO) .ret):=by
  simp only[Prod.mk.injEq]at h;exact fP () h.1 h.2.1 (RV.tmp h.2.2.1) (h.2.2.2.1▸a_.refl _) (by rw[h.2.2.2.2.1];exact aG.nil) h.2.2.2.2.2
theorem rX {t:Tmp} (h:(ret (),fn.results,lk σ t,MO () [],LO () [],n.ds)=(v,#[.tmp t],some v,[],[],[])):J c n σ M L (gZ P fn (NS c ret MO LO) .ret):=by
  simp only[Prod.mk.injEq]at h;exact fP () h.1 h.2.1 (RV.tmp h.2.2.1) (by rw[h.2.2.2.1];exact a_.nil) (by rw[h.2.2.2.2.1];exact aG.nil) h.2.2.2.2.2
theorem CR {x:Code} (C:A->Prop) (σI:A->B->Fr) (MI:A->B->List bE) (e:J c n σ M L (x.wpr rd P (Exit.then (XL c n C σI MI (λ_ _=>L)) Q))) (f:∀a b,C a->J c n (σI a b) (MI a b) L K):J c n σ M L (x.wpr rd P (Exit.then K Q)):=Bq C σI MI (λ_ _=>L) e f
theorem dX {R:Type} {f:Code} (e:A->(A->Option R)->Option R) {r:R} {U:Nat} (σI:A->B->Fr) (MI:A->B->List bE) (i:A) (j:B) (h:bI e U i=some r) (m:Al σ (σI i j)) (l:a_ M (MI i j)) (g:∀k a b,e a (bI e k)=some r->J c n (σI a b) (MI a b) L (f.wpr rd P (Exit.then (aaZ c n e r σI MI (λ_ _=>L) k) Q))):J c n σ M L ((Code.loop f).wpr rd P Q):=Fq e σI MI (λ_ _=>L) i j h m l (aG.refl _ _) g
theorem dW {x:Code} (C:A->Prop) (σI:A->Unit->Fr) (MI:A->Unit->List bE) (e:J c n σ M L (x.wpr rd P (Exit.then (XL c n C σI MI (λ_ _=>L)) Q))) (f:∀a b,C a->J c n (σI a b) (MI a b) L K):J c n σ M L (x.wpr rd P (Exit.then K Q)):=CR C σI MI e f
theorem cL (h:J c n σ M L K):J c n σ M L (Code.skip.wpr rd P (Exit.then K Q)):=dY h
theorem mN {id:Nat} (h:J c n σ M L K):J c n σ M L (Exit.inBlock id (Exit.then K Q) .normal):=h
theorem e_ {id:Nat} {a b:Act->World->Prop} (h:J c n σ M L K):J c n σ M L ((Code.exit id).wpr rd P (Exit.then a (Exit.then b (Exit.inBlock id (Exit.then K Q))))):=pH (d_ (d_ (u_ (AV h))))
theorem gJ (x:A) (y:B) (a:C x) (b:Al σ (σI x y)) (h:(MI x y,LI x y)=(M,L)):J c n σ M L (XL c n C σI MI LI):=cF x y a b ((Prod.mk.inj h).1▸a_.refl _) ((Prod.mk.inj h).2▸aG.refl _ _)
theorem xR {R:Type} {a:A->(A->Option R)->Option R} {r:R} {k:Nat} (x:A) (y:B) (h:bI a k x=some r) (b:Al σ (σI x y)) (e:(MI x y,LI x y)=(M,L)):J c n σ M L (aaZ c n a r σI MI LI k):=lS x y h b ((Prod.mk.inj e).1▸a_.refl _) ((Prod.mk.inj e).2▸aG.refl _ _)
theorem zBa {A:Type} {ret:A->Value} {MO:A->List bE->List bE} {f:FuncId} {h:List Operand} {vs:List Value} {a:Array TypeId} {e:List bE} {d:Option Tmp} {g:Option (Nat×Bool)} (j:aW P f) (k:aY P f vs.toArray e ret MO (λ_ l=>l)) (m:h.map (ev σ)=vs.map some) (i:aG M L e) (b:∀x l,MO x l=MO x []++l:=by exact λ_ _=>rfl):aO P c n σ M L ⟨d,.call ⟨.value (.func f),h.toArray,a⟩,ty,pos,aft,g⟩ ret (λx=>MO x M) (λ_=>L):=SA j k m i b
variable {l:List Oper} {m:List Nat} {k0:Nat} {Bs:List (Nat×List bE×List bE)} {rs:List Nat} {i:Nat}
theorem bG (h:(l[i]?,ev σ x,Nat.blt i k0,Nat.blt d n.sz)=(some ⟨some d,.move x,ty,pos,aft,none⟩,some v,true,true)) (k:JR c n ((d,v)::σ) M L [] ((i,[],[])::Bs) (RW P l.toArray Q (before m) (cU l) k0 rs)):JR c n σ M L [] Bs (RW P l.toArray Q (before m) (cU l) k0 (i::rs)):=by
  simp only[Prod.mk.injEq]at h;exact bJ h.1 a_.nil AZ.nil (fY h.2.1) aM.z k h.2.2.1 Z h.2.2.2
theorem dB [cQ P] {T:TypeId} {u w j D:Nat} {z F:Value} {e:Array Field} {s E t:String} {r:Bool} {g a p:Nat} {q:TypeDesc} {b o f:Nat} (h:(l[i]?,ev σ x,cQ.tab P T,e[f]?,cQ.tab P g,j==0,Nat.blt i k0,Nat.blt d n.sz)=(some ⟨some d,.fieldAddr T x f,ty,pos,aft,none⟩,some (.pointer (some ⟨b,o,none⟩)),some ⟨.struct e,u,w,z⟩,some ⟨s,g,a,r,E,t,p⟩,some ⟨q,j,D,F⟩,false,true,true)) (k:JR c n ((d,.pointer (some ⟨b,o+a,none⟩))::σ) M L [] ((i,[],[])::Bs) (RW P l.toArray Q (before m) (cU l) k0 rs)):JR c n σ M L [] Bs (RW P l.toArray Q (before m) (cU l) k0 (i::rs)):=by
  simp only[Prod.mk.injEq]at h;exact bJ h.1 a_.nil AZ.nil (c_ h.2.1 h.2.2.1 h.2.2.2.1 h.2.2.2.2.1 h.2.2.2.2.2.1) aM.z k h.2.2.2.2.2.2.1 Z h.2.2.2.2.2.2.2
theorem iZ [cQ P] (p:Nat) {T a:TypeId} {f g:Nat} {z:Value} {e:TypeDesc} {b o:Nat} {cs:List Value} (h:(l[i]?,ev σ x,M[p]?,cQ.tab P T,xS e,cs[o]?,Nat.blt i k0,Nat.blt d n.sz)=(some ⟨some d,.load T x,ty,pos,aft,none⟩,some (.pointer (some ⟨b,o,none⟩)),some (bV b cs a),some ⟨e,f,g,z⟩,false,some v,true,true)) (k:JR c n ((d,v)::σ) M L [] ((i,[bV b cs a],[])::Bs) (RW P l.toArray Q (before m) (cU l) k0 rs)):JR c n σ M L [] Bs (RW P l.toArray Q (before m) (cU l) k0 (i::rs)):=by
  simp only[Prod.mk.injEq]at h;exact bJ h.1 (a_.cons p h.2.2.1 a_.nil) AZ.nil (eB 0 h.2.1 Z h.2.2.2.1 h.2.2.2.2.1 h.2.2.2.2.2.1) aM.z k h.2.2.2.2.2.2.1 Z h.2.2.2.2.2.2.2
theorem mA [cQ P] (p:Nat) {T a:TypeId} {f:Nat} {z:Value} {e:TypeDesc} {b:Nat} {cs:List Value} (h:(l[i]?,ev σ x,M[p]?,cQ.tab P T,xS e,Nat.blt i k0,Nat.blt d n.sz)=(some ⟨some d,.load T x,ty,pos,aft,none⟩,some (.pointer (some ⟨b,0,none⟩)),some (bV b cs a),some ⟨e,cs.length,f,z⟩,true,true,true)) (k:JR c n ((d,.agg cs.toArray)::σ) M L [] ((i,[bV b cs a],[])::Bs) (RW P l.toArray Q (before m) (cU l) k0 rs)):JR c n σ M L [] Bs (RW P l.toArray Q (before m) (cU l) k0 (i::rs)):=by
  simp only[Prod.mk.injEq]at h;exact bJ h.1 (a_.cons p h.2.2.1 a_.nil) AZ.nil (fJ 0 h.2.1 Z h.2.2.2.1 h.2.2.2.2.1) aM.z k h.2.2.2.2.2.1 Z h.2.2.2.2.2.2
end Go.Sx
section
set_option linter.unusedSectionVars false
namespace Go.Sx
open Go.RowKit
section defs
variable {κ ν:Type} [DecidableEq κ]
def EO (a:κ->Value) (b:ν->Value):Nat->List (κ×ν)->List MapEntry
 |_,[]=>[]
 |i,x::xs=>⟨a x.1,b x.2,i⟩::EO a b (i+1) xs
def nC (k:κ):List (κ×ν)->Option ν
 | []=>none
 |x::xs=>if k=x.1 then some x.2 else nC k xs
def DC (k:κ) (v:ν):List (κ×ν)->List (κ×ν)
 | []=>[(k,v)]
 |x::xs=>if k=x.1 then(k,v)::xs else x::DC k v xs
def WE (a:ν->Value) (k:κ):Nat->List (κ×ν)->Option (Nat×Value)
 |_,[]=>none
 |i,x::xs=>if k=x.1 then some (i,a x.2)else WE a k (i+1) xs
theorem Oq (a:ν->Value) (k:κ):∀(i:Nat) (l:List (κ×ν)),(WE a k i l).map (·.2)=(nC k l).map a
 |_,[]=>rfl
 |i,x::xs=>by
  simp only[WE,nC];split
  ·rfl
  ·exact Oq a k (i+1) xs
theorem Lq (a:κ->Value) (b:ν->Value):∀(i:Nat) (l:List (κ×ν)) (x:κ×ν),EO a b i (l++[x])=EO a b i l++[⟨a x.1,b x.2,i+l.length⟩]
 |i,[],x=>rfl
 |i,y::ys,x=>by
  simp only[List.cons_append,EO,Lq a b (i+1) ys x,zAh];rw[show i+1+ys.length=i+(ys.length+1) by omega]
theorem IF (k:κ) (v:ν):∀l:List (κ×ν),nC k l=none->DC k v l=l++[(k,v)]
 | [],_=>rfl
 | x :: xs, h => by
  simp only[nC]at h;split at h
  ·cases h
  ·rename_i a;simp only[DC,if_neg a,IF k v xs h,List.cons_append]
theorem UV (a:κ->Value) (b:ν->Value) (k:κ) (v:ν):∀(i0 i:Nat) (l:List (κ×ν)) (j:Nat) (u:Value),WE b k i l=some (j,u)->
  i<=j∧((EO a b i l)[j - i]?).map (·.key)=some (a k)∧EO a b i (DC k v l)=(EO a b i l).modify (j - i) (λe=>{e with key:=a k,val:=b v})∧(DC k v l).length=l.length
 |_,i,[],j,u,h=>by simp[WE]at h
 | i0, i, x :: xs, j, u, h => by
  simp only[WE]at h;split at h
  ·rename_i n;simp only[Option.some.injEq,Prod.mk.injEq]at h;obtain⟨rfl,_⟩:=h;simp[EO,DC,n]
  ·rename_i c;obtain⟨o,f,g,m⟩:=UV a b k v i0 (i+1) xs j u h;have d:j - i=(j - (i+1))+1:=by omega
   refine⟨by omega,?_,?_,?_⟩
   ·rw[d];simpa [EO]using f
   ·simp only[DC,if_neg c,EO];rw[d,List.modify_succ_cons,g]
   ·simp[DC,c,m]
end defs
structure Kp (P:Program) (kt:TypeId) {κ:Type} [DecidableEq κ] (ek:κ->Value):Prop where
 chk:∀b k w,(Instr.checkKey b 10000 kt (ek k)).run P w = .ok () w
 find:∀{ν:Type} (ev:ν->Value) (k:κ) (l:List (κ×ν)) w,(Instr.findKey kt (ek k) (EO ek ev 0 l)).run P w = .ok (WE ev k 0 l) w
 same:∀k,Instr.sameBits 10000 (ek k) (ek k)=true
def Mp {b c:Type} (d:b->Value) (e:c->Value) (r:Nat) (l:List (b×c)):bE where
 p w F:=F r∧w.heap[r]? = some (.map (EO d e 0 l).toArray l.length)
 mono:=fun⟨f,a⟩ h=>by
  obtain⟨g,i⟩:=h r f (zAb.1 a).1;exact⟨g,by rw[i];exact a⟩
section
variable {P:Program} {rd:Option Nat} {c:uZ} {n:Sz} {σ:Fr} {M L:List bE} {Q:Exit->Act->World->Prop} {ops:Array Oper} {rest:List Oper}
variable {d:Option Tmp} {ty:TypeId} {pos:String} {aft:Array Edge} {g:Option (Nat×Bool)}
theorem St.push {w:World} (t:St c M L w) (o:Obj) {m:bE} (z:m.p (w.alloc o) (λk=>k=w.heap.size)):St c (m::M) L (w.alloc o):=by
 have e:NN w (w.alloc o):=(Below.refl _ _).alloc (zAf _) _;obtain⟨v,F,b,x⟩:=t;have u:∀k,k<w.heap.size->(w.alloc o).heap[k]? = w.heap[k]? := e.block;refine⟨v.trans e,λi k=>match i with|0=>k=w.heap.size|i+1=>F i k,⟨?_,?_,?_⟩,λf y=> ?_⟩
 ·intro i A a;cases i with
  |zero=>simp at a;subst a;exact z
  |succ i=>exact bE.same (b.res i A (by simpa using a)) (λ_ h=>h) (λk _ s=>u k s)
 ·intro i k q;cases i with
  |zero=>subst q;exact⟨.inl v.size,by simp⟩
  |succ i=>exact⟨(b.rng i k q).1,zAs (b.rng i k q).2 e.size⟩
 ·intro i j k l r;cases i with
  |zero=>
   cases j with
   |zero=>rfl
   |succ j=>have:=(b.rng j k r).2;simp only at l;omega
  |succ i=>
   cases j with
   |zero=>have:=(b.rng i k l).2;simp only at r;omega
   |succ j=>exact congrArg (· + 1) (b.dis i j k l r)
 ·exact f.mono (x f y) λk q s=>⟨⟨q.1,λi l=>by
   cases i with
   |zero=>simp only at l;omega
   |succ i=>exact q.2 i l⟩,u k s⟩
variable {κ ν:Type} [DecidableEq κ] {ek:κ->Value} {ev:ν->Value}
theorem aO.makeMap (ek:κ->Value) (ev:ν->Value) {T:TypeId}:aO P c n σ M L ⟨d,.makeMap T none,ty,pos,aft,g⟩ (λr:Nat=> .map (some r)) (λr=>Mp ek ev r []::M) (λ_=>L):=λa w s t=>by
 have b:(execOp a.eval ⟨d,.makeMap T none,ty,pos,aft,g⟩).run P w = .ok (.value (.map (some w.heap.size))) (w.alloc (.map #[] 0)):=by
  simp[execOp,Instr.makeMap]
 simp only[Oper.wp,b,Oper.upon];exact⟨w.heap.size,rfl,t.push _ ⟨rfl,heap_alloc_new w _⟩⟩
theorem TT [cQ P] {T j m:TypeId} {C D E G:Nat} {z f:Value} {o:TypeDesc} {w:World} {r:Nat} {l:List (κ×ν)} {F:Nat->Prop} (i:Kp P j ek) (q:(Mp ek ev r l).p w F)
  (s:cQ.tab P T=some ⟨.map j m,C,D,z⟩) (t:cQ.tab P m=some ⟨o,E,G,f⟩) (k:κ) (b:Bool):
  (Instr.lookup T (.map (some r)) (ek k) b).run P w = .ok (if b then .tuple #[((nC k l).map ev).getD f,.bool (nC k l).isSome]else((nC k l).map ev).getD f) w:=by
 have y:(getObj r).run P w = .ok (.map (EO ek ev 0 l).toArray l.length) w:=by
  simp[getObj,Sem.run,q.2]
 have u:=i.find ev k l w;have a:=Oq ev k 0 l;simp only[Instr.lookup];simp[(cQ.ok s).run_und w,y,i.chk,u];cases e:WE ev k 0 l with
 |none=>
  rw[e]at a;have:nC k l=none:=by cases h:nC k l<;>simp[h]at a ⊢
  simp[this,(cQ.ok t).run_zero w]
 | some x =>
  rw[e]at a;obtain⟨v,A,B⟩:∃v,nC k l=some v∧ev v=x.2:=by
   cases h:nC k l with
   |none=>simp[h]at a
   |some v=>simp[h]at a;exact⟨v,rfl,a.symm⟩
  simp[A,B]
theorem Qa [cQ P] (j:Nat) {T e f:TypeId} {D E G H:Nat} {z h:Value} {i:TypeDesc} {x y:Operand} {r:Nat} {l:List (κ×ν)} (k:κ) {b:Bool} (v:Kp P e ek) (B:Go.Sx.ev σ x=some (.map (some r))) (C:Go.Sx.ev σ y=some (ek k)) (q:M[j]? = some (Mp ek ev r l))
  (o:cQ.tab P T=some ⟨.map e f,D,E,z⟩) (p:cQ.tab P f=some ⟨i,G,H,h⟩) {u:Value} (A:((nC k l).map ev).getD h=u):
  Y P c n σ M L ⟨d,.lookup T x y b,ty,pos,aft,g⟩ (if b then .tuple #[u,.bool (nC k l).isSome]else u):=λa w s t=>by
 obtain⟨F,m⟩:=t.res q;subst A;simp[execOp,s.eval B,s.eval C,TT v m o p]
theorem ES {w:World} {r:Nat} {a:Array MapEntry} {k:Nat} (h:w.heap[r]? = some (.map a k)) (o:Obj):(setObj r o).run P w = .ok () {w with heap:=w.heap.setIfInBounds r o}:=by
 simp[setObj,Sem.run,h]
theorem St.setMap {w:World} (t:St c M L w) {j r:Nat} {l b:List (κ×ν)} (f:M[j]? = some (Mp ek ev r l)) (o:Obj) (m:o = .map (EO ek ev 0 b).toArray b.length):
  St c (M.set j (Mp ek ev r b)) L {w with heap:=w.heap.setIfInBounds r o}:=
 t.upd f Z Z Z (by simp) λF a _=>⟨λk _ i=>by
   rw[zB1 (λe=>i (by subst e;exact a.1))],F,⟨a.1,by
    rw[zB6 (zAb.1 a.2).1,m]⟩,λ_ h=> .inl h⟩
theorem Pt [cQ P] (j:Nat) {T R vt:TypeId} {s1 s2:Nat} {z:Value} {x y v:Operand} {r:Nat} {l:List (κ×ν)} (k:κ) (f:ν) (C:Kp P R ek) (Y:Go.Sx.ev σ x=some (.map (some r))) (hy:Go.Sx.ev σ y=some (ek k)) (X:Go.Sx.ev σ v=some (ev f)) (K:M[j]? = some (Mp ek ev r l))
  (I:cQ.tab P T=some ⟨.map R vt,s1,s2,z⟩) (h:J c n σ (M.set j (Mp ek ev r (DC k f l))) L (wpList P ops Q rest)):
  J c n σ M L (wpList P ops Q (⟨none,.mapUpdate T x y v,ty,pos,aft,none⟩::rest)):=λa w s t=>by
 refine mY Z ?_;obtain⟨F,E⟩:=t.res K;have N:(getObj r).run P w = .ok (.map (EO ek ev 0 l).toArray l.length) w:=by
  simp[getObj,Sem.run,E.2]
 have b:=C.find ev k l w;have A:=Oq ev k 0 l;have B:∃o:Obj,(execOp a.eval ⟨none,.mapUpdate T x y v,ty,pos,aft,none⟩).run P w = .ok .skip {w with heap:=w.heap.setIfInBounds r o}∧o = .map (EO ek ev 0 (DC k f l)).toArray (DC k f l).length:=by
  simp only[execOp,s.eval Y,s.eval hy,s.eval X,Instr.mapUpdate];cases m:WE ev k 0 l with
  |none=>
   rw[m]at A b;have U:nC k l=none:=by cases h:nC k l<;>simp[h]at A ⊢
   refine⟨.map (EO ek ev 0 l++[(⟨ek k,ev f,l.length⟩:MapEntry)]).toArray (l.length+1),by simp[(cQ.ok I).run_und w,N,C.chk,b,ES E.2],?_⟩
   rw[IF k f l U,Lq];simp
  | some q =>
   obtain⟨i,u⟩:=q;rw[m]at b;obtain⟨_,D,H,S⟩:=UV ek ev k f 0 0 l i u m;rw[Nat.sub_zero]at D H;have O:(((EO ek ev 0 l).toArray[i]?).map (·.key)).getD (ek k)=ek k:=by
    rw[List.getElem?_toArray,D];rfl
   refine⟨.map ((EO ek ev 0 l).toArray.modify i λe=>{e with key:=ek k,val:=ev f}) l.length,?_,?_⟩
   ·have G:(Instr.keyThatStays (ek k) (ek k)).run P w = .ok (ek k) w:=by simp[Instr.keyThatStays,C.same k]
    have p:(Option.map (λx=>x.key) (EO ek ev 0 l)[i]?).getD (ek k)=ek k:=by rw[D];rfl
    simp[(cQ.ok I).run_und w,N,C.chk,b,p,G,ES E.2]
   ·rw[H,S];simp
 obtain⟨o,W,V⟩:=B;simp only[Oper.wp,W,Oper.upon];exact h _ _ s (t.setMap K o V)
end
end Go.Sx
end
section
set_option linter.unusedSectionVars false
namespace Go.Sx
open Go.RowKit Go.ChangeMaps
def It (b m a:Nat) (c:List Nat):bE where
 p w F:=F b∧w.heap[b]? = some (.mapIter (some m) a c.toArray a)
 mono:=fun⟨e,d⟩ h=>by
  obtain⟨f,g⟩:=h b e (zAb.1 d).1;exact⟨f,by rw[g];exact d⟩
section
variable {κ ν:Type} [DecidableEq κ] {ek:κ->Value} {ev:ν->Value} {R:Type}
theorem OG (ek:κ->Value) (ev:ν->Value):∀(k:Nat) (l:List (κ×ν)) (e:MapEntry),e∈EO ek ev k l->∃i a,l[i]? = some a∧e=⟨ek a.1,ev a.2,k+i⟩
 |_,[],e,h=>by simp[EO]at h
 | k, x :: xs, e, h => by
  rcases zAo.1 h with rfl|h
  ·exact⟨0,x,rfl,rfl⟩
  ·obtain⟨i,a,b,c⟩:=OG ek ev (k+1) xs e h;exact⟨i+1,a,b,by rw[c,show k+1+i=k+(i+1) by omega]⟩
theorem OE (ek:κ->Value) (ev:ν->Value):∀(k:Nat) (l:List (κ×ν)) (i:Nat) (a:κ×ν),l[i]? = some a->(⟨ek a.1,ev a.2,k+i⟩:MapEntry)∈EO ek ev k l
 |_,[],i,a,h=>by simp at h
 |k,x::xs,0,a,h=>by simp at h;subst h;exact zA7
 |k,x::xs,i+1,a,h=>by
  have:=OE ek ev (k+1) xs i a (by simpa using h);rw[show k+1+i=k+(i+1) by omega]at this;exact zAe _ this
theorem QO (ek:κ->Value) (ev:ν->Value):∀(k:Nat) (l:List (κ×ν)),(EO ek ev k l).map (·.born)=List.range' k l.length
 |_,[]=>rfl
 |k,x::xs=>by simp[EO,QO ek ev (k+1) xs,List.range'_succ]
def Mn (a:κ×ν->Option R->Option R) (K:Option R) (l:List (κ×ν)):Option R:=l.foldr a K
def rem (l:List (κ×ν)) (a:List Nat):List (κ×ν):=((List.range l.length).filter (λi=> !a.contains i)).filterMap (λi=>l[i]?)
theorem Nm:∀l:List (κ×ν),(List.range l.length).filterMap (λi=>l[i]?)=l
 | []=>rfl
 |x::xs=>by
  rw[zAh,List.range_succ_eq_map,List.filterMap_cons];simp only[List.getElem?_cons_zero,List.filterMap_map];congr 1;have:=Nm xs;simpa [Function.comp_def]using this
theorem adg (l:List (κ×ν)):rem l []=l:=by
 unfold rem;rw[List.filter_eq_self.2 (by simp),Nm]
theorem aaa {l:List (κ×ν)} {a:List Nat} {i:Nat} {m:κ×ν} (k:l[i]? = some m) (t:i∉a):∃n o,rem l a=n++m::o∧rem l (a++[i])=n++o:=by
 have g:=bH k;have d:i∈(List.range l.length).filter (λi=> !a.contains i):=by simp[g,t]
 obtain⟨A,B,b⟩:=List.append_of_mem d;have c:((List.range l.length).filter (λi=> !a.contains i)).Nodup:=List.Pairwise.filter _ List.nodup_range;rw[b]at c;have r:i∉A:=λh=>by
  have:=(List.nodup_append.1 c).2.2 i h i zA7;exact this Z
 have s:i∉B:=λh=>by
  have:=(zB8.1 (List.nodup_append.1 c).2.1).1;exact this h
 refine⟨A.filterMap (λi=>l[i]?),B.filterMap (λi=>l[i]?),?_,?_⟩
 ·unfold rem;rw[b,List.filterMap_append,List.filterMap_cons,k]
 ·unfold rem;have e:(List.range l.length).filter (λj=> !(a++[i]).contains j)=((List.range l.length).filter (λj=> !a.contains j)).filter (λj=>decide (j≠i)):=by
   rw[List.filter_filter];apply List.filter_congr;intro j _;rw[Bool.eq_iff_iff];simp[and_comm]
  rw[e,b,List.filter_append,List.filter_cons];have p:A.filter (λj=>decide (j≠i))=A:=List.filter_eq_self.2 (λj f=>by simp;rintro rfl;exact r f);have q:B.filter (λj=>decide (j≠i))=B:=List.filter_eq_self.2 (λj f=>by simp;rintro rfl;exact s f);rw[p,q,List.filterMap_append.symm];simp
theorem Nk {c:κ×ν->Option R->Option R} (f:∀a b x,c a (c b x)=c b (c a x)) (K:Option R) (d:κ×ν) (e:List (κ×ν)):∀g:List (κ×ν),Mn c K (g++d::e)=c d (Mn c K (g++e))
 | []=>rfl
 |x::xs=>by
  have:=Nk f K d e xs;unfold Mn at this ⊢;rw[List.cons_append,List.cons_append,List.foldr_cons,List.foldr_cons,this,f]
end
section
variable {P:Program} {rd:Option Nat} {c:uZ} {n:Sz} {σ σ':Fr} {M L M' L':List bE} {Q:Exit->Act->World->Prop} {ops:Array Oper} {rest:List Oper}
variable {d:Option Tmp} {ty:TypeId} {pos:String} {aft:Array Edge} {g:Option (Nat×Bool)}
variable {κ ν:Type} [DecidableEq κ] {ek:κ->Value} {ev:ν->Value} {R:Type}
theorem aO.range [cQ P] (j:Nat) {T f h:TypeId} {q r:Nat} {z:Value} {x:Operand} {m:Nat} {l:List (κ×ν)} (p:Go.Sx.ev σ x=some (.map (some m))) (o:M[j]? = some (Mp ek ev m l)) (k:cQ.tab P T=some ⟨.map f h,q,r,z⟩):
  aO P c n σ M L ⟨d,.range T x,ty,pos,aft,g⟩ (λb:Nat=> .pointer (some ⟨b,0,none⟩)) (λb=>It b m l.length []::M) (λ_=>L):=λa w s t=>by
 obtain⟨F,i⟩:=t.res o;have e:(execOp a.eval ⟨d,.range T x,ty,pos,aft,g⟩).run P w = .ok (.value (.pointer (some ⟨w.heap.size,0,none⟩))) (w.alloc (.mapIter (some m) l.length #[] l.length)):=by
  simp[execOp,s.eval p,run_range_map w T f h m _ _ (cQ.ok k).und i.2]
 simp only[Oper.wp,e,Oper.upon];exact⟨w.heap.size,rfl,t.push _ ⟨rfl,heap_alloc_new w _⟩⟩
def HD (ek:κ->Value) (ev:ν->Value) (l:List (κ×ν)):Option Nat->Value
 |none=> .tuple #[.bool false]
 |some i=>match l[i]? with
  |some a=> .tuple #[.bool true,ek a.1,ev a.2]
  |none=>undef
def af_ (b:Nat) (a:List Nat):Option Nat->Prop
 |none=>∀i,i<b->i∈a
 |some i=>i<b∧i∉a
def Vl (M:List bE) (f b m e:Nat) (a:List Nat):Option Nat->List bE
 |none=>M
 |some i=>M.set f (It b m e (a++[i]))
theorem St.pureL {w:World} {p:Prop} (hp:p) (t:St c M L w):St c M (aek p::L) w:=by
 obtain⟨ho,F,hF,hL⟩:=t;refine⟨ho,F,hF,λf hf=> ?_⟩
 rcases zAo.1 hf with rfl|hf
 ·exact hp
 ·exact hL f hf
theorem aO.next (jm ji:Nat) {x:Operand} {b m:Nat} {l:List (κ×ν)} {seen:List Nat} (hx:Go.Sx.ev σ x=some (.pointer (some ⟨b,0,none⟩))) (hf:M[jm]? = some (Mp ek ev m l)) (hi:M[ji]? = some (It b m l.length seen)):
  aO P c n σ M L ⟨d,.next x false,ty,pos,aft,g⟩ (HD ek ev l) (Vl M ji b m l.length seen) (λo=>aek (af_ l.length seen o)::L):=λa w s t=>by
 obtain⟨F,hF⟩:=t.res hf;obtain⟨G,hG⟩:=t.res hi;have hold:∀e∈(EO ek ev 0 l).toArray.toList,e.born<l.length:=λe he=>by
  obtain⟨i,kv,h1,h2⟩:=OG ek ev 0 l e (by simpa using he);rw[h2];have:=bH h1;simp;omega
 rcases run_next_at (P:=P) w ty b m l.length l.length seen.toArray (EO ek ev 0 l).toArray l.length hG.2 hF.2 hold (zAf _)with⟨h0,hr⟩|⟨e,he,w1,hw1,hr⟩
 ·have hrun:(execOp a.eval ⟨d,.next x false,ty,pos,aft,g⟩).run P w = .ok (.value (.tuple #[.bool false])) w:=by
   simp[execOp,s.eval hx,hr]
  simp only[Oper.wp,hrun,Oper.upon];refine⟨none,rfl,t.pureL λi hi'=> ?_⟩
  obtain⟨kv,hkv⟩:∃kv,l[i]? = some kv:=⟨_,zA0 hi'⟩
  have:=all_seen _ _ h0 _ (by simpa using OE ek ev 0 l i kv hkv);simpa using this
 ·have hml:=_root_.Go.mem_left he;obtain⟨i,kv,h1,h2⟩:=OG ek ev 0 l e (by simpa using hml.1);subst h2;rw[Nat.zero_add]at hr hml;have hrun:(execOp a.eval ⟨d,.next x false,ty,pos,aft,g⟩).run P w = .ok (.value (.tuple #[.bool true,ek kv.1,ev kv.2])) (setBlock w1 b (.mapIter (some m) l.length (seen.toArray.push i) l.length)):=by
   simp[execOp,s.eval hx,hr]
  simp only[Oper.wp,hrun,Oper.upon];have t1:St c M L w1:=by
   rcases hw1 with rfl|rfl
   ·exact t
   ·exact t.ext ((Below.refl _ _).drew)
  refine⟨some i,by simp[HD,h1],St.pureL ⟨bH h1,by simpa using hml.2⟩ ?_⟩
  refine t1.upd hi Z Z Z (by simp[setBlock]) λF hF _=>⟨λk _ hk=> ?_,F,⟨hF.1,?_⟩,λ_ h=> .inl h⟩
  ·simp only[setBlock];rw[zB1 (λe=>hk (by subst e;exact hF.1))]
  ·simp only[setBlock];rw[zB6 (zAb.1 hF.2).1];simp
theorem aO.entry (A z:Nat) {x:Operand} {b m i:Nat} {l:List (κ×ν)} {f:List Nat} {e:κ×ν} (j:l[i]? = some e) (y:Go.Sx.ev σ x=some (.pointer (some ⟨b,0,none⟩))) (q:M[A]? = some (Mp ek ev m l)) (r:M[z]? = some (It b m l.length (f++[i]))):
  aO P c n σ M L ⟨d,.entry x,ty,pos,aft,g⟩ (λ_:Unit=> .tuple #[ek e.1,ev e.2]) (λ_=>M) (λ_=>L):=λa w s t=>by
 obtain⟨F,o⟩:=t.res q;obtain⟨G,p⟩:=t.res r;have k:=OE ek ev 0 l i e j;rw[Nat.zero_add]at k;have u:((EO ek ev 0 l).toArray.toList.map (·.born)).Nodup:=by
  simp only[QO];exact List.nodup_range'
 have v:=run_entry_at (P:=P) w b m l.length f.toArray (EO ek ev 0 l).toArray l.length ⟨ek e.1,ev e.2,i⟩ (by rw[p.2];simp) o.2 (by simpa using k) u;have h:(execOp a.eval ⟨d,.entry x,ty,pos,aft,g⟩).run P w = .ok (.value (.tuple #[ek e.1,ev e.2])) w:=by
  simp[execOp,s.eval y,v]
 simp only[Oper.wp,h,Oper.upon];exact⟨(),by first|rfl|trivial,t⟩
theorem abc {G:Act->World->Prop} (σ':Fr) (M' L':List bE) (f:Al σ σ') (e:a_ M M') (b:aG [] L L') (h:J c n σ' M' L' G):J c n σ M L G:=λa w s t=>h a w (s.weak f) (t.weakE e b)
theorem Sy {e:TypeId} {d:TypeDesc} (p:P.underlying e=some d) (m:∀b k w,(Instr.checkKey b 10000 e (ek k)).run P w = .ok () w) (o:∀a b,Instr.sameNow d (ek a) (ek b)=none)
  (r:∀a b w,(Op.equal e (ek a) (ek b)).run P w = .ok (decide (a=b)) w) (f:∀k,Instr.sameBits 10000 (ek k) (ek k)=true):Kp P e ek:=by
 refine⟨m,λ{ν'} ev' k l w=> ?_,f⟩
 have j:∀(l:List (κ×ν')) (i:Nat),(Instr.findAsking e (ek k) (EO ek ev' i l) i).run P w = .ok (WE ev' k i l) w:=by
  intro l
  induction l with
  |nil=>intro i;simp[EO,WE,Instr.findAsking]
  |cons x q t=>
   intro i;simp only[EO,WE,Instr.findAsking];simp[r];by_cases h:k=x.1
   ·simp[h]
   ·simp[h,t]
 unfold Instr.findKey;cases l with
 |nil=>simp[EO,WE,Instr.findNow,run_underlying p w]
 |cons x q=>
  have s:Instr.findNow d (ek k) (EO ek ev' 0 (x::q)) 0=none:=by simp[EO,Instr.findNow,o]
  simp[run_underlying p w,s,j]
def XK {R:Type} (c:uZ) (n:Sz) (σ:Fr) (M L:List bE) (x:Option R) (r:R) (a:Act) (w:World):Prop:=x=some r∧Gt n σ a∧St c M L w
theorem Sv {R:Type} {x:Option R} {r:R} (h:x=some r) (e:Al σ' σ) (b:a_ M' M) (a:aG [] L' L):J c n σ' M' L' (XK c n σ M L x r):=λ_ _ s t=>⟨h,s.weak e,t.weakE b a⟩
theorem VZ (p:κ×ν->Option R->Option R) {K:Option R} {r:R} (O s:Nat) {b m:Nat} {l:List (κ×ν)} (hc:∀a b x,p a (p b x)=p b (p a x)) (h:Mn p K l=some r)
  (hf:M[O]? = some (Mp ek ev m l)) (U:M[s]? = some (It b m l.length [])) (af:Nat.beq s O=false) {t0 S T:Tmp} (hx:lk σ t0=some (.pointer (some ⟨b,0,none⟩))) (ab:Nat.blt S n.sz=true) (E:Nat.blt T n.sz=true)
  {id ex:Nat} {y1 y2:TypeId} {q1 q2:String} {f1 f2:Array Edge} {y:Code}
  (C:∀(t:κ×ν) (i:Nat) (k:List Nat) (x:Option R),l[i]? = some t->p t x=some r->
   J c n ((T,.bool true)::(S,.tuple #[.bool true,ek t.1,ev t.2])::σ) (M.set s (It b m l.length (k++[i]))) L (y.wpr rd P (Exit.then (XK c n σ (M.set s (It b m l.length (k++[i]))) L x r) Q)))
  (V:∀k,K=some r->J c n ((T,.bool false)::(S,.tuple #[.bool false])::σ) (M.set s (It b m l.length k)) L (Q (.exit ex))):
  J c n σ M L ((Code.loop (Code.seq (Code.region id [⟨some S,.next (.tmp t0) false,y1,q1,f1,none⟩,⟨some T,.extract (.tmp S) 0,y2,q2,f2,none⟩].toArray false) (Code.seq (Code.cond (.tmp T) .skip (.exit ex)) y))).wpr rd P Q):=by
 have z:=bH U;have ae:O≠s:=λe=>by subst e;simp at af
 have H:M.set s (It b m l.length [])=M:=by
  apply List.ext_getElem?;intro q;by_cases eq:q=s
  ·subst eq;rw[zAm z,U]
  ·rw[zAv (Ne.symm eq)]
 refine XA (X:=List Nat) (λk=>k.Nodup∧(∀i∈k,i<l.length)∧Mn p K (rem l k)=some r) (λ_=>σ) (λk=>M.set s (It b m l.length k)) (λ_=>L) (λk=>l.length - k.length) [] ⟨List.nodup_nil,by simp,by rw[adg];exact h⟩ (Al.refl _) (by rw[H];exact a_.refl _) (λ_ h=>h) ?_;rintro k ⟨G,F,v⟩;have ac:(M.set s (It b m l.length k))[O]? = some (Mp ek ev m l):=by rw[zAv (Ne.symm ae)];exact hf
 have ad:(M.set s (It b m l.length k))[s]? = some (It b m l.length k):=zAm z;refine aK (aQ (aH (aO.next O s (x:= .tmp t0) hx ac ad) ab λo=> ?_));refine aeh zA7 λho=> ?_;refine aej (M':=Vl (M.set s (It b m l.length k)) s b m l.length k o) (L':=L) ?_ (Al.refl _) (a_.refl _) (λf hf=>zAe _ hf);cases o with
 | none =>
  refine aB (qF (vs:=[.bool false]) (by simp[HD,lk,Go.Sx.ev]) Z) E (eM (AV (aK (JF (by simp[lk,Go.Sx.ev]) (pH (d_ (d_ ?_)))))));refine V k ?_;have:rem l k=[]:=by
   unfold rem;rw[List.filter_eq_nil_iff.2 (λi U=>by simpa using ho i (by simpa using U))];rfl
  rw[this]at v;exact v
 | some i =>
  obtain⟨W,Y⟩:=ho;obtain⟨t,A⟩:∃t,l[i]? = some t:=⟨_,zA0 W⟩
  have N:HD ek ev l (some i) = .tuple #[.bool true,ek t.1,ev t.2]:=by simp[HD,A]
  obtain⟨l1,l2,e1,e2⟩:=aaa A Y;have B:p t (Mn p K (rem l (k++[i])))=some r:=by
   rw[e2,<-Nk hc K t l2 l1,<-e1];exact v
  have aa:Vl (M.set s (It b m l.length k)) s b m l.length k (some i)=M.set s (It b m l.length (k++[i])):=by simp[Vl]
  rw[N,aa];refine aB (qF (vs:=[.bool true,ek t.1,ev t.2]) (by simp[lk,Go.Sx.ev]) Z) E (eM (AV (aK (Up (by simp[lk,Go.Sx.ev]) (dY (AV ?_))))));refine XC (C t i k _ A B) λa w hw=>Ib (λe a' w' q=> ?_) hw;cases e with
  | normal =>
   obtain⟨ai,ag,ah⟩:=q;refine⟨k++[i],⟨?_,?_,ai⟩,?_,ag,ah⟩
   ·rw[List.nodup_append];exact⟨G,by simp,λa ha b D=>by simp at D;subst D;rintro rfl;exact Y ha⟩
   ·intro j u;rcases List.mem_append.1 u with u|u
    ·exact F j u
    ·simp at u;subst u;exact W
   ·have:k.length<l.length:=by
     have I:(k++[i]).length<=(List.range l.length).length:=by
      apply List.Nodup.length_le_of_subset
      ·rw[List.nodup_append];exact⟨G,by simp,λa ha b D=>by simp at D;subst D;rintro rfl;exact Y ha⟩
      ·intro j u;rcases List.mem_append.1 u with u|u
       ·simpa using F j u
       ·simp at u;subst u;simpa using W
     simp at I;omega
    simp;omega
  |exit id=>exact q
  |goto l=>exact q
  |ret=>exact q
  |panic ch=>exact q
  |outgrown=>exact q
end
end Go.Sx
end
namespace Go.Sx
open Go.RowKit
section
variable {P:Program} {rd:Option Nat} {c:uZ} {n:Sz} {σ σ':Fr} {M L M' L':List bE} {Q:Exit->Act->World->Prop} {ops:Array Oper} {rest:List Oper} {K:Act->World->Prop} {G:Act->World->Prop}
variable {d:Option Tmp} {D:Nat} {ty:TypeId} {pos:String} {aft:Array Edge} {g:Option (Nat×Bool)}
variable {α β:Type} {e:dD α} {r:eQ α}
def Gr (P:Program) (f:FuncId) (a:Array Value) (Min L:List bE) {A:Type} (b:A->Value) (h:A->List bE->List bE):Prop:=
 ∀c:uZ,St c Min L c.w0->Calls P f a c.w0 λe i=>∃x:A,e = .returned (b x)∧St c (h x []) [] i
theorem Gr.of {A:Type} {b:A->Value} {q:A->List bE->List bE} {f:FuncId} {i:Func} {a:Code} {vs:List Value} {m:Nat} {Min:List bE}
  (u:P.funcs[f]? = some i) (s:i.body=some a) (x:i.ntmps=m) (w:Nat.ble vs.length m=true)
  (h:∀c:uZ,J c ⟨m,[]⟩ (x_ 0 vs) Min L (a.wpr none P (gZ P i (NS c b q (λ_ l=>l))))):Gr P f vs.toArray Min L b q:=λc t=>by
 have o:vs.length<=m:=by simpa using w
 refine uC u s (h c _ _ ⟨rfl,by simp[x,o],?_⟩ t);intro t v y;obtain⟨_,j⟩:=EK vs 0 t v y;rw[Nat.sub_zero]at j;have p:t<vs.length:=by
  rcases zAq t vs.length with k|k
  ·exact k
  ·rw[zAp k]at j;cases j
 rw[zB9 (by simpa using p)];simpa using j
theorem XU {w S:World} {l H v:List bE} {F:Nat->Nat->Prop} {U:Nat->Prop} (y:CB c.O c.w0 w) (o:Own c w (l++H) F) (Y:∀f∈L,f.p w (Ei c F))
  (t:St ⟨w,U,λk=>∃i,i<l.length∧F i k⟩ v [] S):St c (v++H) L S:=by
 obtain⟨s,T,u,_⟩:=t;have C:=s.size;have x:∀k,k<w.heap.size->(∀i,i<l.length->¬F i k)->S.heap[k]? = w.heap[k]? := λk a hn=>s.block k a (fun⟨i,B,o⟩=>hn i B o);have b:∀i k,T i k->w.heap.size<=k∨∃j,j<l.length∧F j k:=λi k a=>(u.rng i k a).1;refine⟨⟨s.os.trans y.os,s.tape.trans y.tape,s.output.trans y.output,zB5 y.size C,λk a W=> ?_⟩,
  λi k=>(i<v.length∧T i k)∨(v.length<=i∧F (i - v.length+l.length) k),⟨?_,?_,?_⟩,λf hf=> ?_⟩
 ·refine(x k (zAs a y.size) (λi _ I=> ?_)).trans (y.block k a W);rcases(o.rng i k I).1 with h|h
  ·omega
  ·exact W h
 ·intro i m E;by_cases B:i<v.length
  ·rw[zAa B]at E;exact bE.same (u.res i m E) (λk a=> .inl ⟨B,a⟩) (λ_ _ _=>rfl)
  ·rw[zA9 (by omega)]at E;have R:(l++H)[i - v.length+l.length]? = some m:=by
    rw[zA9 (by omega),Nat.add_sub_cancel];exact E
   exact bE.same (o.res _ m R) (λk a=> .inr ⟨by omega,a⟩) (λk a N=>x k N (λj X J=>by have:=o.dis _ _ k J a;omega))
 ·rintro i k (⟨_,a⟩|⟨_,a⟩)
  ·refine⟨?_,(u.rng i k a).2⟩
   rcases b i k a with h|⟨j,_,h⟩
   ·exact .inl (zB5 y.size h)
   ·exact(o.rng j k h).1
  ·exact⟨(o.rng _ k a).1,zAs (o.rng _ k a).2 C⟩
 ·rintro i j k (⟨B,z⟩|⟨B,z⟩) (⟨X,A⟩|⟨X,A⟩)
  ·exact u.dis i j k z A
  ·rcases b i k z with h|⟨q,hq,h⟩
   ·have:=(o.rng _ k A).2;omega
   ·have:=o.dis _ _ k h A;omega
  ·rcases b j k A with h|⟨q,hq,h⟩
   ·have:=(o.rng _ k z).2;omega
   ·have:=o.dis _ _ k h z;omega
  ·have:=o.dis _ _ k z A;omega
 ·refine f.mono (Y f hf) λk a N=>⟨⟨a.1,?_⟩,x k N (λi _=>a.2 i)⟩
  rintro i (⟨_,h⟩|⟨_,h⟩)
  ·rcases b i k h with V|⟨q,_,V⟩
   ·omega
   ·exact a.2 q V
  ·exact a.2 _ h
theorem Wi {w:World} {a u t:List bE} {F:Nat->Nat->Prop} (o:Own c w (a++u) F) (y:∀f∈L,f.p w (Ei c F)) (B:aG u L t):
  St ⟨w,λk=>∀i,i<a.length->¬F i k,λk=>∃i,i<a.length∧F i k⟩ a t w:=by
 refine⟨CB.refl _,λi k=>i<a.length∧F i k,⟨λi m s=> ?_,λi k b=>⟨.inr ⟨i,b⟩,(o.rng i k b.2).2⟩,λi j k v x=>o.dis i j k v.2 x.2⟩,λf z=> ?_⟩
 ·have l:i<a.length:=by
   rcases zAq i a.length with q|q
   ·exact q
   ·rw[zAp q]at s;cases s
  exact bE.same (o.res i m (by rw[zAa l];exact s)) (λk b=>⟨l,b⟩) (λ_ _ _=>rfl)
 ·refine B f z w (Ei c F) (λj k=>F (j+a.length) k) _ y (λj m A=> ?_) (λk b=> ?_) (λj k b=> ?_)
  ·exact o.res _ m (by rw[zA9 (by omega),Nat.add_sub_cancel];exact A)
  ·exact⟨.inl λi _=>b.2 i,λi l=>b.2 i l.2⟩
  ·exact⟨.inl λi l h=>by have:=o.dis _ _ k h b;omega,λi l=>by have:=o.dis _ _ k l.2 b;omega⟩
theorem Gq {A:Type} {k:A->Value} {m:A->List bE->List bE} {f:FuncId} {p:List Operand} {vs:List Value} {b:Array TypeId} {q Min Mr:List bE} (z:aW P f)
  (C:Gr P f vs.toArray Min q k m) (H:p.map (ev σ)=vs.map some) (y:a_ M (Min++Mr)) (v:aG Mr L q) (o:∀x l,m x l=m x []++l):
  aO P c n σ M L ⟨d,.call ⟨.value (.func f),p.toArray,b⟩,ty,pos,aft,g⟩ k (λx=>m x Mr) (λ_=>L):=λa w s t=>by
 have j:(execOp a.eval ⟨d,.call ⟨.value (.func f),p.toArray,b⟩,ty,pos,aft,g⟩).run P w = .ok (.enter f vs.toArray) w:=by
  have e:=evs s H;simp[execOp,resolve,Act.eval,Deferred.ofValue,invoke,z _ w,e]
 simp only[Oper.wp,j,Oper.upon];obtain⟨B,F,u,i⟩:=t.weak (L':=L) y (λ_ h=>h);refine(C _ (Wi u i v)).mono ?_;rintro e I ⟨x,rfl,E⟩;refine⟨x,rfl,?_⟩
 rw[o];exact XU B u i E
def XM {A B:Type} (c:uZ) (C:A->Prop) (a:A->B->Value) (f b:A->B->List bE) (e:Ending) (w:World):Prop:=∃x y,C x∧e = .returned (a x y)∧St c (f x y) (b x y) w
theorem KZ {j:Func} {a:List Value} {m:Nat} (l:j.ntmps=m) (k:Nat.ble a.length m=true):Gt ⟨m,[]⟩ (x_ 0 a) {tmps:=a.toArray++Array.replicate (j.ntmps - a.toArray.size) undef,defers:=[]}:=by
 have h:a.length<=m:=by simpa using k
 refine⟨rfl,by simp[l,h],?_⟩
 intro t v o;obtain⟨_,b⟩:=EK a 0 t v o;rw[Nat.sub_zero]at b;have i:t<a.length:=by
  rcases zAq t a.length with f|f
  ·exact f
  ·rw[zAp f]at b;cases b
 rw[zB9 (by simpa using i)];simpa using b
structure sN (P:Program) (c:uZ) (n:Sz) (σ:Fr) (M L:List bE) (o:Oper) (f:FuncId) (vs:List Value):Prop where
 run:∀a w,Gt n σ a->St c M L w->(execOp a.eval o).run P w = .ok (.enter f vs.toArray) w
theorem sN.fn {f:FuncId} {xs:List Operand} {vs:List Value} {b:Array TypeId} (h:aW P f) (i:xs.map (ev σ)=vs.map some):sN P c n σ M L ⟨d,.call ⟨.value (.func f),xs.toArray,b⟩,ty,pos,aft,g⟩ f vs:=⟨λa w s _=>by
 have e:=evs s i;simp[execOp,resolve,Act.eval,Deferred.ofValue,invoke,h _ w,e]⟩
theorem Ih {f:FuncId} {t:Tmp} {h:List Operand} {us cs vs:List Value} {b:Array TypeId} (j:aW P f) (k:lk σ t=some (.func (.func f) #[] cs.toArray)) (m:h.map (ev σ)=us.map some) (l:us++cs=vs):sN P c n σ M L ⟨d,.call ⟨.value (.tmp t),h.toArray,b⟩,ty,pos,aft,g⟩ f vs:=⟨λa w s _=>by
 have e:=evs s m;have i:a.eval (.tmp t) = .func (.func f) #[] cs.toArray:=s.eval (x:= .tmp t) k;subst l;simp[execOp,resolve,i,Deferred.ofValue,invoke,j _ w,e]⟩
def GX (P:Program) (c:uZ) (n:Sz) (σ:Fr) (M L:List bE) (b:Func) (v:Value):Prop:=∀a w,Gt n σ a->St c M L w->(results b a.tmps).run P w = .ok v w
variable {fn:Func}
theorem GX.r0 (b:fn.results = #[]):GX P c n σ M L fn (.tuple #[]):=λa w _ _=>by simp[results,b]
theorem GX.r1 {f:ResultVar} {h:Value} (b:fn.results = #[f]) (i:RV P c n σ M L f h):GX P c n σ M L fn h:=λa w s t=>by
 have:=i a w s t;simp only[zN,b];simp[this]
theorem GX.r2 {i j:ResultVar} {k l:Value} (b:fn.results = #[i,j]) (f:RV P c n σ M L i k) (h:RV P c n σ M L j l):GX P c n σ M L fn (.tuple #[k,l]):=λa w s t=>by
 have f:=f a w s t;have h:=h a w s t;simp only[zN,b];simp[f,h]
theorem sL {A B:Type} {m:Sz} {v:Value} {f:Exit} {C:A->Prop} {b:A->B->Value} {k j:A->B->List bE} (x:A) (y:B) (l:C x) (i:f = .ret∨f = .normal) (q:GX P c m σ' M L fn v) (u:v=b x y) (p:a_ M (k x y)) (o:aG [] L (j x y)) (h:m.ds=[]:=by rfl):
  J c m σ' M L (gZ P fn (XM c C b k j) f):=λa w s t=>by
 exact body_end i (s.defers.trans h) (q a w s t) ⟨x,y,l,by rw[u],t.weakE p o⟩
end
section
variable {P:Program} {rd:Option Nat} {c:uZ} {n:Sz} {σ σ':Fr} {M L M' L':List bE} {Q:Exit->Act->World->Prop} {ops:Array Oper} {rest:List Oper} {K:Act->World->Prop} {G:Act->World->Prop}
variable {d:Option Tmp} {D:Nat} {ty:TypeId} {pos:String} {aft:Array Edge} {g:Option (Nat×Bool)}
variable {α β:Type} {e:dD α} {r:eQ α}
def aoB (v:Value) (m:Nat):Prop:=match v with
 | .slice _ _ cap=>m<=cap
 |_=>False
theorem XZ [cQ P] {T E:TypeId} {R U u V:Nat} {z W:Value} {A:TypeDesc} {x p o q:Operand} {v:Value} {i k m:Int} {y:List α} (O:ev σ x=some v) (j:ev σ p=some (.int .i64 i)) (f:ev σ o=some (.int .i64 k)) (l:ev σ q=some (.int .i64 m)) (J:aE M L (Sl r v y))
  (I:cQ.tab P T=some ⟨.slice E,R,U,z⟩) (H:cQ.tab P E=some ⟨A,u,V,W⟩) (h:0<=i∧i<=k∧k<=m∧m<=y.length):Y P c n σ M L ⟨d,.slice T x (some p) (some o) (some q),ty,pos,aft,g⟩
   (match v with|.slice a _ _=> .slice (if m.toNat=i.toNat then a else a.map (·.add (i.toNat*u))) (k.toNat - i.toNat) (m.toNat - i.toNat)|v=>v):=λa w s t=>by
 obtain⟨S,X,b,N,hb,_⟩:=J.st t;subst N;have B:0<=m∧m<=(b:Int):=by omega
 have C:0<=k∧k<=((m.toNat:Nat):Int):=by omega
 have F:0<=i∧i<=((k.toNat:Nat):Int):=by omega
 simp[execOp,s.eval O,s.eval j,s.eval f,s.eval l,Instr.sliceAt,Instr.slice,(cQ.ok I).run_und w,Instr.sliceBounds,Instr.sliceBound,asIntOf,(cQ.ok H).run_size w,B,C,F];rw[if_pos (by omega),if_pos (by omega)]
theorem PW (i:Nat) {k:Int} {vs:List Value} {xss:List (List α)} (E:M[i]? = some (lK e vs xss)) (h:0<=k∧k<xss.length):
  oM M L (Ar e (at' vs k) (at' xss k)::M.set i (lK e (vs.set k.toNat (.slice none 0 0)) (xss.set k.toNat []))) L:=λc w t=>by
 obtain⟨X,F,s,W⟩:=t;obtain⟨A,G,U,u,O⟩:=s.res i _ E;have R:k.toNat<vs.length:=by omega
 have S:i<M.length:=(List.getElem?_eq_some_iff.1 E).1;have B:=U k.toNat _ _ (jW h.1 (by omega)) (jW h.1 h.2);refine⟨X,λj q=>match j with|0=>G k.toNat q|j+1=>(j=i∧∃p,p≠k.toNat∧G p q)∨(j≠i∧F j q),⟨?_,?_,?_⟩,λf E=> ?_⟩
 ·intro j m y;cases j with
  |zero=>simp at y;subst y;exact B
  | succ j =>
   rw[List.getElem?_cons_succ]at y;by_cases N:j=i
   ·subst N;rw[zAm S]at y;cases y;refine⟨by simp[A],λp q=>p≠k.toNat∧G p q,λp v V H I=> ?_,λp q a=> .inl ⟨rfl,p,a⟩,λT C q b l=>O _ _ q b.2 l.2⟩
    by_cases x:p=k.toNat
    ·subst x;rw[zAm R]at H;rw[zAm (by omega)]at I;cases H;cases I;exact⟨by simp,rfl,.inl ⟨rfl,rfl⟩⟩
    ·rw[zAv (Ne.symm x)]at H I;exact bE.same (f:=Ar e v V) (U p v V H I) (λq a=>⟨x,a⟩) (λ_ _ _=>rfl)
   ·rw[zAv (Ne.symm N)]at y;exact bE.same (s.res j m y) (λq a=> .inr ⟨N,a⟩) (λ_ _ _=>rfl)
 ·intro j q a;cases j with
  |zero=>exact s.rng i q (u _ q a)
  |succ j=>
   rcases a with⟨_,p,_,a⟩|⟨_,a⟩
   ·exact s.rng i q (u _ q a)
   ·exact s.rng j q a
 ·intro T C q b l;cases T with
  | zero =>
   cases C with
   |zero=>rfl
   |succ C=>
    rcases l with⟨_,p,o,l⟩|⟨o,l⟩
    ·exact absurd (O _ _ q l b) o
    ·exact absurd (s.dis _ _ q l (u _ q b)) o
  | succ T =>
   cases C with
   |zero=>
    rcases b with⟨_,p,o,b⟩|⟨o,b⟩
    ·exact absurd (O _ _ q b l) o
    ·exact absurd (s.dis _ _ q b (u _ q l)) o
   |succ C=>
    congr 1;rcases b with⟨J,p,_,b⟩|⟨J,b⟩<;>rcases l with⟨x,Y,_,l⟩|⟨x,l⟩
    ·rw[J,x]
    ·exact absurd (s.dis _ _ q l (u _ q b)) x
    ·exact absurd (s.dis _ _ q b (u _ q l)) J
    ·exact s.dis _ _ q b l
 ·refine bE.same (W f E) (λq a=>⟨a.1,λj z=> ?_⟩) (λ_ _ _=>rfl);cases j with
  |zero=>exact a.2 i (u _ q z)
  |succ j=>
   rcases z with⟨_,p,_,z⟩|⟨_,z⟩
   ·exact a.2 i (u _ q z)
   ·exact a.2 j z
theorem PS (i j:Nat) {u:Value} {k:Int} {vs:List Value} {xss:List (List α)} {ys:List α} (a:Nat.beq i j=false) (b:M[i]? = some (lK e (vs.set k.toNat (.slice none 0 0)) (xss.set k.toNat []))) (f:M[j]? = some (Ar e u ys)) (h:0<=k∧k<(xss.set k.toNat []).length):
  oM M L ((M.set i (lK e (vs.set k.toNat u) (xss.set k.toNat ys))).eraseIdx j) L:=by
 have:=zE (L:=L) i j a b f h;rwa[List.set_set,List.set_set]at this
theorem MM {α:Type} [Inhabited α] (l:List α) {j k:Int} (y:α) (h:j.toNat≠k.toNat):at' (l.set j.toNat y) k=at' l k:=by
 rw[at',at',zA1,zA1,zAv h]
theorem Ay [cQ P] (i:Nat) {r:eQ α} (f:e.Fits r) {x y:Operand} {u o:Value} {k j:Int} {vs:List Value} {a:List (List α)} {l b:List α} {T E:TypeId} {S U m s:Nat} {z t:Value} {v:TypeDesc} (N:ev σ x=some (at' vs k)) (O:ev σ y=some u) (H:M[i]? = some (lK e (vs.set j.toNat o) (a.set j.toNat b))) (I:aE M L (Sl r u l))
  (F:cQ.tab P T=some ⟨.slice E,S,U,z⟩) (C:cQ.tab P E=some ⟨v,m,s,t⟩) (A:e.sz=m) (B:Nat.ble s 1024=true) (w:0<=k∧k<a.length) (J:((at' a k).length:Int)+l.length<=1099511627) (R:t.cells.size=m) (h:j.toNat≠k.toNat):
  aO P c n σ M L ⟨d,.call ⟨.builtin .append,#[x,y],#[T,T]⟩,ty,pos,aft,g⟩ (λp:Value=>p) (λp=>M.set i (lK e ((vs.set j.toNat o).set k.toNat p) ((a.set j.toNat b).set k.toNat (at' a k++l)))) (λ_=>L):=by
 have q:at' (a.set j.toNat b) k=at' a k:=MM _ _ h;have:=oL (P:=P) (c:=c) (n:=n) (σ:=σ) (M:=M) (L:=L) (d:=d) (ty:=ty) (pos:=pos) (aft:=aft) (g:=g) (x:=x) (y:=y) (u:=u) (k:=k) (vs:=vs.set j.toNat o) (xss:=a.set j.toNat b) (ys:=l) i f (by rw[MM _ _ h];exact N) O H I F C A B (by simpa using w) (by rw[q];exact J) R;rwa[q]at this
theorem Dd (q:Nat) {vs:List Value} {a:List (List α)} {k j:Int} {u z:Value} (x:M[q]? = some (lK e ((vs.set k.toNat u).set j.toNat z) a)) (i:k.toNat≠j.toNat) (h:0<=k∧k<a.length):∀c w,St c M L w->Go.Sx.one u=true:=λc w t=>by
 obtain⟨S,v,A,p,_⟩:=t.res x;have f:k.toNat<vs.length:=by simp at v;omega
 obtain⟨_,_,s⟩:=p k.toNat u _ (by rw[zAv (Ne.symm i),zAm f]) (zA0 (by omega));rcases s with⟨l,_⟩|⟨b,y,m,T,o,l,_⟩<;>(rw[l];rfl)
theorem Uq {A:Type} {b:A->Value} {M' L':A->List bE} {f:Op} (j:aO P c n σ M L ⟨none,f,ty,pos,aft,none⟩ b M' L') (h:∀x,J c n σ (M' x) (L' x) (wpList P ops Q rest)):
  J c n σ M L (wpList P ops Q (⟨none,f,ty,pos,aft,none⟩::rest)):=λa w s t=>
 mY Z (Lt (nW (λm l ⟨x,i,k⟩=>by subst i;exact h x _ l s k) (j a w s t)))
end
section
variable {P:Program} {rd:Option Nat} {c:uZ} {n:Sz} {σ σ':Fr} {M L M' L':List bE} {Q:Exit->Act->World->Prop} {ops:Array Oper} {rest:List Oper} {K:Act->World->Prop} {G:Act->World->Prop}
variable {d:Option Tmp} {D:Nat} {ty:TypeId} {pos:String} {aft:Array Edge} {g:Option (Nat×Bool)}
variable {α β:Type} {e:dD α} {r:eQ α}
theorem PD [cQ P] (j:Nat) {T:TypeId} {s2:Nat} {z:Value} {dT:TypeDesc} {x y:Operand} {v u:Value} {i:Int} {m:List α} (yv:α) (hx:ev σ x=some (EJ v (i.toNat*1))) (hy:ev σ y=some u) (hu:e.enc yv=[u]) (B:one u=true)
  (X:M[j]? = some (Ar e v m)) (hT:cQ.tab P T=some ⟨dT,1,s2,z⟩) (N:e.sz=1) (h0:0<=i) (W:i<m.length):
  aO P c n σ M L ⟨none,.store T x y,ty,pos,aft,none⟩ (λ_:Unit=>undef) (λ_=>M.set j (Ar e v (m.set i.toNat yv))) (λ_=>L):=λa w s t=>by
 obtain⟨F,J⟩:=t.res X;have Y:i.toNat<m.length:=by omega
 have E:m[i.toNat]? = some m[i.toNat]:=zA0 Y;have H:m≠[]:=by intro e;subst e;simp at Y
 obtain⟨p,hp⟩:∃p,e.enc m[i.toNat]=[p]:=List.length_eq_one_iff.1 ((e.len _).trans N);have f:=Eg.cell J E (j:=0) (u:=p) (by rw[hp];rfl);rw[N,Nat.add_zero,Nat.mul_one]at f;rw[Nat.mul_one]at hx;have o:=Pq J H i.toNat;have I:(execOp a.eval ⟨none,.store T x y,ty,pos,aft,none⟩).run P w = .ok .skip (w.setCell (KN v i.toNat) u):=by
  simp only[execOp,s.eval hx,s.eval hy,EJ];simp[DO (cQ.ok hT) Z B f o]
 simp only[Oper.wp,I,Oper.upon];refine⟨(),trivial,t.upd X Z Z Z (by simp[World.setCell]) λF J _=> ?_⟩
 obtain⟨hl,W,S⟩:=J;rcases S with⟨_,S⟩|⟨b,l,A,T',O,hv,C,hb,hk,hc,ht⟩
 ·exact absurd S H
 ·subst hv;have ha:KN (.slice (some ⟨b,l,none⟩) m.length A) i.toNat=⟨b,l+i.toNat,none⟩:=by simp[KN,eR]
  rw[ha];refine⟨λk _ U=>Below.heap_setCell _ _ _ _ (λe=>U (by simp only at e;subst e;exact C)),F,⟨by simpa using hl,?_,.inr ⟨b,l,A,T',O.setIfInBounds (l+i.toNat) u,by simp,C,?_,by simpa using hk,by simpa using hc,?_⟩⟩,λ_ h=> .inl h⟩
  ·rw[xW N hu,zA5];intro q V;rcases List.mem_or_eq_of_mem_set V with R|R
   ·exact zA5.1 W q R
   ·rw[R];exact B
  ·simp[World.setCell,Array.getElem?_modify,hb]
  ·rw[xW N hu,<-ht,Array.toList_setIfInBounds,zA2,<-take_set];congr 1;rw[List.drop_set,if_neg (by omega),Nat.add_sub_cancel_left]
theorem PC [cQ P] (i:Nat) {T j:TypeId} {C:Nat} {z:Value} {m:TypeDesc} {x y:Operand} {b o:Nat} {cs:List Value} {v:Value} (A:ev σ x=some (.pointer (some ⟨b,o,none⟩)))
  (B:ev σ y=some v) (u:one v=true) (l:M[i]? = some (bV b cs j)) (p:cQ.tab P T=some ⟨m,1,C,z⟩) (q:Nat.blt o cs.length=true):
  aO P c n σ M L ⟨none,.store T x y,ty,pos,aft,none⟩ (λ_:Unit=>undef) (λ_=>M.set i (bV b (cs.set o v) j)) (λ_=>L):=λa w s t=>by
 obtain⟨F,k⟩:=t.res l;have h:o<cs.length:=by simpa [zAy]using q
 have f:(execOp a.eval ⟨none,.store T x y,ty,pos,aft,none⟩).run P w = .ok .skip (w.setCell ⟨b,o,none⟩ v):=by
  simp[execOp,s.eval A,s.eval B,DO (cQ.ok p) Z u (bV.cell k (zA0 h)) (Pr k o)]
 simp only[Oper.wp,f,Oper.upon];exact⟨(),trivial,t.store l v⟩
theorem Cj [cQ P] (j q:Nat) {T:TypeId} {E:Nat} {z:Value} {m:TypeDesc} {x y:Operand} {v u:Value} {i:Int} {vs b:List Value} {f:List (List α)} (h:0<=i∧i<f.length) (B:ev σ x=some (EJ v (i.toNat*1))) (C:ev σ y=some u)
  (p:M[j]? = some (Ar dD.raw v vs)) (A:M[q]? = some (lK e b f)) (F:b.length=vs.length) (k:one u=true) (o:cQ.tab P T=some ⟨m,1,E,z⟩):
  aO P c n σ M L ⟨none,.store T x y,ty,pos,aft,none⟩ (λ_:Unit=>undef) (λ_=>M.set j (Ar dD.raw v (vs.set i.toNat u))) (λ_=>L):=λa w s t=>by
 have l:b.length=f.length:=by obtain⟨_,h⟩:=t.res A;exact h.1
 exact PD j u B C Z k p o Z h.1 (by omega) a w s t
section
variable {l:List Oper} {m:List Nat} {k0:Nat} {H Bs:List (Nat×List bE×List bE)} {rs:List Nat}
theorem Es {A:Type} {j:A->Value} {M' L':A->List bE} {i:Nat} {b:Op}
  (o:l[i]? = some ⟨none,b,ty,pos,aft,none⟩) (v:Nat.blt i k0=true) (y:eT b=true) (z:aO P c n σ M L ⟨none,b,ty,pos,aft,none⟩ j M' L')
  (q:∀x,Ax (before m i) (M' x) (L' x) Bs) (h:∀x,JR c n σ (M' x) (L' x) ((i,M,L)::H) Bs (RW P l.toArray Q (before m) (cU l) k0 rs)):
  JR c n σ M L H Bs (RW P l.toArray Q (before m) (cU l) k0 (i::rs)):=λa w X Y s t u k=>by
 have f:l.toArray[i]? = some ⟨none,b,ty,pos,aft,none⟩:=by simpa using o
 simp only[RW,f];rw[if_pos (by simp[Region.wanted])];refine .inr (.inr ⟨by simpa [zAy]using v,by simp[cU,o,y],nW ?_ (z a w s t)⟩);rintro C B ⟨x,rfl,p⟩;exact⟨(q x).use p k,h x _ B _ Y s p ⟨rfl,t,u⟩ k⟩
end
theorem Il {A B:Type} {f:FuncId} {j:Func} {b:Code} {k:List Value} {m:Nat} {q:Op} (C:A->Prop) (i:A->B->Value) (o l:A->B->List bE) (E:sN P c n σ M L ⟨d,q,ty,pos,aft,g⟩ f k) (F:P.funcs[f]? = some j) (z:j.body=some b) (I:j.ntmps=m) (H:Nat.ble k.length m=true)
  (u:J c ⟨m,[]⟩ (x_ 0 k) M L (b.wpr none P (gZ P j (XM c C i o l)))):
  aO P c n σ M L ⟨d,q,ty,pos,aft,g⟩ (λx:{p:A×B // C p.1}=>i x.1.1 x.1.2) (λx=>o x.1.1 x.1.2) (λx=>l x.1.1 x.1.2):=λa w s t=>by
 have h:=E.run a w s t;simp only[Oper.wp,h,Oper.upon];refine(uC F z (u _ w (KZ I H) t)).mono ?_;rintro e O ⟨x,y,v,rfl,N⟩;exact⟨⟨(x,y),v⟩,rfl,N⟩
theorem Bp {A B:Type} {f:FuncId} {j:Func} {h:Code} {vs:List Value} {m:Nat} {o:Op} (C:A->Prop) (i:A->B->Value) (l k:A->B->List bE) (v:sN P c n σ M L ⟨some D,o,ty,pos,aft,none⟩ f vs) (w:P.funcs[f]? = some j) (u:j.body=some h) (y:j.ntmps=m) (x:Nat.ble vs.length m=true) (t:Nat.blt D n.sz=true)
  (p:J c ⟨m,[]⟩ (x_ 0 vs) M L (h.wpr none P (gZ P j (XM c C i l k)))) (q:∀a b,C a->J c n ((D,i a b)::σ) (l a b) (k a b) (wpList P ops Q rest)):J c n σ M L (wpList P ops Q (⟨some D,o,ty,pos,aft,none⟩::rest)):=
 aH (Il C i l k v w u y x p) t fun⟨⟨a,b⟩,s⟩=>q a b s
section
variable {l:List Oper} {mm:List Nat} {k0:Nat} {H Bs:List (Nat×List bE×List bE)} {rs:List Nat}
theorem NQ {A B:Type} {i:Nat} {f:FuncId} {p:Func} {h:Code} {vs:List Value} {m:Nat} {q:Op} (C:A->Prop) (j:A->B->Value) (o k:A->B->List bE) (E:l[i]? = some ⟨some D,q,ty,pos,aft,none⟩) (F:Nat.blt i k0=true) (I:eT q=true) (y:sN P c n σ M L ⟨some D,q,ty,pos,aft,none⟩ f vs) (z:P.funcs[f]? = some p) (x:p.body=some h) (O:p.ntmps=m) (N:Nat.ble vs.length m=true) (w:Nat.blt D n.sz=true)
  (u:∀a b,Ax (before mm i) (o a b) (k a b) Bs) (s:J c ⟨m,[]⟩ (x_ 0 vs) M L (h.wpr none P (gZ P p (XM c C j o k)))) (t:∀a b,C a->JR c n ((D,j a b)::σ) (o a b) (k a b) ((i,M,L)::H) Bs (RW P l.toArray Q (before mm) (cU l) k0 rs)):
  JR c n σ M L H Bs (RW P l.toArray Q (before mm) (cU l) k0 (i::rs)):=
 zBc E F I (Il C j o k y z x O N s) w (λ_=>u _ _) fun⟨⟨a,b⟩,v⟩=>t a b v
theorem Pw {A B:Type} {i j:Nat} {s:Bool} {f:FuncId} {q:Func} {h:Code} {vs:List Value} {m:Nat} {t:Op} (C:A->Prop) (k:A->B->Value) (p o:A->B->List bE) (N:l[i]? = some ⟨some D,t,ty,pos,aft,some (j,s)⟩) (O:Nat.blt i k0=true) (R:eT t=true) (I:gv l.toArray σ j=some s) (E:sN P c n σ M L ⟨some D,t,ty,pos,aft,some (j,s)⟩ f vs) (F:P.funcs[f]? = some q) (z:q.body=some h) (T:q.ntmps=m) (S:Nat.ble vs.length m=true) (y:Nat.blt D n.sz=true)
  (w:∀a b,Ax (before mm i) (p a b) (o a b) Bs) (u:J c ⟨m,[]⟩ (x_ 0 vs) M L (h.wpr none P (gZ P q (XM c C k p o)))) (v:∀a b,C a->JR c n ((D,k a b)::σ) (p a b) (o a b) ((i,M,L)::H) Bs (RW P l.toArray Q (before mm) (cU l) k0 rs)):
  JR c n σ M L H Bs (RW P l.toArray Q (before mm) (cU l) k0 (i::rs)):=
 Px N O R I (Il C k p o E F z T S u) y (λ_=>w _ _) fun⟨⟨a,b⟩,x⟩=>v a b x
end
theorem Fv [cQ P] {T E:TypeId} {k q u b A:Nat} {z B:Value} {f:TypeDesc} {x y:Operand} {v:Value} {o:Nat} {i:Int} (m:ev σ x=some (EJ v o)) (p:ev σ y=some (.int .i64 i))
  (l:cQ.tab P T=some ⟨.array k E,q,u,z⟩) (j:cQ.tab P E=some ⟨f,b,A,B⟩) (_h3:(b==0)=false) (h:0<=i∧i<(k:Int)):
  Y P c n σ M L ⟨d,.indexAddr T x y,ty,pos,aft,g⟩ (EJ v (o+i.toNat*b)):=λa w s t=>by
 simp[execOp,s.eval m,s.eval p,Instr.indexAt,asIntOf,(cQ.ok l).run_und w,h,Instr.sureAddr,EJ,(cQ.ok j).run_size w,JN]
theorem bY {x:Operand} {b o:Nat} (f:ev σ x=some (.pointer (some ⟨b,o,none⟩))):Y P c n σ M L ⟨d,.nilCheck x,ty,pos,aft,g⟩ (.pointer (some ⟨b,o,none⟩)):=λa w s t=>by
 simp[execOp,s.eval f]
theorem PE [cQ P] [Inhabited α] (j:Nat) {T:TypeId} {s2 k o q:Nat} {z:Value} {dT:TypeDesc} {x y:Operand} {v u:Value} {C:List Value} {i:Int} {p:List α} (N:α) (h:0<=i∧i<p.length) (hx:ev σ x=some (EJ v (i.toNat*q+o))) (hy:ev σ y=some u)
  (hf:M[j]? = some (Ar e v p)) (hq:e.sz=q) (V:u.cells=C.toArray) (hk:C.length=k) (ho:Nat.ble (o+k) q=true) (J:e.enc N=(e.enc (at' p i)).take o++C++(e.enc (at' p i)).drop (o+k)) (X:C.all one=true) (hT:cQ.tab P T=some ⟨dT,k,s2,z⟩):
  aO P c n σ M L ⟨none,.store T x y,ty,pos,aft,none⟩ (λ_:Unit=>undef) (λ_=>M.set j (Ar e v (p.set i.toNat N))) (λ_=>L):=λa w s t=>by
 subst hq hk;have ar:o+C.length<=e.sz:=by simpa using ho
 have hi:i.toNat<p.length:=by omega
 have t0:=t;obtain⟨ak,FF,hO,ag⟩:=t0;obtain⟨h0,A,hh⟩:=hO.res j _ hf;rcases hh with⟨_,rfl⟩|⟨b,m,W,T',f,rfl,Y,aa,ab,hc,ht⟩
 ·simp at hi
 -- the parts of the row
 obtain⟨l,B,E,I,hl⟩:∃l B E,p=l++B::E∧l.length=i.toNat:=⟨p.take i.toNat,p[i.toNat],p.drop (i.toNat+1),by rw[List.getElem_cons_drop,List.take_append_drop],by simp;omega⟩
 have ai:at' p i=B:=by
  rw[at',zA1,<-hl,I,zA9 (zAf _)];simp
 rw[ai]at J;have eE:=e.len B;have eA:(cellsOf e l).length=i.toNat*e.sz:=by rw[eS,hl]
 have F:cellsOf e p=cellsOf e l++(e.enc B++cellsOf e E):=by rw[I];simp[cellsOf]
 have U:cellsOf e (p.set i.toNat N)=cellsOf e l++(e.enc N++cellsOf e E):=by
  have:p.set i.toNat N=l++N::E:=by rw[I,<-hl,List.set_append_right _ _ (zAf _)];simp
  rw[this];simp[cellsOf]
 have ap:p.length*e.sz<=W*e.sz:=zB7 _ ab;obtain⟨O,R,S,hH⟩:∃O R,f.toList=O++(cellsOf e l++(e.enc B++(cellsOf e E++R)))∧O.length=m:=by
  refine⟨f.toList.take m,(f.toList.drop m).drop (p.length*e.sz),?_,by simp;omega⟩
  have e1:cellsOf e l++(e.enc B++(cellsOf e E++(f.toList.drop m).drop (p.length*e.sz)))=f.toList.drop m:=by
   have:cellsOf e l++(e.enc B++(cellsOf e E++(f.toList.drop m).drop (p.length*e.sz)))=cellsOf e p++(f.toList.drop m).drop (p.length*e.sz):=by rw[F];simp
   rw[this,<-ht,List.take_append_drop]
  rw[e1,List.take_append_drop]
 have an:f.size=f.toList.length:=by simp
 have al:f.toList.take (m+(i.toNat*e.sz+o))=O++(cellsOf e l++(e.enc B).take o):=by
  have:f.toList=(O++(cellsOf e l++(e.enc B).take o))++((e.enc B).drop o++(cellsOf e E++R)):=by
   rw[S,zB4,zB4,<-zB4 ((e.enc B).take o),List.take_append_drop]
  rw[this];exact List.take_left' (by simp[hH,eA,eE];omega)
 have am:f.toList.drop (m+(i.toNat*e.sz+o)+C.length)=(e.enc B).drop (o+C.length)++(cellsOf e E++R):=by
  have:f.toList=(O++(cellsOf e l++(e.enc B).take (o+C.length)))++((e.enc B).drop (o+C.length)++(cellsOf e E++R)):=by
   rw[S,zB4,zB4,<-zB4 ((e.enc B).take (o+C.length)),List.take_append_drop]
  rw[this];exact List.drop_left' (by simp[hH,eA,eE];omega)
 have af:(i.toNat+1)*e.sz<=p.length*e.sz:=zB7 _ (by omega);have aq:(i.toNat+1)*e.sz=i.toNat*e.sz+e.sz:=by rw[zB2,Nat.one_mul]
 have ac:m+(i.toNat*e.sz+o)+0+C.length<=f.size:=by omega
 have ae:=run_storeCells_at P b (m+(i.toNat*e.sz+o)) T' C 0 f w aa ac (λu V=>rA (zA5.1 X u V));simp only[Nat.add_zero]at ae;have au:(cQ.ok hT).run_size w=(cQ.ok hT).run_size w:=rfl;have ad:(execOp a.eval ⟨none,.store T x y,ty,pos,aft,none⟩).run P w = .ok .skip (w.setRow b (f.toList.take (m+(i.toNat*e.sz+o))++C++f.toList.drop (m+(i.toNat*e.sz+o)+C.length)).toArray):=by
  simp[execOp,s.eval hx,s.eval hy,EJ,KN,Instr.storeAt,Instr.sureAddr,storeVar,V,(cQ.ok hT).run_size w,eR,ae]
 simp only[Oper.wp,ad,Oper.upon];refine⟨(),trivial,?_⟩
 refine JJ ak hO ag hf Z Z Z (by simp) (λk _ aj=>setRow_other w b k _ (λe=>aj (by subst e;exact Y))) (F':=FF j) ?_ (λk hk=> .inl hk);have H:(e.enc N).length=e.sz:=e.len N;refine⟨by simpa using h0,?_,.inr ⟨b,m,W,T',_,by simp,Y,setRow_heap w b _ _ T' _ aa,by simpa using ab,?_,?_⟩⟩
 ·rw[U];rw[F]at A;simp only[List.all_append,zA6]at A ⊢;refine⟨A.1,?_,A.2.2⟩
  rw[J];simp only[List.all_append,zA6];refine⟨⟨zA5.2 λu V=>zA5.1 A.2.1 u (List.mem_of_mem_take V),X⟩,zA5.2 λu V=>zA5.1 A.2.1 u (List.mem_of_mem_drop V)⟩
 ·simp only[List.size_toArray,zAi,List.length_take,List.length_drop];omega
 ·show((f.toList.take _++C++f.toList.drop _).drop m).take ((p.set i.toNat N).length*e.sz)=_;rw[al,am,U,J,zA2];have e3:(O++(cellsOf e l++(e.enc B).take o)++C++((e.enc B).drop (o+C.length)++(cellsOf e E++R)))=O++((cellsOf e l++(((e.enc B).take o++C++(e.enc B).drop (o+C.length))++cellsOf e E))++R):=by simp
  rw[e3,<-hH,List.drop_left];refine List.take_left' ?_;have ah:(cellsOf e E).length=E.length*e.sz:=eS e E;have ao:p.length=i.toNat+1+E.length:=by rw[I,<-hl];simp;omega
  rw[J]at H;rw[zAi,zAi,H,eA,ah,ao,zB2,zB2,Nat.one_mul];omega
end
def Dfr (D:Nat):bE where
 p w F:=F D∧w.heap[D]? = some (.deferred (some []))
 mono:=fun⟨b,a⟩ h=>by
  obtain⟨c,d⟩:=h D b (zAb.1 a).1;exact⟨c,by rw[d];exact a⟩
structure XP where
 n:Nat
 σ:Fr
 ps:Array Tmp
 assign:Code
 body:Code
 D:Nat
def Lp (l:Nat) (R:XP) (i:LoopState) (a:Option Code):bE where
 p w F:=F l∧∃(fn:FuncId) (tmps:Array Value),tmps.size=R.n∧(∀t v,lk R.σ t=some v->tmps[t]? = some v)∧
  w.heap[l]? = some (.loop {state:=i,pending:=a,fn:=fn,tmps:=tmps,params:=R.ps,assign:=R.assign,body:=R.body,defers:=R.D})
 mono:=fun⟨c,fn,tmps,d,e,b⟩ h=>by
  obtain⟨f,g⟩:=h l c (zAb.1 b).1;exact⟨f,fn,tmps,d,e,by rw[g];exact b⟩
def ZG (D:Nat):Deferred:={target:= .collected D,args:= #[]}
def yV (l:Nat):Value:= .func (.yield l) #[] #[]
section
variable {P:Program} {rd:Option Nat} {c:uZ} {n m:Sz} {σ σ':Fr} {M L:List bE} {Q:Exit->Act->World->Prop} {K G:Act->World->Prop}
theorem St.putLp {w:World} {l i:Nat} {R:XP} {y d:LoopState} {b a:Option Code} (t:St c M L w) (v:M[i]? = some (Lp l R y b)) {r:Loop} (o:w.heap[l]? = some (.loop r)):
  St c (M.set i (Lp l R d a)) L (w.putObj l (.loop {r with state:=d,pending:=a})):=by
 refine t.upd v Z Z Z (by simp) λF j _=>⟨λk _ x=> ?_,F,?_,λ_ h=> .inl h⟩
 ·exact World.putObj_heap_other (λe=>x (by subst e;exact j.1))
 ·obtain⟨q,p,f,s,u,g⟩:=j;rw[g]at o;cases o;exact⟨q,p,f,s,u,World.putObj_heap_same (zAb.1 g).1⟩
def XQ (P:Program) (n:Sz) (σ:Fr) (l D:Nat) (Q:Exit->Act->World->Prop) (e:Ending) (w:World):Prop:=
 ∀a,Gt ⟨n.sz,ZG D::n.ds⟩ σ a->rangePost (FR none) 0 P l Q a e w
theorem Pu {g:Operand} {ps:Array Tmp} {assign body:Code} {f:FuncId} {fn:Func} {code:Code} {cs:List Value} {k:Nat} (hb:aW P f) (hx:ev σ g=some (.func (.func f) #[] cs.toArray)) (hf:P.funcs[f]? = some fn) (hbd:fn.body=some code) (hn:fn.ntmps=k) (hm:Nat.ble (cs.length+1) k=true)
  (h:∀l D,J c ⟨k,[]⟩ (x_ 0 (yV l::cs)) (Lp l ⟨n.sz,σ,ps,assign,body,D⟩ .ready none::Dfr D::M) L (code.wpr none P (gZ P fn (XQ P n σ l D Q)))):
  J c n σ M L ((Code.rangeFunc g ps assign body).wpr none P Q):=λa w s t=>by
 refine wpIn_rangeFunc λfn' _=> ?_;have hev:a.eval g = .func (.func f) #[] cs.toArray:=s.eval hx;let W:World:=(w.alloc (.deferred (some []))).alloc (.loop {state:= .ready,pending:=none,fn:=fn',tmps:=a.tmps,params:=ps,assign:=assign,body:=body,defers:=w.heap.size});refine⟨_,_,_,{target:= .fn (.func f) cs.toArray,args:= #[yV (w.heap.size+1)]},W,f,(yV (w.heap.size+1)::cs).toArray,W,run_enterLoop_outer fn' a.tmps ps assign body,?_,λ_ _=>trivial,?_,(λhc=>by cases hc),?_⟩
 ·have hc:∀v,a.eval (.const v)=v:=λ_=>rfl;simp[resolve,hev,hc,Deferred.ofValue,yV,W]
 ·simp[invoke,hb _ _,yV]
 ·have t1:St c (Dfr w.heap.size::M) L (w.alloc (.deferred (some []))):=t.push _ ⟨rfl,heap_alloc_new w _⟩;have t2:St c (Lp (w.heap.size+1) ⟨n.sz,σ,ps,assign,body,w.heap.size⟩ .ready none::Dfr w.heap.size::M) L ((w.alloc (.deferred (some []))).alloc (.loop {state:= .ready,pending:=none,fn:=fn',tmps:=a.tmps,params:=ps,assign:=assign,body:=body,defers:=w.heap.size})):=by
   have:=t1.push (.loop {state:= .ready,pending:=none,fn:=fn',tmps:=a.tmps,params:=ps,assign:=assign,body:=body,defers:=w.heap.size}) (m:=Lp (w.heap.size+1) ⟨n.sz,σ,ps,assign,body,w.heap.size⟩ .ready none)
    ⟨by simp,fn',a.tmps,s.size,s.slot,by rw[<-World.size_alloc w (.deferred (some []))];exact heap_alloc_new _ _⟩
   exact this
  refine UK ((uC hf hbd (h (w.heap.size+1) w.heap.size _ _ (KZ hn (by simpa using hm)) t2)).mono ?_);intro e w' he;exact he _ ⟨by simp[ZG,s.defers],s.size,s.slot⟩
theorem XE {f:Func} {b:Exit} {v:Value} {l D i:Nat} {R:XP} (e:b = .ret∨b = .normal) (j:M[i]? = some (Lp l R .ready none)) (q:GX P c m σ' M L f v) (h:J c ⟨n.sz,ZG D::n.ds⟩ σ (M.set i (Lp l R .exhausted none)) L (Q .normal)) (d:m.ds=[]:=by rfl):
  J c m σ' M L (gZ P f (XQ P n σ l D Q) b):=λa w s t=>by
 refine body_end e (s.defers.trans d) (q a w s t) λo r=> ?_;obtain⟨F,u,p,k,x,y,g⟩:=t.res j;exact⟨none,_,run_endLoop g (by simp),h o _ r (t.putLp j g)⟩
theorem abb {f:Func} {b:Exit} {v:Value} {l D i:Nat} {R:XP} (e:b = .ret∨b = .normal) (j:M[i]? = some (Lp l R .done (some .ret))) (q:GX P c m σ' M L f v) (h:J c ⟨n.sz,ZG D::n.ds⟩ σ (M.set i (Lp l R .exhausted (some .ret))) L (Q .ret)) (d:m.ds=[]:=by rfl):
  J c m σ' M L (gZ P f (XQ P n σ l D Q) b):=λa w s t=>by
 refine body_end e (s.defers.trans d) (q a w s t) λo r=> ?_;obtain⟨F,u,p,k,x,y,g⟩:=t.res j;exact⟨some .ret,_,run_endLoop g (by simp),wpIn_ret (h o _ r (t.putLp j g))⟩
def Xq (P:Program) (l:Nat) (G:Act->World->Prop) (a:Act) (w:World):Prop:=∃b,(Instr.beginRound l).run P w = .ok () b∧G a b
theorem Uo {l i:Nat} {R:XP} {b:Option Code} (e:M[i]? = some (Lp l R .ready b)) (h:J c n σ (M.set i (Lp l R .busy b)) L G):J c n σ M L (Xq P l G):=λa w s t=>by
 obtain⟨F,j,g,f,k,o,d⟩:=t.res e;exact⟨_,run_beginRound d Z,h a _ s (t.putLp e d)⟩
def XR (n:Sz) (σ:Fr) (d:Nat) (K:Act->World->Prop) (e:Ending) (w:World):Prop:=∃v,e = .returned v∧∀a,Gt n ((d,v)::σ) a->K a w
theorem Kl {l i d:Nat} {R:XP} {b:Option Code} (f:M[i]? = some (Lp l R .busy b)) (h:J c m ((d,.bool true)::σ') (M.set i (Lp l R .ready none)) L K):J c n σ M L (roundPost P l (XR m σ' d K) .normal):=λa w s t=>by
 obtain⟨F,p,k,g,q,r,e⟩:=t.res f;exact⟨_,_,run_endRound none e,_,rfl,λj o=>h j _ o (t.putLp f e)⟩
theorem XF {l i d:Nat} {R:XP} {b:Option Code} (f:M[i]? = some (Lp l R .busy b)) (h:J c m ((d,.bool false)::σ') (M.set i (Lp l R .done (some .ret))) L K):J c n σ M L (roundPost P l (XR m σ' d K) .ret):=λa w s t=>by
 obtain⟨F,p,k,g,q,r,e⟩:=t.res f;exact⟨_,_,run_endRound (some .ret) e,_,rfl,λj o=>h j _ o (t.putLp f e)⟩
def GJ:List Tmp->List Value->Fr->Fr
 |t::ts,v::vs,σ=>GJ ts vs ((t,v)::σ)
 |_,_,σ=>σ
theorem KY:∀(d:List Tmp) (f:List Value) (a:Array Value) (σ:Fr) (k:Nat),a.size=k->d.all (λt=>Nat.blt t k)=true->(∀t v,lk σ t=some v->a[t]? = some v)->
  ((d.zip f).foldl (λa (x:Tmp×Value)=>a.setIfInBounds x.1 x.2) a).size=k∧∀t v,lk (GJ d f σ) t=some v->((d.zip f).foldl (λa (x:Tmp×Value)=>a.setIfInBounds x.1 x.2) a)[t]? = some v
 | [],_,a,σ,k,h1,_,h3=>by simpa [GJ]using ⟨h1,h3⟩
 |_::_,[],a,σ,k,h1,_,h3=>by simpa [GJ]using ⟨h1,h3⟩
 | p :: d, x :: f, a, σ, k, h1, h2, h3 => by
  simp only[List.all_cons,zA6]at h2;have g:p<k:=by simpa [zAy]using h2.1
  simp only[List.zip_cons_cons,List.foldl_cons,GJ];refine KY d f _ _ k (by simp[h1]) h2.2 λt v b=> ?_;simp only[lk]at b;by_cases e:t=p
  ·subst e;simp at b;subst b;simp[h1,g]
  ·rw[nG e]at b;simp only[cond_false]at b;rw[zB1 (Ne.symm e)];exact h3 t v b
theorem abd {f:Array Oper} {b:List Oper} {t:Tmp} {z:List Operand} {g:List Value} {o:Array TypeId} {d:Nat} {B:TypeId} {y:String} {k:Array Edge} {l i:Nat} {R:XP} {j:List Tmp} (U:lk σ t=some (yV l)) (W:z.map (ev σ)=g.map some) (T:M[i]? = some (Lp l R .ready none)) (r:R.ps=j.toArray) (q:g.length=j.length) (p:j.all (λt=>Nat.blt t R.n)=true) (S:Nat.blt d n.sz=true)
  (h:J c ⟨R.n,[]⟩ (GJ j g R.σ) M L (R.assign.wpr (some l) P (Exit.then (Xq P l (R.body.wpr (some l) P (roundPost P l (XR n σ d (wpList P f Q b))))) (λ_ _ _=>False)))):
  J c n σ M L (wpList P f Q (⟨some d,.call ⟨.value (.tmp t),z.toArray,o⟩,B,y,k,none⟩::b)):=λa w s A=>by
 obtain⟨F,h1,H,tmps,I,N,O⟩:=A.res T;have e:=evs s W;have C:a.eval (.tmp t)=yV l:=s.eval (x:= .tmp t) U;have X:=run_yield (P:=P) (args:=g.toArray) O (by simp[r,q]);have u:(execOp a.eval ⟨some d,.call ⟨.value (.tmp t),z.toArray,o⟩,B,y,k,none⟩).run P w=(Instr.yield l g.toArray).run P w:=by
  simp[execOp,resolve,C,yV,Deferred.ofValue,invoke,e]
 unfold wpList;rw[if_pos (show Region.wanted _ _=true from rfl)];refine .inr ⟨_,_,_,_,_,_,u.trans X,?_⟩;refine RoundIn.mono (R:=XR n σ d (wpList P f Q b)) (roundIn_of_wpIn (F:=FR none) trivial ?_) ?_
 ·obtain⟨D,E⟩:=KY j g tmps R.σ R.n I p N;have:=h {tmps:=(j.zip g).foldl (λtmps (x:Tmp×Value)=>tmps.setIfInBounds x.1 x.2) tmps,defers:=[]} w ⟨rfl,D,E⟩ A;simp only[r,List.zip_toArray,List.foldl_toArray];exact this
 ·rintro e Y ⟨v,rfl,V⟩;exact⟨v,rfl,V _ (s.put d v S)⟩
theorem NP {g:Operand} {ps:Array Tmp} {assign body:Code} {f:FuncId} {fn:Func} {code:Code} {cs:List Value} {k:Nat} (hb:aW P f) (hx:ev σ g=some (.func (.func f) #[] cs.toArray)) (hf:P.funcs[f]? = some fn) (hbd:fn.body=some code) (hn:fn.ntmps=k) (hm:Nat.ble (cs.length+1) k=true)
  (h:∀(l D:Nat) (R:XP),R.n=n.sz∧R.σ=σ∧R.ps=ps∧R.assign=assign∧R.body=body->J c ⟨k,[]⟩ (x_ 0 (yV l::cs)) (Lp l R .ready none::Dfr D::M) L (code.wpr none P (gZ P fn (XQ P n σ l D Q)))):
  J c n σ M L ((Code.rangeFunc g ps assign body).wpr none P Q):=Pu hb hx hf hbd hn hm λl D=>h l D _ ⟨rfl,rfl,rfl,rfl,rfl⟩
theorem Pv {j:Array Oper} {e:List Oper} {t:Tmp} {u:List Operand} {us:List Value} {r:Array TypeId} {d:Nat} {B:TypeId} {s:String} {q:Array Edge} {l i k:Nat} {R:XP} {p:List Tmp} {o:Fr} {a b:Code} (w:R.n=k∧R.σ=o∧R.ps=p.toArray∧R.assign=a∧R.body=b) (z:lk σ t=some (yV l)) (A:u.map (ev σ)=us.map some) (y:M[i]? = some (Lp l R .ready none)) (g:us.length=p.length) (f:p.all (λt=>Nat.blt t k)=true) (x:Nat.blt d n.sz=true)
  (h:J c ⟨k,[]⟩ (GJ p us o) M L (a.wpr (some l) P (Exit.then (Xq P l (b.wpr (some l) P (roundPost P l (XR n σ d (wpList P j Q e))))) (λ_ _ _=>False)))):
  J c n σ M L (wpList P j Q (⟨some d,.call ⟨.value (.tmp t),u.toArray,r⟩,B,s,q,none⟩::e)):=by
 obtain⟨rfl,rfl,v,rfl,rfl⟩:=w;exact abd z A y v g f x h
end
def Lj (Ds:List Nat):List Deferred:=Ds.map ZG
def NL (Ds:List Nat):bE where
 p w F:=Ds.Nodup∧∀D∈Ds,F D∧w.heap[D]? = some (.deferred (some []))
 mono:=fun⟨c,a⟩ h=>⟨c,λD b=>by
  obtain⟨d,e⟩:=h D (a D b).1 (zAb.1 (a D b).2).1;exact⟨d,by rw[e];exact(a D b).2⟩⟩
section
variable {P:Program} {rd:Option Nat} {c:uZ} {n m:Sz} {σ σ':Fr} {M L:List bE} {Q:Exit->Act->World->Prop} {K G:Act->World->Prop}
theorem PU:oM M L (NL []::M) L:=oM.add λ_=>⟨List.nodup_nil,by simp⟩
theorem PV (i j:Nat) {D:Nat} {e:List Nat} (d:i≠j) (l:M[i]? = some (NL e)) (o:M[j]? = some (Dfr D)):oM M L ((M.set i (NL (D::e))).eraseIdx j) L:=λc w t=>
 t.merge i j d l o (by
  rintro w q r ⟨g,b⟩ ⟨f,h⟩ k;refine⟨zB8.2 ⟨λp=>k D (b D p).1 f,g⟩,λE a=> ?_⟩
  rcases zAo.1 a with rfl|a
  ·exact⟨.inr f,h⟩
  ·exact⟨.inl (b E a).1,(b E a).2⟩)
theorem Ha {g:Operand} {ps:Array Tmp} {assign body:Code} {f:FuncId} {fn:Func} {code:Code} {cs:List Value} {k i s:Nat} (Ds:List Nat) (hi:M[i]? = some (NL Ds)) (hb:aW P f) (hx:ev σ g=some (.func (.func f) #[] cs.toArray)) (hf:P.funcs[f]? = some fn) (hbd:fn.body=some code) (hn:fn.ntmps=k) (hm:Nat.ble (cs.length+1) k=true)
  (h:∀(l D:Nat) (R:XP),R.n=s∧R.σ=σ∧R.ps=ps∧R.assign=assign∧R.body=body->J c ⟨k,[]⟩ (x_ 0 (yV l::cs)) (Lp l R .ready none::M.set i (NL (D::Ds))) L (code.wpr none P (gZ P fn (XQ P ⟨s,Lj Ds⟩ σ l D Q)))):
  J c ⟨s,Lj Ds⟩ σ M L ((Code.rangeFunc g ps assign body).wpr none P Q):=NP hb hx hf hbd hn hm λl D R hR=>
 jL (PV (i+2) 1 (by omega) hi Z) (h l D R hR)
theorem s_ {o:Func} {R:Ending->World->Prop} {f:Exit} {i k:Nat} (b:f = .ret∨f = .normal):∀{Ds:List Nat} {M:List bE},M[i]? = some (NL Ds)->J c ⟨k,[]⟩ σ (M.set i (NL [])) L (gZ P o R f)->J c ⟨k,Lj Ds⟩ σ M L (gZ P o R f)
 | [], M, hi, h => by
  have:M.set i (NL [])=M:=by
   apply List.ext_getElem?;intro j;by_cases e:i=j
   ·subst e;rw[hi];simp[(List.getElem?_eq_some_iff.1 hi).1]
   ·simp[zAv e]
  rw[this]at h;exact h
 | D :: Ds, M, hi, h => λa w s t => by
  obtain⟨F,v,q⟩:=t.res hi;have u:St c (M.set i (NL Ds)) L (w.putObj D (.deferred none)):=by
   refine t.upd hi Z Z Z (by simp) λF d _=>⟨λk _ r=> ?_,F,?_,λ_ h=> .inl h⟩
   ·exact World.putObj_heap_other (λe=>r (e▸(d.2 D (by simp)).1))
   ·obtain⟨p,d⟩:=d;refine⟨(zB8.1 p).2,λE g=>⟨(d E (by simp[g])).1,?_⟩⟩
    rw[World.putObj_heap_other (λe=>(zB8.1 p).1 (by subst e;exact g))];exact(d E (by simp[g])).2
  refine Wp b s.defers (q D (by simp)).2 ?_;have l:(M.set i (NL Ds))[i]? = some (NL Ds):=by simp[(List.getElem?_eq_some_iff.1 hi).1]
  have:=s_ b l (by rw[List.set_set];exact h) {tmps:=a.tmps,defers:=Lj Ds} _ ⟨rfl,s.size,s.slot⟩ u;rcases b with rfl|rfl<;>exact this
def ahw {A B:Type} (c:uZ) (f:A->B->Sz) (C:A->Prop) (b:A->B->Fr) (e d:A->B->List bE) (a:Act) (w:World):Prop:=∃x y,C x∧Gt (f x y) (b x y) a∧St c (e x y) (d x y) w
theorem Sw {A B:Type} {x:Code} (h:A->B->Sz) (C:A->Prop) (d:A->B->Fr) (g f:A->B->List bE) (j:J c n σ M L (x.wpr rd P (Exit.then (ahw c h C d g f) Q))) (k:∀a b,C a->J c (h a b) (d a b) (g a b) (f a b) K):
  J c n σ M L (x.wpr rd P (Exit.then K Q)):=λa w s t=>Ib (λe i u q=>by
 cases e with
 |normal=>obtain⟨z,y,o,p,r⟩:=q;exact k z y o i u p r
 |exit id=>exact q
 |goto l=>exact q
 |ret=>exact q
 |panic v=>exact q
 |outgrown=>exact q) (j a w s t)
theorem JG {A B:Type} {e:A->B->Sz} {C:A->Prop} {a:A->B->Fr} {d b:A->B->List bE} (x:A) (y:B) (i:n=e x y) (f:C x) (j:Al σ (a x y)) (h:a_ M (d x y)) (g:aG [] L (b x y)):J c n σ M L (ahw c e C a d b):=
 λ_ _ s t=>⟨x,y,f,i▸s.weak j,t.weakE h g⟩
end
def Gb (b:Nat) (cs:List Value):bE where
 p w S:=S b∧∃T,w.heap[b]? = some (.cells cs.toArray T (0,0))
 mono:=fun⟨c,T,a⟩ h=>by
  obtain⟨d,e⟩:=h b c (zAb.1 a).1;exact⟨d,T,by rw[e];exact a⟩
section
variable {P:Program} {c:uZ} {n:Sz} {σ:Fr} {M L:List bE} {d:Option Tmp} {ty:TypeId} {pos:String} {aft:Array Edge} {g:Option (Nat×Bool)} {α:Type} {e:dD α}
theorem PZ [cQ P] {T E:TypeId} {u:IntKind} {k v A f B:Nat} {z C:Value} {l:TypeDesc} {x y:Operand} {b:Nat} {i:Int} (q:ev σ x=some (.pointer (some ⟨b,0,none⟩))) (r:ev σ y=some (.int u i))
  (p:cQ.tab P T=some ⟨.array k E,v,A,z⟩) (o:cQ.tab P E=some ⟨l,f,B,C⟩) (m:(f==0)=false) (h:0<=i∧i<(k:Int)):
  Y P c n σ M L ⟨d,.indexAddr T x y,ty,pos,aft,g⟩ (.pointer (some ⟨b,i.toNat*f,none⟩)):=λa w s t=>by
 have j:f≠0:=by simpa using m
 simp[execOp,s.eval q,s.eval r,Instr.indexAt,asIntOf,(cQ.ok p).run_und w,h,Instr.sureAddr,(cQ.ok o).run_size w,j,eR]
theorem Wk [cQ P] [Inhabited α] {T:TypeId} {E:Nat} {z:Value} {o:TypeDesc} {x:Operand} {b k:Nat} {i:Int} {f:List α} {u:Value} (q:ev σ x=some (.pointer (some ⟨b,i.toNat*1,none⟩)))
  (y:aE M L (Gb b (cellsOf e f))) (A:cQ.tab P T=some ⟨o,1,E,z⟩) (B:xS o=false) (C:e.sz=1) (D:(e.enc (at' f i))=[u]) (h:(0<=i∧i<(k:Int))∧f.length=k):
  Y P c n σ M L ⟨d,.load T x,ty,pos,aft,g⟩ u:=λa w s t=>by
 obtain⟨F,j,r,l⟩:=y.st t;have v:(bV b (cellsOf e f) r).p w F:=⟨j,l⟩
 have m:=xA e f i.toNat (at' f i) (jW h.1.1 (by omega)) 0 u (by rw[D];rfl);rw[C,Nat.add_zero]at m;rw[Nat.mul_one]at q m;simp[execOp,s.eval q,zO (cQ.ok A) B (bV.cell v m)]
end
def sl3 (v:Value) (l h m b:Nat):Value:=match v with
 | .slice a _ _=> .slice (if m=l then a else a.map (·.add (l*b))) (h - l) (m - l)
 |v=>v
section
variable {P:Program} {rd:Option Nat} {c:uZ} {n:Sz} {σ:Fr} {M L:List bE} {Q:Exit->Act->World->Prop} {ops:Array Oper} {rest:List Oper} {d:Option Tmp} {ty:TypeId} {pos:String} {aft:Array Edge} {g:Option (Nat×Bool)} {α:Type} {e:dD α} {r:eQ α} {G:Act->World->Prop}
theorem MK [cQ P] {T E:TypeId} {J K u N:Nat} {z O:Value} {B:TypeDesc} {x p o q:Operand} {v:Value} {i k m:Int} {y:List α} (I:ev σ x=some v) (f:ev σ p=some (.int .i64 i)) (b:ev σ o=some (.int .i64 k)) (j:ev σ q=some (.int .i64 m)) (l:aE M L (Sl r v y))
  (F:cQ.tab P T=some ⟨.slice E,J,K,z⟩) (D:cQ.tab P E=some ⟨B,u,N,O⟩) (h:0<=i∧i<=k∧k<=m∧m<=y.length):Y P c n σ M L ⟨d,.slice T x (some p) (some o) (some q),ty,pos,aft,g⟩ (sl3 v i.toNat k.toNat m.toNat u):=λa w s t=>by
 have C:=XZ (P:=P) (c:=c) (n:=n) (d:=d) (ty:=ty) (pos:=pos) (aft:=aft) (g:=g) I f b j l F D h a w s t;obtain⟨S,R,A,H,_⟩:=l.st t;subst H;exact C
theorem Wh {w:World} {S:Nat->Prop} {v:Value} {i:List α} (p:Ic r w S v i) {l h m:Nat} (x:l<=h) (u:h<=m) (z:m<=i.length):Ic r w S (sl3 v l h m r.sz) ((i.take h).drop l):=by
 have A:=Ic.part p x (zB5 u z);obtain⟨a,s,rfl,C,_⟩:=p;obtain⟨B,k,j,t,b⟩:=A;have f:((i.take h).drop l).length=h - l:=by simp;omega
 refine⟨if m=l then a else a.map (·.add (l*r.sz)),m - l,by simp[sl3,f],by omega,?_⟩
 rcases b with b|b
 ·exact .inl b
 ·by_cases o:(i.take h).drop l=[]
  ·exact .inl o
  ·right;have y:l<h:=by
    rcases zAq l h with q|q
    ·exact q
    ·exact absurd (zAn (by omega)) o
   simp only[slq,Value.slice.injEq]at j;rw[if_neg (by omega)]at j;rw[if_neg (by omega),j.1];exact b
theorem De {v:Value} {a:List α} (b:aE M L (Sl r v a)) {l h m:Int} {q:Nat} (f:r.sz=q) (j:0<=l∧l<=h∧h<=m∧m<=a.length):aE M L (Sl r (sl3 v l.toNat h.toNat m.toNat q) ((a.take h.toNat).drop l.toNat)):=by
 subst f;exact b.mono λi=>Wh i (by omega) (by omega) (by omega)
def XS (r:eQ α) (vs:List Value) (b:List (List α)):bE where
 p w S:=vs.length=b.length∧∀(i:Nat) v a,vs[i]? = some v->b[i]? = some a->Ic r w S v a
 mono:=fun⟨f,j⟩ h=>⟨f,λi v a k l=>(Sl r v a).mono (j i v a k l) h⟩
theorem Un (r:eQ α) (m:Nat) (h:J c n σ M (XS r (List.replicate m (.slice none 0 0)) (List.replicate m ([]:List α))::L) G):J c n σ M L G:=λa w s t=>h a w s (by
 obtain⟨k,F,b,j⟩:=t;refine⟨k,F,b,λf hf=> ?_⟩
 rcases zAo.1 hf with rfl|hf
 ·refine⟨by simp,λi v p l o=> ?_⟩
  obtain⟨_,rfl⟩:=List.mem_replicate.1 (zAl l);obtain⟨_,rfl⟩:=List.mem_replicate.1 (zAl o);exact⟨none,0,rfl,by simp,.inl Z⟩
 ·exact j f hf)
theorem Ur (j:Nat) {vs:List Value} {o:List (List α)} {t:Value} {u:List α} {k:Nat} (C:L[j]? = some (XS r vs o)) (D:aE [] L (Sl r t u)) (h:J c n σ M (L.set j (XS r (vs.set k t) (o.set k u))) G):J c n σ M L G:=λa w s I=>h a w s (by
 obtain⟨H,F,B,p⟩:=I;refine⟨H,F,B,λf q=> ?_⟩
 rcases List.mem_or_eq_of_mem_set q with q|rfl
 ·exact p f q
 ·obtain⟨x,y⟩:=p _ (zAl C);refine⟨by simp[x],λi v K b l=> ?_⟩
  by_cases e:k=i
  ·subst e;have z:=bH b;have A:=bH l;rw[zAm (by simpa using z)]at b;rw[zAm (by simpa using A)]at l;cases b;cases l;exact D w (Ei c F) (λ_ _=>False) (Ei c F) p (λi m E=>by simp at E) (λ_ h=>h) (λ_ _ h=>h.elim)
  ·rw[zAv e]at b l;exact y i v K b l)
theorem MD [cQ P] (j q:Nat) {T:TypeId} {E:Nat} {z:Value} {l:TypeDesc} {x y:Operand} {v u:Value} {i:Int} {vs:List Value} {b:List (List α)} (h:0<=i∧i<b.length) (C:ev σ x=some (EJ v (i.toNat*1))) (D:ev σ y=some u)
  (p:M[j]? = some (Ar dD.raw v vs)) (B:L[q]? = some (XS r vs b)) (f:one u=true) (o:cQ.tab P T=some ⟨l,1,E,z⟩)
  (A:J c n σ (M.set j (Ar dD.raw v (vs.set i.toNat u))) L (wpList P ops Q rest)):
  J c n σ M L (wpList P ops Q (⟨none,.store T x y,ty,pos,aft,none⟩::rest)):=λa w s t=>by
 have k:vs.length=b.length:=by obtain⟨_,F,_,m⟩:=t;exact(m _ (zAl B)).1
 exact Km j u C D Z f p o Z h.1 (by omega) A a w s t
theorem Df {i j:Nat} {v:Value} {vs:List Value} {a:List (List α)} (K:M[i]? = some (Ar dD.raw v vs)) (N:L[j]? = some (XS r vs a)):aE M L (S2 r v (vs.zip a) a):=λw S T U D E H I=>by
 have C:=E i _ K;obtain⟨h,F⟩:=D _ (zAl N);refine⟨?_,by rw[List.map_snd_zip];omega⟩
 have A:(vs.zip a).length=vs.length:=by simp[h]
 have f:Eg dD.raw w (T i) v vs:=C;have o:=f;obtain⟨Y,_,J⟩:=f;rcases J with⟨rfl,rfl⟩|⟨b,t,m,V,B,rfl,p,W,y,X,ht⟩
 ·exact⟨none,0,rfl,by simp,.inl Z⟩
 ·refine⟨_,m,by rw[A],by rw[A];omega,.inr ⟨b,t,rfl,I i _ p,λq x l=> ?_⟩⟩
  have z:vs[q]? = some x.1:=by rw[List.getElem?_zip_eq_some]at l;exact l.1
  have s:a[q]? = some x.2:=by rw[List.getElem?_zip_eq_some]at l;exact l.2
  refine⟨[x.1],λR u O=> ?_,rfl,?_⟩
  ·have:=Eg.cell o z (j:=R) (u:=u) O;simp only[KN,eR]at this;exact this
  ·exact(Sl r x.1 x.2).mono (F q _ _ z s) (λk y _=>⟨H k y,rfl⟩)
end
end Go.Sx
namespace Go.Sx
section
variable {P:Program} {M L:List bE} {α β γ:Type} {r:eQ α} {s:eQ γ} {q:eQ β}
def eQ.Deep (r:eQ α) (q:eQ β) (f:α->Value×List β):Prop:=∀{w S es x},r.R w S es x->Ic q w S (f x).1 (f x).2
theorem Ev (q:eQ β):(eQ.sl q).Deep q (λx=>x):=λh=>h.2
theorem We {f:α->Value×List β} (h:r.Deep q f):(r.pair s).Deep q (λx=>f x.1):=by
 rintro w S d x ⟨b,c,rfl,a,_⟩;exact h a
theorem Fu {f:α->Value×List β} (h:r.Deep q f):(s.pair r).Deep q (λx=>f x.2):=by
 rintro w S d x ⟨b,c,rfl,_,a⟩;exact h a
theorem wX [Inhabited α] {v:Value} {a:List α} {i:Int} {f:α->Value×List β} (h:aE M L (Sl r v a)) (d:r.Deep q f) (b:0<=i) (c:i<a.length):aE M L (Sl q (f (at' a i)).1 (f (at' a i)).2):=h.mono λ{w U} hs=>by
 obtain⟨g,e,_⟩:=sl_cell hs (jW b c);exact d e
def KD (s:ByteArray):List Int:=s.data.toList.map λb=>(b.toNat:Int)
theorem Dj [cQ P] {c:uZ} {n:Sz} {l:Fr} {d:Option Tmp} {H:TypeId} {e:String} {b:Array Edge} {g:Option (Nat×Bool)} {T:TypeId} {F G:Nat} {z:Value} {x y:Operand} {s:ByteArray} {f:List Int} {k:IntKind} {i:Int} (D:ev l x=some (.string s)) (E:ev l y=some (.int k i)) (u:cQ.tab P T=some ⟨.string,F,G,z⟩) (A:KD s=f) (h:0<=i∧i<f.length):
  Y P c n l M L ⟨d,.index T x y,H,e,b,g⟩ (.int .u8 (at' f i)):=λa w p t=>by
 subst A;obtain⟨I,m⟩:=h;obtain⟨j,rfl⟩:∃j:Nat,i=(j:Int):=⟨i.toNat,by omega⟩
 have o:j<s.data.toList.length:=by unfold KD at m;simp at m ⊢;omega
 have C:j<s.size:=by have:=Lib.size_eq s;simp at o;omega
 have B:s[j]? = some (s.data.toList[j]):=by
  rw[getElem?_pos s j C];rfl
 have v:at' (KD s) (j:Int)=((s.data.toList[j]).toNat:Int):=by
  unfold at' KD;simp[zA1,zA0 o]
 rw[v];simp[execOp,p.eval D,p.eval E,Instr.index,asIntOf,(cQ.ok u).run_und w,B]
theorem SK [cQ P] {c:uZ} {n:Sz} {j:Fr} {d:Option Tmp} {F:TypeId} {i:String} {e:Array Edge} {g:Option (Nat×Bool)} {T E:TypeId} {A B C D m b:Nat} {z G:Value} {o:TypeDesc} {x l:Operand} {k:Int} (y:ev j x=some (.pointer (some ⟨b,0,none⟩))) (f:ev j l=some (.int .i64 k))
  (v:cQ.tab P T=some ⟨.array m E,A,B,z⟩) (u:cQ.tab P E=some ⟨o,C,D,G⟩) {q:Int} (h:0<=k∧k<=((m:Nat):Int)∧k<=q):Y P c n j M L ⟨d,.slice T x none (some l) none,F,i,e,g⟩ (.slice (some ⟨b,0,none⟩) k.toNat m):=λa w s t=>by
 have p:0<=k∧k<=(m:Int):=⟨h.1,h.2.1⟩
 simp[execOp,s.eval y,s.eval f,Instr.sliceAt,Instr.slice,(cQ.ok v).run_und w,Instr.sliceBounds,Instr.sliceBound,asIntOf,(cQ.ok u).run_size w,p,asAddr,Addr.add,Instr.sureAddr]
theorem XH {e:dD α} {i b T m:Nat} {k:Int} {a:List α} (t:M[i]? = some (bV b (cellsOf e a) T)) (c:e.Fits r) (h:0<=k∧k<=((m:Nat):Int)∧k<=(a.length:Int)) (p:m<=9223372036854775807):aE M L (Sl r (.slice (some ⟨b,0,none⟩) k.toNat m) (a.take k.toNat)):=λw S T U B f C v=>by
 have n:=f i _ t;have o:(a.take k.toNat).length=k.toNat:=by simp;omega
 refine⟨some ⟨b,0,none⟩,m,by rw[o],by rw[o];omega,.inr ⟨b,0,rfl,v _ _ n.1,λj x d=> ?_⟩⟩
 have l:a[j]? = some x:=by
  rw[zAt]at d;split at d
  ·exact d
  ·cases d
 obtain⟨g,D,z,_⟩:=c;refine⟨e.enc x,λq u A=> ?_,z⟩
 have y:=xA e a _ _ l _ _ A;rw[g,Nat.zero_add];exact bV.cell n y
def eQ.All (r:eQ α) (n:Nat) (g:α->List Value):Prop:=r.sz=n∧∀{w S es x},r.R w S es x->es=g x
theorem SD {e:dD α} (h:e.Fits r):r.All e.sz e.enc:=⟨h.1,h.2.1⟩
theorem SE (q:eQ β):(eQ.sl q).All 1 (λx=>[x.1]):=⟨rfl,λh=>h.1⟩
theorem NT {n m:Nat} {f:α->List Value} {g:γ->List Value} (h:r.All n f) (k:s.All m g):(r.pair s).All (n+m) (λx=>f x.1++g x.2):=⟨by show r.sz+s.sz=_;rw[h.1,k.1],by
 rintro w S e x ⟨c,d,rfl,a,b⟩;rw[h.2 a,k.2 b]⟩
theorem SJ [cQ P] [Inhabited α] {c:uZ} {n:Sz} {B:Fr} {d:Option Tmp} {O:TypeId} {o:String} {k:Array Edge} {g:Option (Nat×Bool)} {T:TypeId} {N q m:Nat} {z:Value} {p:TypeDesc} {x:Operand} {v:Value} {i:Int} {e:List α} {cs:List Value} {f:α->List Value} (K:ev B x=some (EJ v (i.toNat*q))) (G:aE M L (Sl r v e)) (y:r.All m f) (l:f (at' e i)=cs)
  (E:cQ.tab P T=some ⟨p,cs.length,N,z⟩) (F:xS p=true) (H:m=q) (h:0<=i∧i<e.length):Y P c n B M L ⟨d,.load T x,O,o,k,g⟩ (.agg cs.toArray):=λa w s t=>by
 obtain⟨C,D⟩:=h;obtain⟨S,h⟩:=G.st t;obtain⟨Q,I,b⟩:=sl_cell h (jW C D);have:=y.2 I;subst this l;rw[y.1,H]at b;have:=Cf (w:=w) (A:=KN v (i.toNat*q)) (cs:=f (at' e i)) (cQ.ok E) F Z (λj u J=>by rw[JN];exact b j u J);simp[execOp,s.eval K,EJ,this]
end
end Go.Sx
namespace Go.Sx
open Go.RowKit
section
variable {P:Program} {c:uZ} {n:Sz} {σ:Fr} {M L:List bE} {d:Option Tmp} {ty:TypeId} {pos:String} {aft:Array Edge} {g:Option (Nat×Bool)}
def ahC (v:Value) (m:Nat):Prop:=∃a e,v = .slice a m e∧(m=0∨∃b f,a=some ⟨b,f,none⟩)
theorem Know.len {f:Type} {r:eQ f} {v:Value} {xs:List f} (j:aE M L (Sl r v xs)):∀c w,St c M L w->ahC v xs.length:=λc w t=>by
 obtain⟨S,i,cap,k,_,h⟩:=j.st t;exact⟨i,cap,k,h.imp (λh=>by simp[h]) fun⟨b,a,e,_⟩=>⟨b,a,e⟩⟩
theorem P_ [cQ P] {T E:TypeId} {B C k D m:Nat} {z F:Value} {o:TypeDesc} {x y:Operand} {v:Value} {i:Int} (u:ev σ x=some v) (A:ev σ y=some (.int .i64 i)) (f:ahC v m)
  (s:cQ.tab P T=some ⟨.slice E,B,C,z⟩) (r:cQ.tab P E=some ⟨o,k,D,F⟩) (h:0<=i∧i<(m:Int)):Y P c n σ M L ⟨d,.indexAddr T x y,ty,pos,aft,g⟩ (EJ v (i.toNat*k)):=λa w l t=>by
 obtain⟨G,e,rfl,f⟩:=f;obtain⟨p,q⟩:=h;rcases f with rfl|⟨b,j,rfl⟩
 ·omega
 ·simp[execOp,l.eval u,l.eval A,IQ w (cQ.ok s) Z (cQ.ok r) b j _ e i p q]
theorem Kr [cQ P] (i:Nat) {T j:TypeId} {H m o b:Nat} {z:Value} {q:TypeDesc} {x y:Operand} {cs e us:List Value} {u:Value} (E:ev σ x=some (.pointer (some ⟨b,o,none⟩))) (G:ev σ y=some u) (l:u.cells=us.toArray) (B:us.length=m)
  (r:us.all one=true) (p:M[i]? = some (bV b cs j)) (A:cQ.tab P T=some ⟨q,m,H,z⟩) (C:Nat.ble (o+m) cs.length=true) (k:cs.take o++us++cs.drop (o+m)=e):
  aO P c n σ M L ⟨none,.store T x y,ty,pos,aft,none⟩ (λ_:Unit=>undef) (λ_=>M.set i (bV b e j)) (λ_=>L):=λa w s t=>by
 subst B k;obtain⟨F,v⟩:=t.res p;have D:o+us.length<=cs.length:=by simpa using C
 have h:=run_storeCells_at P b o j us 0 cs.toArray w v.2 (by simp;omega) (λu l=>rA (zA5.1 r u l));simp only[Nat.add_zero]at h;have f:(execOp a.eval ⟨none,.store T x y,ty,pos,aft,none⟩).run P w = .ok .skip (w.setRow b (cs.take o++us++cs.drop (o+us.length)).toArray):=by
  simp[execOp,s.eval E,s.eval G,Instr.storeAt,Instr.sureAddr,storeVar,l,(cQ.ok A).run_size w,h]
 simp only[Oper.wp,f,Oper.upon];exact⟨(),trivial,t.fill p⟩
theorem GK {a:Type} [Inhabited a] (l:List a) (k:Int) (h:k.toNat<l.length) (b:0<=k):l.set k.toNat (at' l k)=l:=by
 have:=jW (xs:=l) b (by omega);refine List.ext_getElem? λi=> ?_;by_cases e:k.toNat=i
 ·subst e;rw[zAm h,this]
 ·rw[zAv e]
theorem Eu [cQ P] {l:Type} [Inhabited l] {e:dD l} (j:Nat) {T:TypeId} {Q m o q:Nat} {z:Value} {C:TypeDesc} {x y:Operand} {u:Value} {us:List Value} {i k:Int} {vs:List Value} {b:List (List l)} (f:l) (A:0<=k∧k<b.length) (h:0<=i∧i<(at' b k).length) (N:ev σ x=some (EJ (at' vs k) (i.toNat*q+o))) (O:ev σ y=some u)
  (v:M[j]? = some (lK e vs b)) (I:e.sz=q) (K:u.cells=us.toArray) (G:us.length=m) (H:Nat.ble (o+m) q=true) (B:e.enc f=(e.enc (at' (at' b k) i)).take o++us++(e.enc (at' (at' b k) i)).drop (o+m)) (p:us.all one=true) (D:cQ.tab P T=some ⟨C,m,Q,z⟩):
  aO P c n σ M L ⟨none,.store T x y,ty,pos,aft,none⟩ (λ_:Unit=>undef) (λ_=>M.set j (lK e vs (b.set k.toNat ((at' b k).set i.toNat f)))) (λ_=>L):=λa w s t=>by
 have U:=dM j v c w t;have F:j<M.length:=(List.getElem?_eq_some_iff.1 v).1;refine nW (λS R ⟨x,E,J⟩=>⟨x,E,?_⟩) (PE 0 f h N O Z I K G H B p D a w s (PW j v A c w t));have r:=PS (j+1) 0 (u:=at' vs k) (k:=k) (vs:=vs) (xss:=b) (ys:=(at' b k).set i.toNat f) (e:=e) Z (by simp[F]) Z (by simpa using A) c R J;simp only[List.set_cons_zero,List.set_cons_succ,List.eraseIdx_cons_zero,List.set_set]at r;rw[GK vs k (by omega) A.1]at r;exact r
end
theorem a_.ix {M M':List bE} (l:List Nat) (hn:decide l.Nodup=true) (h:l.map (λi=>M[i]?)=M'.map some):a_ M M':=by
 have hn:l.Nodup:=of_decide_eq_true hn
 have hl:l.length=M'.length:=by simpa using congrArg List.length h
 refine⟨λi=>l.getD i 0,λi j hi hj e=> ?_,λi m hm=> ?_⟩
 ·have h1:i<l.length:=by omega
  have h2:j<l.length:=by omega
  simp only[zA1,zA0 h1,zA0 h2,Option.getD_some]at e
  exact(List.getElem_inj hn).1 e
 ·have hi:i<l.length:=by rw[hl];exact(List.getElem?_eq_some_iff.1 hm).1
  have:=congrArg (λq=>q[i]?) h
  simp only[List.getElem?_map,zA0 hi,hm,Option.map_some,Option.some.injEq]at this
  simpa [zA1,zA0 hi]using this
def dD.fn:dD Nat:=⟨1,Nat.one_pos,λf=>[.func (.func f) #[] #[]],λ_=>rfl⟩
def eQ.fn:eQ Nat:=⟨1,Nat.one_pos,λ_ _ cs x=>cs=[.func (.func x) #[] #[]],λh=>by simp[h],λh _=>h⟩
theorem Ps:dD.fn.Fits eQ.fn:=⟨rfl,λh=>h,rfl,λ_=>rfl⟩
section
variable {P:Program} {rd:Option Nat} {c:uZ} {n:Sz} {σ:Fr} {M L:List bE} {Q:Exit->Act->World->Prop} {ops:Array Oper} {rest:List Oper} {d:Nat} {ty:TypeId} {pos:String} {aft:Array Edge} {x y:Operand} {v:Value} {K:Act->World->Prop}
abbrev vS (x:ByteArray):Value:= .string x
abbrev vB (x:Bool):Value:= .bool x
theorem cT {a:Type} {p G:Prop} {_:Decidable p} {u:Option a} {r:a} (h:ck p u=some r) (k:p->u=some r->G):G:=k (UM h).1 (UM h).2
theorem eZ {a b:Type} {G:Prop} {u:Option a} {f:a->Option b} {r:b} (h:u.bind f=some r) (k:∀y,u=some y->f y=some r->G):G:=by
  obtain⟨y,e,g⟩:=bnd h;exact k y e g
theorem mT (l:List Nat) {a:List bE} (h:l.map (L[·]?)=a.map some):aG M L a:=λf b=>by
  have g:some f∈l.map (L[·]?):=h▸List.mem_map_of_mem b;obtain⟨j,_,e⟩:=zAw.1 g;exact aE.fact j e
theorem AZ.ix (l:List Nat) {a:List bE} (h:l.map (L[·]?)=a.map some):AZ L a:=λf b=>by
  have g:some f∈l.map (L[·]?):=h▸List.mem_map_of_mem b;obtain⟨j,_,e⟩:=zAw.1 g;exact zAl e
theorem jS {f:bE} (i:Nat) (h:L[i]? = some f):AZ L [f]:=AZ.cons (zAl h) AZ.nil
/-- which of the early loads must still hold,with the numbers of what they have read -/
def bsW (A:Nat->Bool):List (List Nat×List Nat)->List (Nat×List bE×List bE)->List (List Nat×List Nat×List bE×List bE)
  |_,[]=>[]
  |q,(j,Mx,Lx)::B=>bif A j||(Mx.isEmpty&&Lx.isEmpty)then bsW A q B else((q.headD ([],[])).1,(q.headD ([],[])).2,Mx,Lx)::bsW A q.tail B
theorem uB {A:Nat->Bool} (q:List (List Nat×List Nat)) {B:List (Nat×List bE×List bE)} (h:(bsW A q B).map (λz=>(decide z.1.Nodup,z.1.map (M[·]?),z.2.1.map (L[·]?)))=(bsW A q B).map (λz=>(true,z.2.2.1.map some,z.2.2.2.map some))):Ax A M L B:=by
  induction B generalizing q with
  |nil=>exact Ax.z
  | cons b B ih =>
    obtain⟨j,k,i⟩:=b;cases a:A j with
    |true=>exact Ax.b a (ih q (by simpa [bsW,a]using h))
    | false =>
      cases g:(k.isEmpty&&i.isEmpty)with
      | true =>
        obtain⟨e,f⟩:=Bool.and_eq_true_iff.1 g;rw[List.isEmpty_iff]at e f;subst e;subst f;exact Ax.h a_.nil AZ.nil (ih q (by simpa [bsW,a]using h))
      | false =>
        simp only[bsW,a,g,Bool.or_self,cond_false,zB3,List.cons.injEq,Prod.mk.injEq]at h;exact Ax.h (a_.ix _ h.1.1 h.1.2.1) (AZ.ix _ h.1.2.2) (ih q.tail h.2)
def hkB (A:Nat->Bool):List (Nat×List bE×List bE)->Bool
  | []=>true
  |(j,_,_)::H=>bif A j then hkB A H else false
theorem hkI {A:Nat->Bool} {f e:List bE} {H:List (Nat×List bE×List bE)} (h:hkB A H=true):aM A f e H:=by
  induction H with
  |nil=>exact aM.z
  | cons b B ih =>
    obtain⟨j,_,_⟩:=b;cases a:A j with
    |false=>simp[hkB,a]at h
    |true=>exact aM.b a (ih (by simpa [hkB,a]using h))
theorem hkN {A:Nat->Bool} {H:List (Nat×List bE×List bE)}:aM A [] [] H:=by
  induction H with
  |nil=>exact aM.z
  |cons b B a=>exact aM.h a_.nil AZ.nil a
theorem dO {T:Operand} (h:(ev σ T,ev σ x,Nat.blt d n.sz)=(some (.bool true),some v,true)) (k:J c n ((d,v)::σ) M L (wpList P ops Q rest)):J c n σ M L (wpList P ops Q (⟨some d,.pick T x y,ty,pos,aft,none⟩::rest)):=by
  simp only[Prod.mk.injEq]at h;exact aB (NV h.1 h.2.1) h.2.2 k
theorem fH {T:Operand} (h:(ev σ T,ev σ y,Nat.blt d n.sz)=(some (.bool false),some v,true)) (k:J c n ((d,v)::σ) M L (wpList P ops Q rest)):J c n σ M L (wpList P ops Q (⟨some d,.pick T x y,ty,pos,aft,none⟩::rest)):=by
  simp only[Prod.mk.injEq]at h;exact aB (JK h.1 h.2.1) h.2.2 k
theorem jM {vs:List Value} {i:Nat} (h:(ev σ x,vs[i]?,Nat.blt d n.sz)=(some (.tuple vs.toArray),some v,true)) (k:J c n ((d,v)::σ) M L (wpList P ops Q rest)):J c n σ M L (wpList P ops Q (⟨some d,.extract x i,ty,pos,aft,none⟩::rest)):=by
  simp only[Prod.mk.injEq]at h;exact aB (qF h.1 h.2.1) h.2.2 k
theorem rB {t a:TypeId} {i:IntKind} {p q:Int} (h:(ev σ x,ev σ y,Nat.blt d n.sz)=(some (.int i p),some (.int i q),true)) (k:J c n ((d,.bool (decide (p≠q)))::σ) M L (wpList P ops Q rest)):J c n σ M L (wpList P ops Q (⟨some d,.binOp .neq t x y a,ty,pos,aft,none⟩::rest)):=by
  simp only[Prod.mk.injEq]at h;exact aB (F_ h.1 h.2.1) h.2.2 k
theorem AT {t a:TypeId} {i:IntKind} {p q:Int} (h:(ev σ x,ev σ y,Nat.blt d n.sz)=(some (.int i p),some (.int i q),true)) (k:J c n ((d,.int i (eK i p q))::σ) M L (wpList P ops Q rest)):J c n σ M L (wpList P ops Q (⟨some d,.binOp .and t x y a,ty,pos,aft,none⟩::rest)):=by
  simp only[Prod.mk.injEq]at h;exact aB (Uu h.1 h.2.1) h.2.2 k
theorem jN [cQ P] {b:Type} {r:eQ b} {T E:TypeId} {f g:Nat} {z:Value} {a:List b} (e:aE M L (Sl r v a)) (h:(ev σ x,cQ.tab P T,Nat.blt d n.sz)=(some v,some ⟨.slice E,f,g,z⟩,true)) (k:J c n ((d,.int .i64 a.length)::σ) M L (wpList P ops Q rest)):J c n σ M L (wpList P ops Q (⟨some d,.call ⟨.builtin .len,#[x],#[T]⟩,ty,pos,aft,none⟩::rest)):=by
  simp only[Prod.mk.injEq]at h;exact aB (fX h.1 e h.2.1) h.2.2 k
variable {l:List Oper} {m:List Nat} {k0:Nat} {H Bs:List (Nat×List bE×List bE)} {rs:List Nat}
theorem jD {i a:Nat} {b:Op} (f:l[i]? = some ⟨some a,b,ty,pos,aft,none⟩) (k:Y P c n σ [] [] ⟨some a,b,ty,pos,aft,none⟩ v)
    (h:JR c n ((a,v)::σ) M L H ((i,[],[])::Bs) (RW P l.toArray Q (before m) (cU l) k0 rs))
    (g:Nat.blt i k0=true:=by exact rfl) (j:eT b=false:=by exact rfl) (e:Nat.blt a n.sz=true:=by exact rfl):JR c n σ M L H Bs (RW P l.toArray Q (before m) (cU l) k0 (i::rs)):=bJ f a_.nil AZ.nil k hkN h g j e
end
end Go.Sx
namespace Go.Sx
abbrev aR:=List Int
abbrev fZ:=List (Int×Int)
abbrev bF:=List aR
abbrev fV:=List fZ
abbrev IU:=(ByteArray×(List (ByteArray×Int×Int×Int×Int×Int))×(List (ByteArray×(Value×fZ)×(Value×List (Int×(Value×fZ))))))×((ByteArray×(List (ByteArray×Int×Int×Int×Int×Int))×(List (ByteArray×(Value×fZ)×(Value×List (Int×(Value×fZ))))))×(aR×fV)×Int×bF)×fV
abbrev yU:=ByteArray×(List (ByteArray×Int×Int×Int×Int×Int))×(List (ByteArray×(Value×fZ)×(Value×List (Int×(Value×fZ)))))
abbrev Pk:=((ByteArray×(List (ByteArray×Int×Int×Int×Int×Int))×(List (ByteArray×(Value×fZ)×(Value×List (Int×(Value×fZ))))))×(aR×fV)×Int×bF)×bF×Int×fZ
abbrev cD:=aR×fV
abbrev BW:=(List bF×(List (Int×Int×Int×Int×Int))×Int)
abbrev kA:=List (Value×fZ)
abbrev Xi:=(ByteArray×(List (ByteArray×Int×Int×Int×Int×Int))×(List (ByteArray×(Value×fZ)×(Value×List (Int×(Value×fZ))))))×(aR×fV)×Int×bF
abbrev q_:=List (Value×aR)
abbrev Er:=Int×aR×aR×aR×Bool×Bool
abbrev adt:=(((ByteArray×(List (ByteArray×Int×Int×Int×Int×Int))×(List (ByteArray×(Value×fZ)×(Value×List (Int×(Value×fZ))))))×(aR×fV)×Int×bF)×bF×Int×fZ)
abbrev fO:=List Value
abbrev Fi:=ByteArray×Int×Int×Int×Int×Int
abbrev Ef:=List (Int×Int×Int×Int×Int)
abbrev jO:=(Int×Int)
abbrev Jn:=List (ByteArray×Int×Int×Int×Int×Int)
abbrev gE:=Int×Int
abbrev uR:=((aR×fV))
abbrev lL:=Int×aR
abbrev rZ:=(Int×aR)
abbrev aat:=(Int×aR×Int×Int×Int×Int×Int×Int×bF×aR×(List (Int×Int×Int×Int×Int))×List bF)
abbrev aau:=Int×aR×Int×Int×Int×Int×Int×Int×bF×aR×(List (Int×Int×Int×Int×Int))×List bF
abbrev Jo:=Int×(List ((Int×Int)×Int))
abbrev Ia:=Int×Bool×Bool×Int×Int
abbrev aav:=(ByteArray×List (ByteArray×Int×Int×Int×Int×Int)×List (fZ×List (Int×fZ)))
abbrev Mc:=List (fZ×List (Int×fZ))
abbrev Nz:=(Int×(List ((Int×Int)×Int)))
abbrev pG:=List Nat
abbrev Jp:=Int×Int×Int×Int×Int
abbrev VK:=List bF×(List (Int×Int×Int×Int×Int))×Bool
abbrev RJ:=(ByteArray×Int×Int×Int×Int×Int)
abbrev NA:=Int×aR×fV×Int×bF
abbrev Jq:=Value×List Value
abbrev AU:=List bF
abbrev adV:=Int×Int×Int×Int×Int×Int×aR×aR×bF×(List (Int×Int×Int×Int×Int))×List bF
abbrev adW:=(List (Int×Int×Int×Int×Int))×List bF×aR×aR×bF×Int×Int×Int×Int×Int×Int
abbrev aaw:=((List (ByteArray×Int×Int×Int×Int×Int)))
abbrev aax:=(List (ByteArray×Int×Int×Int×Int×Int))
abbrev lB:Value:=Value.slice none 0 0
abbrev RR:List Value:=[lB,lB,lB,vI (0:Int),vI (0:Int),vI (0:Int),vI (0:Int),vU (0:Int)]
abbrev vD1:List Value:=[Value.pointer none,lB,vI (0:Int),vU (0:Int),Value.nilFunc]
abbrev vD2:List Value:=[vI (0:Int),vI (0:Int),vI (0:Int),vI (0:Int),vU (0:Int)]
abbrev vD3:List Value:=[vS (ByteArray.mk #[]),vI (0:Int),vI (0:Int),vI (0:Int),vI (0:Int),vI (0:Int)]
abbrev VO:List Value:=[vI (0:Int),vI (0:Int)]
abbrev vD5:List Value:=[vI (0:Int),vB (false),vB (false),vI (0:Int),vI (0:Int)]
end Go.Sx
namespace Go.Sx
open Go.RowKit
section
variable {P:Program} {c:uZ} {n:Sz} {σ:Fr} {M L:List bE} {d:Option Tmp} {ty:TypeId} {pos:String} {aft:Array Edge} {g:Option (Nat×Bool)} {α:Type} {e:dD α} {r:eQ α}
def Cfg {α:Type} (e:dD α) (v:Value) (l:List Value) (i:List (List α)):bE where
 p w F:=∃A B:Nat->Prop,Eg dD.raw w A v l∧(lK e l i).p w B∧(∀k,A k->F k)∧(∀k,B k->F k)∧∀k,A k->¬B k
 mono:=by
  rintro w x S u ⟨A,B,s,t,m,o,q⟩ j;exact⟨λk=>A k∧k<w.heap.size,λk=>B k∧k<w.heap.size,(Ar dD.raw v l).mono s λk f h=>⟨⟨f,h⟩,(j k (m k f) h).2⟩,(lK e l i).mono t λk f h=>⟨⟨f,h⟩,(j k (o k f) h).2⟩,λk f=>(j k (m k f.1) f.2).1,λk f=>(j k (o k f.1) f.2).1,λk a b=>q k a.1 b.1⟩
def Mh {α:Type} (e:dD α) (vs:List Value) (m:List (List Value)) (b:List (List (List α))):bE where
 p w F:=(vs.length=b.length∧m.length=b.length)∧∃G:Nat->Nat->Prop,(∀i v l a,vs[i]? = some v->m[i]? = some l->b[i]? = some a->(Cfg e v l a).p w (G i))∧(∀i k,G i k->F k)∧∀i j k,G i k->G j k->i=j
 mono:=by
  rintro w D S C ⟨y,G,s,o,t⟩ q;exact⟨y,λi k=>G i k∧k<w.heap.size,λi v l a z A B=>(Cfg e v l a).mono (s i v l a z A B) λk f h=>⟨⟨f,h⟩,(q k (o i k f) h).2⟩,λi k f=>(q k (o i k f.1) f.2).1,λi j k u x=>t i j k u.1 x.1⟩
theorem Bt (e:dD α):oM M L (Mh e [] [] []::M) L:=oM.add λw=>⟨⟨rfl,rfl⟩,λ_ _=>False,λi v f b a=>by simp at a,λ_ _ h=>h,λ_ _ _ h=>h.elim⟩
theorem Ut (i j:Nat) {v:Value} {f:List Value} {a:List (List α)} (b:Nat.beq i j=false) (m:M[i]? = some (Ar dD.raw v f)) (o:M[j]? = some (lK e f a)):oM M L ((M.set i (Cfg e v f a)).eraseIdx j) L:=λc w t=>
 t.merge i j (λe=>by subst e;simp at b) m o λh k l=>⟨_,_,h,k,λ_=> .inl,λ_=> .inr,l⟩
theorem Kv (i j:Nat) {u:Value} {us:List Value} {p:List (List α)} {vs:List Value} {l:List (List Value)} {b:List (List (List α))} (x:Nat.beq i j=false) (O:M[i]? = some (Mh e vs l b)) (Q:M[j]? = some (Cfg e u us p)):oM M L ((M.set i (Mh e (vs++[u]) (l++[us]) (b++[p]))).eraseIdx j) L:=λc w t=>
 t.merge i j (λe=>by subst e;simp at x) O Q (by
  rintro w S F ⟨⟨y,z⟩,G,H,s,I⟩ N C;refine⟨⟨by simp[y],by simp[z]⟩,λq k=>(q<vs.length∧G q k)∨(q=vs.length∧F k),?_,?_,?_⟩
  ·intro q v R B h m o;by_cases D:q<vs.length
   ·rw[zAa D]at h;rw[zAa (by omega)]at m o;exact bE.same (H q v R B h m o) (λk a=> .inl ⟨D,a⟩) (λ_ _ _=>rfl)
   ·rw[zA9 (by omega)]at h m o;have A:q - vs.length=0:=by have:=bH h;simp at this;omega
    rw[A]at h;rw[show q - l.length=0 by omega]at m;rw[show q - b.length=0 by omega]at o;simp at h m o;subst h;subst m;subst o;exact bE.same N (λk a=> .inr ⟨by omega,a⟩) (λ_ _ _=>rfl)
  ·rintro q k (⟨_,a⟩|⟨_,a⟩)
   ·exact .inl (s q k a)
   ·exact .inr a
  ·rintro q E k (⟨J,a⟩|⟨J,a⟩) (⟨K,f⟩|⟨K,f⟩)
   ·exact I q E k a f
   ·exact absurd f (C k (s q k a))
   ·exact absurd a (C k (s E k f))
   ·omega)
theorem Kw (i j:Nat) {us vs:List Value} {s m:List (List Value)} {h f:List (List (List α))} (B:Nat.beq i j=false) (T:M[i]? = some (Mh e vs m f)) (U:M[j]? = some (Mh e us s h)):oM M L ((M.set i (Mh e (vs++us) (m++s) (f++h))).eraseIdx j) L:=λc w t=>
 t.merge i j (λe=>by subst e;simp at B) T U (by
  rintro w V W ⟨⟨C,D⟩,G,O,z,Q⟩ ⟨⟨E,F⟩,N,y,l,A⟩ H;refine⟨⟨by simp[C,E],by simp[D,F]⟩,λq k=>(q<vs.length∧G q k)∨(vs.length<=q∧N (q - vs.length) k),?_,?_,?_⟩
  ·intro q v K u x o p;by_cases I:q<vs.length
   ·rw[zAa I]at x;rw[zAa (by omega)]at o p;exact bE.same (O q v K u x o p) (λk a=> .inl ⟨I,a⟩) (λ_ _ _=>rfl)
   ·rw[zA9 (by omega)]at x o p;rw[show q - m.length=q - vs.length by omega]at o;rw[show q - f.length=q - vs.length by omega]at p;exact bE.same (y _ v K u x o p) (λk a=> .inr ⟨by omega,a⟩) (λ_ _ _=>rfl)
  ·rintro q k (⟨_,a⟩|⟨_,a⟩)
   ·exact .inl (z q k a)
   ·exact .inr (l _ k a)
  ·rintro q J k (⟨R,a⟩|⟨R,a⟩) (⟨S,b⟩|⟨S,b⟩)
   ·exact Q q J k a b
   ·exact absurd (l _ k b) (H k (z q k a))
   ·exact absurd (l _ k a) (H k (z J k b))
   ·have:=A _ _ k a b;omega)
theorem xP (q:Nat) {vs:List Value} {b:List (List Value)} {a:List (List (List α))} (f:M[q]? = some (Mh e vs b a)):∀c w,St c M L w->vs.length=a.length:=λc w t=>by
 obtain⟨_,h⟩:=t.res f;exact h.1.1
theorem Py {j:Nat} {vs:List Value} {f:List (List Value)} {a:List (List (List α))} {k:Int} (x:M[j]? = some (Mh e vs f a)) (b:e.Fits r) (h:0<=k) (s:k<a.length):aE M L (S2 r (at' vs k) ((at' f k).zip (at' a k)) (at' a k)):=λw S T U D u E v=>by
 obtain⟨⟨y,z⟩,G,o,p,_⟩:=u j _ x;obtain⟨A,B,t,i,l,m,_⟩:=o k.toNat _ _ _ (jW h (by omega)) (jW h (by omega)) (jW h s);refine⟨(Vw b t i).mono λq C _=>⟨v j q (p _ q (C.elim (l q) (m q))),rfl⟩,?_⟩
 rw[List.map_snd_zip];obtain⟨F,_⟩:=i;omega
theorem Hk [cQ P] (i j:Nat) {T E:TypeId} {o p:Nat} {z:Value} {x:Operand} {v:Value} {vs:List Value} {f:List (List Value)} {b:List (List (List α))} (m:ev σ x=some v) (k:M[i]? = some (Ar dD.raw v vs)) (l:M[j]? = some (Mh e vs f b))
  (h:cQ.tab P T=some ⟨.slice E,o,p,z⟩):Y P c n σ M L ⟨d,.call ⟨.builtin .len,#[x],#[T]⟩,ty,pos,aft,g⟩ (.int .i64 b.length):=λa w s t=>by
 rw[<-xP j l c w t];exact aeq i m k h a w s t
theorem Kq (i:Nat) {v:Value} {l:List α} (j:M[i]? = some (Ar e v l)):∀c w,St c M L w->Sx.one v=true:=λc w t=>by
 obtain⟨_,_,_,h⟩:=t.res j;rcases h with⟨q,_⟩|⟨b,k,a,T,f,q,_⟩<;>rw[q]<;>rfl
end
section
variable {P:Program} {c:uZ} {n:Sz} {σ:Fr} {M L:List bE} {d:Option Tmp} {ty:TypeId} {pos:String} {aft:Array Edge} {g:Option (Nat×Bool)} {α:Type} {e:dD α}
theorem XW [cQ P] {T:TypeId} {G H l m:Nat} {z o:Value} {j:Array Field} {E I F:String} {r:Bool} {k b p:Nat} {h:TypeDesc} {x:Operand} {vs:List Value} {v:Value} {f:Nat} (D:ev σ x=some (.agg vs.toArray))
  (y:cQ.tab P T=some ⟨.struct j,G,H,z⟩) (B:j[f]? = some ⟨E,k,b,r,I,F,p⟩) (u:cQ.tab P k=some ⟨h,l,m,o⟩) (A:xS h=false) (C:vs[b]? = some v):
  Y P c n σ M L ⟨d,.field T x f,ty,pos,aft,g⟩ v:=λa w s t=>by
 have i:=(cQ.ok u).run_agg w;have q:xS (Ty.mk h l m o).desc=false:=A;rw[q]at i;simp[execOp,s.eval D,Instr.field,(cQ.ok y).run_und w,B,asAgg,part,i,C]
end
end Go.Sx
namespace Go.Proofs.YtlkhndebimcbbaaGreatDoor
open Go.Sx
def JL:aR:=[0,1,1,2,1,2,2,3,1,2,2,3,2,3,3,4,1,2,2,3,2,3,3,4,2,3,3,4,3,4,4,5,1,2,2,3,2,3,3,4,2,3,3,4,3,4,4,5,2,3,3,4,3,4,4,5,3,4,4,5,4,5,5,6,1,2,2,3,2,3,3,4,2,3,3,4,3,4,4,5,2,3,3,4,3,4,4,5,3,4,4,5,4,5,5,6,2,3,3,4,3,4,4,5,3,4,4,5,4,5,5,6,3,4,4,5,4,5,5,6,4,5,5,6,5,6,6,7,1,2,2,3,2,3,3,4,2,3,3,4,3,4,4,5,2,3,3,4,3,4,4,5,3,4,4,5,4,5,5,6,2,3,3,4,3,4,4,5,3,4,4,5,4,5,5,6,3,4,4,5,4,5,5,6,4,5,5,6,5,6,6,7,2,3,3,4,3,4,4,5,3,4,4,5,4,5,5,6,3,4,4,5,4,5,5,6,4,5,5,6,5,6,6,7,3,4,4,5,4,5,5,6,4,5,5,6,5,6,6,7,4,5,5,6,5,6,6,7,5,6,6,7,6,7,7,8]
theorem Oh:KD (ByteArray.mk #[0,1,1,2,1,2,2,3,1,2,2,3,2,3,3,4,1,2,2,3,2,3,3,4,2,3,3,4,3,4,4,5,1,2,2,3,2,3,3,4,2,3,3,4,3,4,4,5,2,3,3,4,3,4,4,5,3,4,4,5,4,5,5,6,1,2,2,3,2,3,3,4,2,3,3,4,3,4,4,5,2,3,3,4,3,4,4,5,3,4,4,5,4,5,5,6,2,3,3,4,3,4,4,5,3,4,4,5,4,5,5,6,3,4,4,5,4,5,5,6,4,5,5,6,5,6,6,7,1,2,2,3,2,3,3,4,2,3,3,4,3,4,4,5,2,3,3,4,3,4,4,5,3,4,4,5,4,5,5,6,2,3,3,4,3,4,4,5,3,4,4,5,4,5,5,6,3,4,4,5,4,5,5,6,4,5,5,6,5,6,6,7,2,3,3,4,3,4,4,5,3,4,4,5,4,5,5,6,3,4,4,5,4,5,5,6,4,5,5,6,5,6,6,7,3,4,4,5,4,5,5,6,4,5,5,6,5,6,6,7,4,5,5,6,5,6,6,7,5,6,6,7,6,7,7,8])=JL:=by kernel_rfl
def xO:aR:=[0,1,28,2,29,14,24,3,30,22,20,15,25,17,4,8,31,27,13,23,21,19,16,7,26,12,18,6,11,5,10,9]
theorem _root_.Go.Sx.Y.bld5 {P:Program} {c:uZ} {n:Sz} {a:Fr} {M L:List bE} {d:Option Tmp} {E:TypeId} {k:String} {j:Array Edge} {g:Option (Nat×Bool)} {T:TypeId} {b e f h i:Nat} {s t u v x:Operand} {l m o p q:Value} {r:Value} (y:ev a s=some l) (z:ev a t=some m) (A:ev a u=some o) (B:ev a v=some p) (C:ev a x=some q) (D:∀w,(Instr.build T ([(b,l),(e,m),(f,o),(h,p),(i,q)]:List (Nat×Value)).toArray).run P w = .ok r w):Y P c n a M L ⟨d,.build T #[(b,s),(e,t),(f,u),(h,v),(i,x)],E,k,j,g⟩ r:=
 Bm (ps:=[(b,s),(e,t),(f,u),(h,v),(i,x)]) (vs:=[(b,l),(e,m),(f,o),(h,p),(i,q)]) (by simp[y,z,A,B,C]) D
abbrev ESt:dD ByteArray:=⟨1,Nat.one_pos,λx=>[.string x],λ_=>rfl⟩
abbrev RSt:eQ ByteArray:=⟨1,Nat.one_pos,λ_ _ a x=>a=[.string x],λh=>by simp[h],λh _=>h⟩
theorem FSt:ESt.Fits RSt:=⟨rfl,λh=>h,rfl,λ_=>rfl⟩
abbrev bZ:dD Int:=dD.int .i64
abbrev bN:eQ Int:=eQ.int .i64
theorem dK:bZ.Fits bN:=G_ .i64
theorem cR:bN.Cell 0 (λx=> .int .i64 x):=He .i64
abbrev iV:dD RJ:=dD.pair ESt (dD.pair bZ (dD.pair bZ (dD.pair bZ (dD.pair bZ (bZ)))))
abbrev aS:eQ RJ:=eQ.pair RSt (eQ.pair bN (eQ.pair bN (eQ.pair bN (eQ.pair bN (bN)))))
theorem iW:iV.Fits aS:=jG FSt (jG dK (jG dK (jG dK (jG dK (dK)))))
theorem y_:aS.Cell 1 (λx=> .int .i64 x.2.1):=cK (lT (cR))
theorem Ej:aS.Cell 2 (λx=> .int .i64 x.2.2.1):=cK (cK (lT (cR)))
theorem Ek:aS.Cell 3 (λx=> .int .i64 x.2.2.2.1):=cK (cK (cK (lT (cR))))
theorem El:aS.Cell 4 (λx=> .int .i64 x.2.2.2.2.1):=cK (cK (cK (cK (lT (cR)))))
theorem Em:aS.Cell 5 (λx=> .int .i64 x.2.2.2.2.2):=cK (cK (cK (cK (cK (cR)))))
abbrev cG:dD jO:=dD.pair bZ (bZ)
abbrev bA:eQ jO:=eQ.pair bN (bN)
theorem bS:cG.Fits bA:=jG dK (dK)
theorem nF:bA.Cell 0 (λx=> .int .i64 x.1):=lT (cR)
theorem Gs:bA.Cell 1 (λx=> .int .i64 x.2):=cK (cR)
abbrev sD:eQ (Int×(Value×fZ)):=eQ.pair bN ((eQ.sl bA))
theorem Mi:sD.All 2 (λx=>[Value.int .i64 (x.1),x.2.1]):=(NT (SD dK) (SE bA))
theorem DZ:sD.Deep bA (λx=>x.2):=Fu (Ev bA)
abbrev aL:eQ (ByteArray×(Value×fZ)×(Value×List (Int×(Value×fZ)))):=eQ.pair RSt (eQ.pair (eQ.sl bA) ((eQ.sl sD)))
theorem AW:aL.Cell 1 (λx=>x.2.1.1):=cK (lT (eQ.sl_cell bA))
theorem AY:aL.Deep bA (λx=>x.2.1):=Fu (We (Ev bA))
theorem AX:aL.Cell 2 (λx=>x.2.2.1):=cK (cK (eQ.sl_cell sD))
theorem gX:aL.Deep sD (λx=>x.2.2):=Fu (Fu (Ev sD))
abbrev EFn:dD Nat:=dD.fn
abbrev RFn:eQ Nat:=eQ.fn
theorem FFn:EFn.Fits RFn:=Ps
abbrev JE:dD (Int×Nat):=dD.pair bZ (EFn)
abbrev abg:eQ (Int×Nat):=eQ.pair bN (RFn)
theorem BY:JE.Fits abg:=jG dK (FFn)
abbrev EBo:dD Bool:=dD.bool
abbrev RBo:eQ Bool:=eQ.bool
theorem FBo:EBo.Fits RBo:=Mj
theorem adE:RBo.Cell 0 (λx=> .bool x):=λh=>by simp[show _=[_]from h]
abbrev qD:dD Int:=dD.int .u32
abbrev Ak:eQ Int:=eQ.int .u32
theorem wS:qD.Fits Ak:=G_ .u32
theorem Im:Ak.Cell 0 (λx=> .int .u32 x):=He .u32
abbrev Ig:dD Int:=dD.int .u8
abbrev cE:dD (Int×Int×Int×Int×Int):=dD.pair bZ (dD.pair bZ (dD.pair bZ (dD.pair bZ (qD))))
abbrev sO:eQ (Int×Int×Int×Int×Int):=eQ.pair bN (eQ.pair bN (eQ.pair bN (eQ.pair bN (Ak))))
theorem jA:cE.Fits sO:=jG dK (jG dK (jG dK (jG dK (wS))))
theorem FL:sO.Cell 1 (λx=> .int .i64 x.2.1):=cK (lT (cR))
theorem FM:sO.Cell 3 (λx=> .int .i64 x.2.2.2.1):=cK (cK (cK (lT (cR))))
def RU (x:Int):Value:=Value.int .i64 (x)
def n_ (x:gE):Value:=Value.agg #[Value.int .i64 (x.1),Value.int .i64 (x.2)]
theorem acL (x y:Ia) (m:Nat) (w:World):(Op.equalIn (m+2) 51 (.agg #[.int .i64 x.1,.bool x.2.1,.bool x.2.2.1,.int .i64 x.2.2.2.1,.int .i64 x.2.2.2.2]) (.agg #[.int .i64 y.1,.bool y.2.1,.bool y.2.2.1,.int .i64 y.2.2.2.1,.int .i64 y.2.2.2.2])).run Tryz.prog w = .ok (decide (x=y)) w:=by
 have c:∀a b:Int,(Op.equalIn (m+1) 3 (.int .i64 a) (.int .i64 b)).run Tryz.prog w = .ok (a==b) w:=by
  intro a b;simp[Op.equalIn]
 have d:∀a b:Bool,(Op.equalIn (m+1) 4 (.bool a) (.bool b)).run Tryz.prog w = .ok (a==b) w:=by
  intro a b;simp[Op.equalIn]
 have u:Tryz.prog.stoodInHeld 51=false:=by kernel_rfl
 unfold Op.equalIn;simp[u,part,isAgg,c,d];obtain⟨e,f,g,h,i⟩:=x;obtain⟨j,k,l,n,o⟩:=y;by_cases p:e=j<;>by_cases q:f=k<;>by_cases r:g=l<;>by_cases s:h=n<;>by_cases t:i=o<;>simp[p,q,r,s,t,c,d]
theorem WI (x y:Operand) (u v:Array Value) (a:BinOp) (w:World):(eqGuard a 51 x y (.agg u) (.agg v)).run Tryz.prog w = .ok () w:=by
 have b:Tryz.prog.eqGuardType Tryz.prog.depth 51=false:=by kernel_rfl
 unfold eqGuard;cases a<;>simp[b]
theorem aco (x y:Ia) (p q:Operand) (w:World):(eqGuard .neq 51 p q (.agg #[.int .i64 x.1,.bool x.2.1,.bool x.2.2.1,.int .i64 x.2.2.2.1,.int .i64 x.2.2.2.2]) (.agg #[.int .i64 y.1,.bool y.2.1,.bool y.2.2.1,.int .i64 y.2.2.2.1,.int .i64 y.2.2.2.2])).run Tryz.prog w = .ok () w∧(binOp .neq 51 (.agg #[.int .i64 x.1,.bool x.2.1,.bool x.2.2.1,.int .i64 x.2.2.2.1,.int .i64 x.2.2.2.2]) (.agg #[.int .i64 y.1,.bool y.2.1,.bool y.2.2.1,.int .i64 y.2.2.2.1,.int .i64 y.2.2.2.2])).run Tryz.prog w = .ok (.bool (decide (x≠y))) w:=by
 refine⟨WI _ _ _ _ _ _,?_⟩
 have h:(Op.equal 51 (.agg #[.int .i64 x.1,.bool x.2.1,.bool x.2.2.1,.int .i64 x.2.2.2.1,.int .i64 x.2.2.2.2]) (.agg #[.int .i64 y.1,.bool y.2.1,.bool y.2.2.1,.int .i64 y.2.2.2.1,.int .i64 y.2.2.2.2])).run Tryz.prog w = .ok (decide (x=y)) w:=acL x y 9998 w;simp[binOp,h]
theorem Zw (x y:gE) (m:Nat) (w:World):(Op.equalIn (m+2) 138 (.agg #[.int .i64 x.1,.int .i64 x.2]) (.agg #[.int .i64 y.1,.int .i64 y.2])).run Tryz.prog w = .ok (decide (x=y)) w:=by
 have c:∀a b:Int,(Op.equalIn (m+1) 3 (.int .i64 a) (.int .i64 b)).run Tryz.prog w = .ok (a==b) w:=by
  intro a b;simp[Op.equalIn]
 unfold Op.equalIn;simp[show List.range' 0 2=[0,1]from rfl,part,isAgg,c];obtain⟨d,e⟩:=x;obtain⟨f,g⟩:=y;by_cases h:d=f<;>by_cases i:e=g<;>simp[h,i,c]
theorem Yx (b:Bool) (k:gE) (w:World):(Instr.checkKey b 10000 138 (n_ k)).run Tryz.prog w = .ok () w:=by
 have a:∀m:Nat,(Instr.checkKey b (m+2) 138 (n_ k)).run Tryz.prog w = .ok () w:=by
  intro m;simp[Instr.checkKey,n_,part,isAgg,show List.range' 0 2=[0,1]from rfl]
 exact a 9998
theorem OA:Kp Tryz.prog 138 n_:=Sy Tryz.underlying138 Yx (λ_ _=>rfl) (λa b w=>Zw a b 9998 w) (λk=>by
 have c:∀m:Nat,Instr.sameBits (m+2) (n_ k) (n_ k)=true:=λm=>by simp[Instr.sameBits,n_]
 exact c 9998)
theorem l_ (b:Value) (c:one b=true) (a:Array Value) (h:a.size=1*1):Instr.fill (λi=>some (i*1,1)) a [(0,b)]=some [b].toArray:=by
 obtain⟨l⟩:=a
 match l,h with
 | [z0],_=>simp[Instr.fill,eO c]
theorem Ao (b c:Value) (a:Array Value) (h:a.size=1*2):Instr.fill (λi=>some (i*2,2)) a [(0,.agg #[b,c])]=some [b,c].toArray:=by
 obtain⟨l⟩:=a
 match l,h with
 | [z0,z1],_=>simp[Instr.fill,Value.cells]
theorem Qw (b c d e f:Value) (a:Array Value) (h:a.size=1*5):Instr.fill (λi=>some (i*5,5)) a [(0,.agg #[b,c,d,e,f])]=some [b,c,d,e,f].toArray:=by
 obtain⟨l⟩:=a
 match l,h with
 | [z0,z1,z2,z3,z4],_=>simp[Instr.fill,Value.cells]
theorem KW (b c:Value) (d:one b=true) (e:one c=true) (a:Array Value) (h:a.size=2*1):Instr.fill (λi=>some (i*1,1)) a [(0,b),(1,c)]=some [b,c].toArray:=by
 obtain⟨l⟩:=a
 match l,h with
 | [z0,z1],_=>simp[Instr.fill,eO d,eO e]
theorem KX (d e f g j k m n o p b c:Value) (a:Array Value) (h:a.size=2*6):Instr.fill (λi=>some (i*6,6)) a [(0,.agg #[d,e,f,g,j,k]),(1,.agg #[m,n,o,p,b,c])]=some [d,e,f,g,j,k,m,n,o,p,b,c].toArray:=by
 obtain⟨l⟩:=a
 match l,h with
 | [z0,z1,z2,z3,z4,z5,z6,z7,z8,z9,z10,z11],_=>simp[Instr.fill,Value.cells]
theorem YY (b c d e f g:Value) (a:Array Value) (h:a.size=3*2):Instr.fill (λi=>some (i*2,2)) a [(0,.agg #[b,c]),(1,.agg #[d,e]),(2,.agg #[f,g])]=some [b,c,d,e,f,g].toArray:=by
 obtain⟨l⟩:=a
 match l,h with
 | [z0,z1,z2,z3,z4,z5],_=>simp[Instr.fill,Value.cells]
theorem YZ (b c d e:Value) (f:one b=true) (g:one c=true) (j:one d=true) (k:one e=true) (a:Array Value) (h:a.size=4*1):Instr.fill (λi=>some (i*1,1)) a [(0,b),(1,c),(2,d),(3,e)]=some [b,c,d,e].toArray:=by
 obtain⟨l⟩:=a
 match l,h with
 | [z0,z1,z2,z3],_=>simp[Instr.fill,eO f,eO g,eO j,eO k]
theorem Y_ (b c d e f g:Value) (j:one b=true) (k:one c=true) (m:one d=true) (n:one e=true) (o:one f=true) (p:one g=true) (a:Array Value) (h:a.size=6*1):Instr.fill (λi=>some (i*1,1)) a [(0,b),(1,c),(2,d),(3,e),(4,f),(5,g)]=some [b,c,d,e,f,g].toArray:=by
 obtain⟨l⟩:=a
 match l,h with
 | [z0,z1,z2,z3,z4,z5],_=>simp[Instr.fill,eO j,eO k,eO m,eO n,eO o,eO p]
def wB  (a:aR):Option aR:=
 some (a)
def rT (c:Int×aR×aR) (b:(Int×aR×aR)->Option aR) (a:aR×aR):Option aR:=
 b ((wI .i64 (c.1+(1:Int))),a.1,a.2)
def rU (c:cD) (b:aR×aR) (e:(aR×aR)->Option aR) (a:Int×aR×aR) (d:(Int×aR×aR)->Option aR):Option aR:=
 if a.1<((at' c.2 (at' b.1 (0:Int))).length:Int)then(ck (0<=a.1∧a.1<((at' c.2 (at' b.1 (0:Int))).length:Int)) (ck (0<=((at' (at' c.2 (at' b.1 (0:Int))) a.1).1)∧((at' (at' c.2 (at' b.1 (0:Int))) a.1).1)<(a.2.2.length:Int)) (if(at' a.2.2 ((at' (at' c.2 (at' b.1 (0:Int))) a.1).1))<(0:Int)then(ck (0<=(at' b.1 (0:Int))∧(at' b.1 (0:Int))<(a.2.2.length:Int)) (ck (0<=((at' (at' c.2 (at' b.1 (0:Int))) a.1).1)∧((at' (at' c.2 (at' b.1 (0:Int))) a.1).1)<(a.2.2.length:Int)) (ck ((a.2.1.length:Int)+(List.length ([((at' (at' c.2 (at' b.1 (0:Int))) a.1).1)]):Int)<=1099511627) (rT a d ((a.2.1++([((at' (at' c.2 (at' b.1 (0:Int))) a.1).1)])),(List.set a.2.2 (Int.toNat ((at' (at' c.2 (at' b.1 (0:Int))) a.1).1)) (wI .i64 ((at' a.2.2 (at' b.1 (0:Int)))+(1:Int)))))))))else(rT a d (a.2.1,a.2.2)))))else(e (a.2.1,a.2.2))
def oP (U:Nat) (c:cD) (a:aR×aR) (b:(aR×aR)->Option aR):Option aR:=
 if(0:Int)<(a.1.length:Int)then(ck (0<=(0:Int)∧(0:Int)<(a.1.length:Int)) (ck (0<=(1:Int)∧(1:Int)<=(a.1.length:Int)) (ck (0<=(at' a.1 (0:Int))∧(at' a.1 (0:Int))<(c.2.length:Int)) (bI (rU c a b) U ((0:Int),(List.drop (Int.toNat (1:Int)) a.1),a.2)))))else(wB  (a.2))
def AD (U:Nat) (c:cD) (a:Int) (b:aR):Option aR:=
 ck (0<=a∧a<(b.length:Int)) (bI (oP U c) U (([a]),(List.set b (Int.toNat a) (0:Int))))
def AE (U:Nat) (c:cD) (d:Int) (a:lL) (b:rZ->Option aR):Option aR:=
 if a.1<((List.replicate (Int.toNat (List.length c.2:Int)) (0:Int)).length:Int)then(ck (0<=a.1∧a.1<(a.2.length:Int)) (b ((wI .i64 (a.1+(1:Int))),(List.set a.2 (Int.toNat a.1) (-1:Int)))))else(AD U c d (a.2))
def kG (U:Nat) (a:cD) (b:Int):Option aR:=
 ck (0<=(a.2.length:Int)∧(a.2.length:Int)<=1099511627) (bI (AE U a b) U ((0:Int),(List.replicate (Int.toNat (a.2.length:Int)) (0:Int))))
theorem SZ:aW Tryz.prog 61:=Tryz.call61
theorem BM (U:Nat) {d:cD} {o:Int} (s:Value)  (t:Value)  (M:kA) (r:aR) (h:kG U d o=some r):
  aY Tryz.prog 61 #[Value.agg #[s,t],vI (o)] [Sl bN s d.1,S2 bA t M d.2] (λx:Value=>x) (λx l=>Ar bZ x r::l) (λ_ l=>l):=by
 refine aY.of Tryz.func61 Z Tryz.ntmps61 Z λc=>?_;refine aX<|aH (aO.box (cs:=[s,t]) Z Z) Z λp=>aD Z<|aN<|aX<|bX Z<|dQ 0 Z<|aB (gU Z (aE.fact 1 Z) Z) Z<|cT h λQ h=>aH (mL (e:=bZ) (0:Int) Z Z Z Z Q Z Z Z) Z λk=>aD Z<|aN<|aK<|dW (λu=>AD U d o u=some r) (λu N=>[(1,vI (o)),(2,vP p),(5,k)]) (λu N=>[Ar bZ k u,bV p [s,t] 28]) ?_ ?_
 ·refine aX<|aA Z<|aB (fX Z (bB (aE.res 0 Z) dK) Z) Z<|aA Z<|aN<|aT<|dX (AE U d o) (λg w=>[(1,vI (o)),(2,vP p),(5,k),(16,vI ((List.replicate (Int.toNat (List.length d.2:Int)) (0:Int)).length:Int)),(17,vI (g.1))]) (λg w=>[Ar bZ k g.2,bV p [s,t] 28]) ((0:Int),(List.replicate (Int.toNat (d.2.length:Int)) (0:Int))) () h SF (a_.refl _) ?_;intro R g w h;refine aX<|cM Z<|aN<|aK ?_;refine fD h Z (λh=>?_) λh=>?_
  ·refine cL<|aK<|aT<|aX<|aA Z<|aD Z<|aN<|aQ<|aA Z<|aA Z<|cT h λF h=>aB (aZ Z Z (bB (aE.res 0 Z) dK) Z Z F) Z<|vA 0 (-1:Int) F Z Z Z Z Z Z Z<|eM<|mN<|aQ<|cJ Z<|aA Z<|aN ?_;exact xR ((wI .i64 (g.1+(1:Int))),(List.set g.2 (Int.toNat g.1) (-1:Int))) () h SF Z
  refine e_ ?_;exact gJ (g.2) () h SF Z
 intro u N h;refine aX<|aA Z<|aA Z<|cT h λO h=>aB (aZ Z Z (bB (aE.res 0 Z) dK) Z Z O) Z<|vA 0 (0:Int) O Z Z Z Z Z Z Z<|aN<|aX<|aA Z<|aH (cA (e:=bZ) ([o]) [(0,vI (o))] Z Z Z Z (l_ (vI (o)) Z) Z Z Z) Z λT=>aD Z<|aN<|aK<|dW (λm=>wB  m=some r) (λm v=>[(5,k)]) (λm v=>[Ar bZ k m]) ?_ ?_
 ·refine aT<|dX (B:=Value) (oP U d) (λa q=>[(2,vP p),(5,k),(7,q)]) (λa q=>[Ar bZ q a.1,Ar bZ k a.2,bV p [s,t] 28]) (([o]),(List.set u (Int.toNat o) (0:Int))) (T) h SF (a_.refl _) ?_;intro G a q h;refine aK<|aX<|aA Z<|aB (fX Z (bB (aE.res 0 Z) dK) Z) Z<|aB (xQ Z Z) Z<|aN ?_;refine fD h Z (λh=>?_) λh=>?_
  ·refine cL<|aT<|aX<|aA Z<|cT h λy h=>aB (aZ Z Z (bB (aE.res 0 Z) dK) Z Z y) Z<|aB (bR Z (bB (aE.res 0 Z) dK) Z Z Z cR y) Z<|aD Z<|aN<|aX<|aA Z<|cT h λH h=>aH (Pz 0 H Z Z Z Z Z Z) Z λK=>aD Z<|aN<|aX<|bX Z<|dQ 2 Z<|aA Z<|cT h λi h=>aB (cC Z Z (aE.fact 1 Z) Z Z i) Z<|aB (b_ Z (aE.fact 1 Z) Z Z i) Z<|aB (fX Z (zBb (aE.fact 1 Z) i.1 i.2) Z) Z<|aA Z<|aN<|aT<|dX (B:=Value) (rU d a (bI (oP U d) G)) (λb j=>[(2,vP p),(5,k),(7,j),(8,vI (at' a.1 (0:Int))),(41,(at' M (at' a.1 (0:Int))).1),(42,vI ((at' d.2 (at' a.1 (0:Int))).length:Int)),(43,vI (b.1))]) (λb j=>[Ar bZ j b.2.1,Ar bZ k b.2.2,bV p [s,t] 28]) ((0:Int),(List.drop (Int.toNat (1:Int)) a.1),a.2) (K) h SF (a_.refl _) ?_;intro J b j h;refine aX<|cM Z<|aN<|aK ?_;refine fD h Z (λh=>?_) λh=>?_
   ·refine cL<|aK<|CR (B:=Value) (λf=>rT b (bI (rU d a (bI (oP U d) G)) J) f=some r) (λf n=>[(2,vP p),(5,k),(7,n),(8,vI (at' a.1 (0:Int))),(41,(at' M (at' a.1 (0:Int))).1),(42,vI ((at' d.2 (at' a.1 (0:Int))).length:Int)),(43,vI (b.1))]) (λf n=>[Ar bZ n f.1,Ar bZ k f.2,bV p [s,t] 28]) ?_ ?_
    ·refine aT<|aX<|cT h λA h=>aB (aZ Z Z (zBb (aE.fact 1 Z) i.1 i.2) Z Z A) Z<|aB (iX (cs:=[vI ((at' (at' d.2 (at' a.1 (0:Int))) b.1).1),vI ((at' (at' d.2 (at' a.1 (0:Int))) b.1).2)]) Z (zBb (aE.fact 1 Z) i.1 i.2) bS Z Z Z Z A) Z<|aH (aO.alloc (cs:=VO) Z Z) Z λP=>bQ 0 (vs:=[vI ((at' (at' d.2 (at' a.1 (0:Int))) b.1).1),vI ((at' (at' d.2 (at' a.1 (0:Int))) b.1).2)]) Z Z Z Z Z Z<|aN<|aX<|aA Z<|bX Z<|dQ 0 Z<|cT h λC h=>aB (aZ Z Z (bB (aE.res 2 Z) dK) Z Z C) Z<|aB (bR Z (bB (aE.res 2 Z) dK) Z Z Z cR C) Z<|cM Z<|aN ?_;refine fD h Z (λh=>?_) λh=>?_
     ·refine aK ?_;refine JR.start [0,0,2,0,0,24,56,120,255,511] 8 mixedOrders (by decide +kernel) ?_;refine zBd (by exact rfl) ?_;refine bG Z<|dB Z<|iZ 0 Z<|bG Z<|bG Z<|cT h λD h=>bJ Z (a_.cons 2 Z .nil) .nil (aZ Z Z (bB (aE.res 0 Z) dK) Z Z D) aM.z<|bJ Z (a_.cons 2 Z .nil) .nil (bR Z (bB (aE.res 0 Z) dK) Z Z Z cR D) aM.z<|jD Z (Az Z Z)<|bO 8 Z Z<|cT h λE h=>aB (aZ Z Z (bB (aE.res 2 Z) dK) Z Z E) Z<|vA 2 (wI .i64 ((at' b.2.2 (at' a.1 (0:Int)))+(1:Int))) E Z Z Z Z Z Z Z<|aN<|aQ<|aA Z<|bX Z<|dQ 0 Z<|aH (cA (e:=bZ) ([((at' (at' d.2 (at' a.1 (0:Int))) b.1).1)]) [(0,vI ((at' (at' d.2 (at' a.1 (0:Int))) b.1).1))] Z Z Z Z (l_ (vI ((at' (at' d.2 (at' a.1 (0:Int))) b.1).1)) Z) Z Z Z) Z λS=>cT h λI h=>aH (eW 2 dK Z Z Z (bB (aE.res 0 Z) dK) Z Z Z Z I Z) Z λL=>aD Z<|eM<|mN ?_;exact cF ((b.2.1++([((at' (at' d.2 (at' a.1 (0:Int))) b.1).1)])),(List.set b.2.2 (Int.toNat ((at' (at' d.2 (at' a.1 (0:Int))) b.1).1)) (wI .i64 ((at' b.2.2 (at' a.1 (0:Int)))+(1:Int))))) (L) h SF (a_.ix [2,3,4] Z Z) (aG.refl _ _)
     refine dY<|mN ?_;exact cF (b.2.1,b.2.2) (j) h SF (a_.ix [1,2,3] Z Z) (aG.refl _ _)
    intro f n h;unfold rT at h;refine aQ<|cJ Z<|aA Z<|aN ?_;exact xR ((wI .i64 (b.1+(1:Int))),f.1,f.2) (n) h SF Z
   refine pH<|d_<|d_<|u_<|mN ?_;exact xR (b.2.1,b.2.2) (j) h SF Z
  refine e_ ?_;exact cF (a.2) () h SF (a_.ix [1] Z Z) (aG.refl _ _)
 intro m v h;unfold wB at h;refine aX<|aA Z<|aD Z<|aN<|aV ?_;cases h;exact fP (k) Z Z (RV.tmp Z) (a_.refl _) aG.nil
def oG  (a:Unit):Option Bool:=
 some (true)
def jF (d:aR) (a:Int×List (Bool)) (c:(Int×List (Bool))->Option Bool) (b:Bool):Option Bool:=
 if b=true then(some (false))else(ck ((0<=(at' d a.1)∧(at' d a.1)<((256:Nat):Int))∧a.2.length=256) (c ((wI .i64 (a.1+(1:Int))),(List.set a.2 (Int.toNat (at' d a.1)) true))))
def gV (b:aR) (a:Int×List (Bool)) (c:(Int×List (Bool))->Option Bool):Option Bool:=
 if a.1<(b.length:Int)then(ck (0<=a.1∧a.1<(b.length:Int)) (if(at' b a.1)<(0:Int)then(jF b a c (true))else(if(255:Int)<(at' b a.1)then(jF b a c (true))else(ck ((0<=(at' b a.1)∧(at' b a.1)<((256:Nat):Int))∧a.2.length=256) (jF b a c ((at' a.2 (at' b a.1))))))))else(oG  (()))
def j_ (U:Nat) (a:aR):Option Bool:=
 bI (gV a) U ((0:Int),(List.replicate 256 false))
theorem abE:aW Tryz.prog 118:=Tryz.call118
theorem E_ (U:Nat) {d:aR} (n:Value) (r:Bool) (h:j_ U d=some r):
  aY Tryz.prog 118 #[n] [Sl bN n d] (λx:Unit=>vB (r)) (λx l=>l) (λ_ l=>l):=by
 refine aY.of Tryz.func118 Z Tryz.ntmps118 Z λc=>?_;unfold j_ at h;refine aX<|aD Z<|aN<|aX ?_;refine aH (aO.alloc (cs:=cellsOf EBo (List.replicate 256 false)) Z (by kernel_rfl)) Z λm=>?_;refine aN<|aK<|dW (λk=>oG  k=some r) (λk o=>[]) (λk o=>[]) ?_ ?_
 ·refine aX<|aA Z<|jN (aE.fact 0 Z) Z<|aA Z<|aN<|aT<|dX (gV d) (λa p=>[(3,vP m),(6,n),(7,vI (d.length:Int)),(8,vI (a.1))]) (λa p=>[bV m (cellsOf EBo a.2) 203]) ((0:Int),(List.replicate 256 false)) () h SF (a_.refl _) ?_;intro q a p h;refine aX<|cM Z<|aN<|aK ?_;refine fD h Z (λh=>?_) λh=>?_
  ·refine cL<|aK<|aT<|aX<|cT h λg h=>aB (aZ Z Z (aE.fact 0 Z) Z Z g) Z<|aB (bR Z (aE.fact 0 Z) Z Z Z cR g) Z<|aD Z<|aN<|aK<|aK<|dW (λb=>jF d a (bI (gV d) q) b=some r) (λb f=>[(3,vP m),(5,vI (at' d a.1)),(6,n),(7,vI (d.length:Int)),(8,vI (a.1)),(22,vB (b))]) (λb f=>[bV m (cellsOf EBo a.2) 203]) ?_ ?_
   ·refine aQ<|aA Z<|cM Z<|aA Z ?_;refine Eo h Z (λ_ h=>?_) λ_ h=>?_
    ·refine aI Z<|aI Z<|dO Z<|aA Z<|aI Z<|aI Z<|aI Z<|dO Z<|aN ?_;exact gJ (true) () h SF Z
    refine cP Z<|aP Z (xQ Z Z) Z<|fH Z<|aA Z ?_;refine Eo h Z (λ_ h=>?_) λ_ h=>?_
    ·refine aI Z<|aI Z<|aI Z<|dO Z<|aN ?_;exact gJ (true) () h SF Z
    refine cP Z<|cT h λj h=>aP Z (pJ Z Z Z Z Z j.1) Z<|aP Z (Wj (e:=EBo) Z (aE.res 0 Z) Z Z Z Z j) Z<|fH Z<|aN ?_;exact gJ ((at' a.2 (at' d a.1))) () h SF Z
   intro b f h;refine Am h Z (λ_ h=>?_) λ_ h=>?_
   ·refine aX<|aD Z<|aN<|aV<|aJ<|bM<|aJ<|aJ<|bM<|aJ ?_;cases h;exact rX Z
   refine cL<|aQ<|aA Z<|cT h λi h=>aB (pJ Z Z Z Z Z i.1) Z<|Kn 0 (e:=EBo) true i Z Z Z Z Z Z Z<|eM<|mN<|aQ<|cJ Z<|aA Z<|aN ?_;exact xR ((wI .i64 (a.1+(1:Int))),(List.set a.2 (Int.toNat (at' d a.1)) true)) () h SF Z
  refine e_ ?_;exact cF () (()) h SF .nil (aG.refl _ _)
 intro k o h;unfold oG at h;refine aX<|aD Z<|aN<|aV ?_;cases h;exact lA Z
def wT (c:(List ((Int×Int)×Int))) (a:(Int×Int)×Int) (b:Option Bool):Option Bool:=
 if(Option.getD (nC (a.1.2,a.1.1) c) (0:Int))≠a.2 then(some (false))else(b)
def jQ  (a:(List ((Int×Int)×Int))):Option Bool:=
 Mn (wT a) (some (true)) a
def nL (b:Jo) (a:Nz->Option Bool) (c:(List ((Int×Int)×Int))):Option Bool:=
 a ((wI .i64 (b.1+(1:Int))),c)
def jR (e:fV) (b:Jo) (a:Jo) (c:Nz->Option Bool) (d:Bool):Option Bool:=
 if d=true then(some (false))else(if(Option.isSome (nC (b.1,((at' (at' e b.1) a.1).1)) a.2))=true then(some (false))else(c ((wI .i64 (a.1+(1:Int))),(DC (b.1,((at' (at' e b.1) a.1).1)) ((at' (at' e b.1) a.1).2) a.2))))
def iG (d:fV) (a:Jo) (b:Jo) (c:Nz->Option Bool) (e:Bool):Option Bool:=
 if e=true then(some (false))else(if((at' (at' d a.1) b.1).2)<(1:Int)then(jR d a b c (true))else(jR d a b c (decide ((15:Int)<((at' (at' d a.1) b.1).2)))))
def cN (d:fV) (a:Jo) (e:Nz->Option Bool) (b:Jo) (c:Nz->Option Bool):Option Bool:=
 if b.1<((at' d a.1).length:Int)then(ck (0<=b.1∧b.1<((at' d a.1).length:Int)) (if((at' (at' d a.1) b.1).1)<(0:Int)then(iG d a b c (true))else(if(d.length:Int)<=((at' (at' d a.1) b.1).1)then(iG d a b c (true))else(iG d a b c (decide (((at' (at' d a.1) b.1).1)=a.1))))))else(nL a e (b.2))
def dA (U:Nat) (c:fV) (a:Jo) (b:Nz->Option Bool):Option Bool:=
 if a.1<(c.length:Int)then(ck (0<=a.1∧a.1<(c.length:Int)) (bI (cN c a b) U ((0:Int),a.2)))else(jQ  (a.2))
def g_ (U:Nat) (a:fV):Option Bool:=
 bI (dA U a) U ((0:Int),([]:List ((Int×Int)×Int)))
theorem abF:aW Tryz.prog 119:=Tryz.call119
theorem HY (U:Nat) {f:fV} (n:Value)  (F:kA) (r:Bool) (h:g_ U f=some r):
  aY Tryz.prog 119 #[n] [S2 bA n F f] (λx:Unit=>vB (r)) (λx l=>l) (λ_ l=>l):=by
 refine aY.of Tryz.func119 Z Tryz.ntmps119 Z λc=>?_;unfold g_ at h;refine aX<|aD Z<|aN<|aX<|aH (aO.makeMap n_ RU) Z λk=>aD Z<|aN<|aK<|dW (λq=>jQ  q=some r) (λq H=>[(3,Value.map (some k))]) (λq H=>[Mp n_ RU k q]) ?_ ?_
 ·refine aX<|aA Z<|aB (gU Z (aE.fact 0 Z) Z) Z<|aA Z<|aN<|aT<|dX (dA U f) (λd y=>[(0,n),(3,Value.map (some k)),(14,n),(15,vI (f.length:Int)),(16,vI (d.1))]) (λd y=>[Mp n_ RU k d.2]) ((0:Int),([]:List ((Int×Int)×Int))) () h SF (a_.refl _) ?_;intro t d y h;refine aX<|cM Z<|aN<|aK ?_;refine fD h Z (λh=>?_) λh=>?_
  ·refine cL<|aK<|dW (λm=>nL d (bI (dA U f) t) m=some r) (λm z=>[(0,n),(3,Value.map (some k)),(14,n),(15,vI (f.length:Int)),(16,vI (d.1))]) (λm z=>[Mp n_ RU k m]) ?_ ?_
   ·refine aT<|aX<|aA Z<|cT h λj h=>aB (cC Z Z (aE.fact 0 Z) Z Z j) Z<|aB (b_ Z (aE.fact 0 Z) Z Z j) Z<|aD Z<|aD Z<|aN<|aX<|aA Z<|aB (fX Z (zBb (aE.fact 0 Z) j.1 j.2) Z) Z<|aA Z<|aN<|aT<|dX (cN f d (bI (dA U f) t)) (λe A=>[(0,n),(3,Value.map (some k)),(4,vI (d.1)),(14,n),(15,vI (f.length:Int)),(16,vI (d.1)),(21,(at' F d.1).1),(22,vI ((at' f d.1).length:Int)),(23,vI (e.1))]) (λe A=>[Mp n_ RU k e.2]) ((0:Int),d.2) () h SF (a_.refl _) ?_;intro E e A h;refine aX<|cM Z<|aN<|aK ?_;refine fD h Z (λh=>?_) λh=>?_
    ·refine cL<|aK<|aT<|aX<|cT h λD h=>aB (aZ Z Z (zBb (aE.fact 0 Z) j.1 j.2) Z Z D) Z<|aB (iX (cs:=[vI ((at' (at' f d.1) e.1).1),vI ((at' (at' f d.1) e.1).2)]) Z (zBb (aE.fact 0 Z) j.1 j.2) bS Z Z Z Z D) Z<|aH (aO.alloc (cs:=VO) Z Z) Z λs=>bQ 0 (vs:=[vI ((at' (at' f d.1) e.1).1),vI ((at' (at' f d.1) e.1).2)]) Z Z Z Z Z Z<|aN<|aK<|aK<|dW (λo=>iG f d e (bI (cN f d (bI (dA U f) t)) E) o=some r) (λo B=>[(0,n),(3,Value.map (some k)),(4,vI (d.1)),(7,vP s),(14,n),(15,vI (f.length:Int)),(16,vI (d.1)),(21,(at' F d.1).1),(22,vI ((at' f d.1).length:Int)),(23,vI (e.1)),(42,vB (o))]) (λo B=>[bV s [vI ((at' (at' f d.1) e.1).1),vI ((at' (at' f d.1) e.1).2)] 97,Mp n_ RU k e.2]) ?_ ?_
     ·refine aQ<|bX Z<|dQ 0 Z<|cM Z<|aA Z ?_;refine Eo h Z (λ_ h=>?_) λ_ h=>?_
      ·refine aI Z<|aI Z<|aI Z<|aI Z<|aI Z<|dO Z<|aA Z<|aI Z<|aI Z<|aI Z<|aI Z<|dO Z<|aN ?_;exact gJ (true) () h SF Z
      refine aP Z (c_ Z Z Z Z Z) Z<|aP Z (eB 0 Z Z Z Z Z) Z<|cP Z<|aP Z (gU Z (aE.fact 0 Z) Z) Z<|aP Z (Bu Z Z) Z<|fH Z<|aA Z ?_;refine Eo h Z (λ_ h=>?_) λ_ h=>?_
      ·refine aI Z<|aI Z<|aI Z<|aI Z<|dO Z<|aN ?_;exact gJ (true) () h SF Z
      refine aP Z (c_ Z Z Z Z Z) Z<|aP Z (eB 0 Z Z Z Z Z) Z<|cP Z<|aP Z (MH Z Z) Z<|fH Z<|aN ?_;exact gJ (decide (((at' (at' f d.1) e.1).1)=d.1)) () h SF Z
     intro o B h;refine Am h Z (λ_ h=>?_) λ_ h=>?_
     ·refine aX<|aD Z<|aN<|aV<|aJ<|bM<|aJ<|aJ<|bM<|bM<|aJ<|aJ<|bM<|aJ ?_;cases h;exact rX Z
     refine cL<|aK<|aK<|dW (λp=>jR f d e (bI (cN f d (bI (dA U f) t)) E) p=some r) (λp C=>[(0,n),(3,Value.map (some k)),(4,vI (d.1)),(7,vP s),(14,n),(15,vI (f.length:Int)),(16,vI (d.1)),(21,(at' F d.1).1),(22,vI ((at' f d.1).length:Int)),(23,vI (e.1)),(50,vB (p))]) (λp C=>[bV s [vI ((at' (at' f d.1) e.1).1),vI ((at' (at' f d.1) e.1).2)] 97,Mp n_ RU k e.2]) ?_ ?_
     ·refine aQ<|bX Z<|dQ 0 Z<|cM Z<|aA Z ?_;refine Eo h Z (λ_ h=>?_) λ_ h=>?_
      ·refine aI Z<|aI Z<|aI Z<|dO Z<|aN ?_;exact gJ (true) () h SF Z
      refine aP Z (c_ Z Z Z Z Z) Z<|aP Z (eB 0 Z Z Z Z Z) Z<|aP Z (xQ Z Z) Z<|fH Z<|aN ?_;exact gJ (decide ((15:Int)<((at' (at' f d.1) e.1).2))) () h SF Z
     intro p C h;refine Am h Z (λ_ h=>?_) λ_ h=>?_
     ·refine aX<|aD Z<|aN<|aV<|aJ<|bM<|aJ<|aJ<|bM<|bM<|aJ<|aJ<|bM<|aJ ?_;cases h;exact rX Z
     refine cL<|aX<|aA Z<|bX Z<|dQ 0 Z ?_;refine aB (Di (r:=Value.agg #[vI (d.1),vI ((at' (at' f d.1) e.1).1)]) Z Z (by intro w;simp[Instr.build,Instr.fill,dR,cW,cO,dU,dV,cX,eY])) Z ?_;refine aH (aO.alloc (cs:=VO) Z Z) Z λK=>bQ 0 (vs:=[vI (d.1),vI ((at' (at' f d.1) e.1).1)]) Z Z Z Z Z Z<|aN<|aK<|aX<|aA Z<|dN 0 Z ?_;refine aB (Qa 2 ((d.1,((at' (at' f d.1) e.1).1))) (u:=vI (Option.getD (nC (d.1,((at' (at' f d.1) e.1).1)) e.2) (0:Int))) OA Z Z Z Z Z (by cases nC ((d.1,((at' (at' f d.1) e.1).1))) e.2<;>rfl)) Z ?_;refine aA Z<|jM Z<|jM Z<|aD Z<|aD Z<|aN<|aX<|aA Z<|aN ?_;refine Am h Z (λ_ h=>?_) λ_ h=>?_
     ·refine aX<|aD Z<|aN<|aV<|aJ<|bM<|aJ<|aJ<|bM<|bM<|aJ<|aJ<|bM<|aJ ?_;cases h;exact rX Z
     refine cL<|aQ<|aA Z<|dN 0 Z<|bX Z<|dQ 1 Z<|Pt 2 ((d.1,((at' (at' f d.1) e.1).1))) ((at' (at' f d.1) e.1).2) OA Z Z Z Z Z<|eM<|mN<|aQ<|cJ Z<|aA Z<|aN ?_;exact lS ((wI .i64 (e.1+(1:Int))),(DC (d.1,((at' (at' f d.1) e.1).1)) ((at' (at' f d.1) e.1).2) e.2)) () h SF (a_.ix [2] Z Z) (aG.refl _ _)
    refine pH<|d_<|d_<|u_<|mN ?_;exact gJ (e.2) () h SF Z
   intro m z h;unfold nL at h;refine aQ<|cJ Z<|aA Z<|aN ?_;exact xR ((wI .i64 (d.1+(1:Int))),m) () h SF Z
  refine e_ ?_;exact gJ (d.2) () h SF Z
 intro q H h;unfold jQ at h;refine aK<|aX<|aA Z<|aH (aO.range 0 Z Z Z) Z λI=>aN<|aT<|abc [(3,Value.map (some k)),(69,vP I)] [It I k (q.length) ([]),Mp n_ RU k q] [S2 bA n F f] SF (a_.refl _) (aG.refl _ _) ?_;refine VZ (wT q) 1 0 (by intro a b x;unfold wT;repeat' split;all_goals first|rfl|contradiction|simp_all) h Z Z Z Z Z Z ?_ ?_
 ·skip
  intro g N G M v h;refine aT<|aX<|aH (aO.entry 1 0 v Z Z Z) Z λL=>jM Z<|jM Z<|aH (aO.alloc (cs:=VO) Z Z) Z λJ=>bQ 0 (vs:=[vI (g.1.1),vI (g.1.2)]) Z Z Z Z Z Z<|aD Z<|aN<|aX<|aA Z ?_;refine aB (pJ (i:=1) Z Z Z Z Z (by decide)) Z ?_;refine dQ 0 Z ?_;refine aB (pJ (i:=0) Z Z Z Z Z (by decide)) Z ?_;refine dQ 0 Z ?_;refine aB (Di (r:=Value.agg #[vI (g.1.2),vI (g.1.1)]) Z Z (by intro w;simp[Instr.build,Instr.fill,dR,cW,cO,dU,dV,cX,eY])) Z ?_;refine aB (Qa 2 ((g.1.2,g.1.1)) (u:=vI (Option.getD (nC (g.1.2,g.1.1) q) (0:Int))) OA Z Z Z Z Z (by cases nC ((g.1.2,g.1.1)) q<;>rfl)) Z ?_;refine aA Z<|rB Z<|aN ?_;refine fD h Z (λh=>?_) λh=>?_
  ·refine aX<|aD Z<|aN<|aV<|bM<|aJ<|bM<|aJ ?_;cases h;exact rX Z
  refine dY<|mN ?_;exact Sv h SF (a_.ix [1,2] Z Z) (aG.refl _ _)
 intro G h;refine u_<|AV<|aX<|aD Z<|aN<|aV ?_;cases h;exact rX Z
def qS  (a:Bool):Option Bool:=
 some (a)
def qR (U:Nat) (b:cD) (c:Bool):Option Bool:=
 if c=true then(some (false))else(Option.bind (j_ U b.1) λd=>(if d=true then(Option.bind (g_ U b.2) λa=>(qS  (a)))else(qS  (false))))
def gQ (U:Nat) (a:cD):Option Bool:=
 if(a.1.length:Int)<(1:Int)then(qR U a (true))else(if(24:Int)<(a.1.length:Int)then(qR U a (true))else(qR U a (decide ((a.2.length:Int)≠(a.1.length:Int)))))
theorem Of:aW Tryz.prog 87:=Tryz.call87
theorem Ab (U:Nat) {p0:cD} (f:Value)  (g:Value)  (o:kA) (r:Bool) (h:gQ U p0=some r):
  aY Tryz.prog 87 #[Value.agg #[f,g]] [Sl bN f p0.1,S2 bA g o p0.2] (λx:Unit=>vB (r)) (λx l=>l) (λ_ l=>l):=by
 refine aY.of Tryz.func87 Z Tryz.ntmps87 Z λc=>?_;refine aX<|aH (aO.box (cs:=[f,g]) Z Z) Z λk=>aD Z<|aN<|aX<|bX Z<|dQ 0 Z<|jN (aE.fact 0 Z) Z<|aD Z<|aN<|aK<|aK<|dW (λb=>qR U p0 b=some r) (λb m=>[(1,vP k),(19,vB (b))]) (λb m=>[bV k [f,g] 28]) ?_ ?_
 ·refine aQ<|aA Z<|cM Z<|aA Z ?_;refine Eo h Z (λ_ h=>?_) λ_ h=>?_
  ·refine aI Z<|aI Z<|dO Z<|aA Z<|aI Z<|aI Z<|aI Z<|aI Z<|aI Z<|dO Z<|aN ?_;exact gJ (true) () h SF Z
  refine cP Z<|aP Z (xQ Z Z) Z<|fH Z<|aA Z ?_;refine Eo h Z (λ_ h=>?_) λ_ h=>?_
  ·refine aI Z<|aI Z<|aI Z<|aI Z<|aI Z<|dO Z<|aN ?_;exact gJ (true) () h SF Z
  refine aP Z (c_ Z Z Z Z Z) Z<|aP Z (eB 0 Z Z Z Z Z) Z<|aP Z (gU Z (aE.fact 1 Z) Z) Z<|cP Z<|aP Z (F_ Z Z) Z<|fH Z<|aN ?_;exact gJ (decide ((p0.2.length:Int)≠(p0.1.length:Int))) () h SF Z
 intro b m h;refine Am h Z (λ_ h=>?_) λ_ h=>?_
 ·refine aX<|aD Z<|aN<|aV<|aJ ?_;cases h;exact rX Z
 refine cL<|aK<|dW (λd=>qS  d=some r) (λd n=>[(2,vB (d))]) (λd n=>[]) ?_ ?_
 ·refine aQ<|bX Z<|dQ 0 Z<|eZ h λp i h=>aH (zBa abE (E_ U f p i) Z (mT [0] Z)) Z λq=>aA Z ?_;refine rD (by exact rfl) (by exact rfl) (λa=>?_) (λa=>?_)
  ·have h:=IA a h;refine aP Z (c_ Z Z Z Z Z) Z<|aP Z (eB 0 Z Z Z Z Z) Z<|eZ h λe j h=>mH Z (zBa abF (HY U g o e j) Z (mT [1] Z)) Z λs=>dO Z<|aD Z<|aN ?_;exact cF (e) () h SF .nil (aG.refl _ _)
  have h:=Dw a h;refine aI Z<|aI Z<|aI Z<|fH Z<|aD Z<|aN ?_;exact cF (false) () h SF .nil (aG.refl _ _)
 intro d n h;unfold qS at h;refine aV ?_;cases h;exact lA Z
def rF  (a:Unit):Option Bool:=
 some (true)
def lF (c:aR) (a:Int) (b:(Int)->Option Bool):Option Bool:=
 if a<(c.length:Int)then(ck (0<=a∧a<(c.length:Int)) (if(at' c a)<(0:Int)then(some (false))else(b (wI .i64 (a+(1:Int))))))else(rF  (()))
def dC (U:Nat) (a:cD):Option Bool:=
 Option.bind (gQ U ((a.1,a.2))) λb=>(if(!b)=true then(some (false))else(Option.bind (kG U ((a.1,a.2)) (0:Int)) λc=>(bI (lF c) U (0:Int))))
theorem Oe:aW Tryz.prog 59:=Tryz.call59
theorem sU (U:Nat) {k:cD} (e:Value)  (f:Value)  (m:kA) (r:Bool) (h:dC U k=some r):
  aY Tryz.prog 59 #[Value.agg #[e,f]] [Sl bN e k.1,S2 bA f m k.2] (λx:Unit=>vB (r)) (λx l=>l) (λ_ l=>l):=by
 refine aY.of Tryz.func59 Z Tryz.ntmps59 Z λc=>?_;refine aX<|aH (aO.box (cs:=[e,f]) Z Z) Z λt=>aD Z<|aN<|aK<|aX<|dN 0 Z<|eZ h λp q h=>aH (zBa Of (Ab U e f m p q) Z (mT [0,1] Z)) Z λu=>aB (lU Z) Z<|aN ?_;refine Am h Z (λ_ h=>?_) λ_ h=>?_
 ·refine aX<|aD Z<|aN<|aV<|aJ ?_;cases h;exact rX Z
 refine cL<|aK<|dW (λi=>rF  i=some r) (λi n=>[]) (λi n=>[]) ?_ ?_
 ·refine aX<|dN 0 Z<|eZ h λj s h=>aH (zBa SZ (BM U e f m j s) Z (mT [0,1] Z)) Z λg=>aB (fX Z (bB (aE.res 0 Z) dK) Z) Z<|aA Z<|aN<|aT<|dX (lF j) (λa b=>[(9,g),(10,vI (j.length:Int)),(11,vI (a))]) (λa b=>[Ar bZ g j]) (0:Int) () h SF (a_.ix [0] Z Z) ?_;intro o a b h;refine aX<|cM Z<|aN<|aK ?_;refine fD h Z (λh=>?_) λh=>?_
  ·refine cL<|aK<|aT<|aX<|cT h λd h=>aB (aZ Z Z (bB (aE.res 0 Z) dK) Z Z d) Z<|aB (bR Z (bB (aE.res 0 Z) dK) Z Z Z cR d) Z<|aD Z<|aN<|aX<|aA Z<|cM Z<|aN ?_;refine fD h Z (λh=>?_) λh=>?_
   ·refine aX<|aD Z<|aN<|aV<|bM<|aJ<|aJ<|bM<|aJ ?_;cases h;exact rX Z
   refine dY<|mN<|aQ<|cJ Z<|aA Z<|aN ?_;exact xR (wI .i64 (a+(1:Int))) () h SF Z
  refine e_ ?_;exact cF () (()) h SF .nil (aG.refl _ _)
 intro i n h;unfold rF at h;refine aX<|aD Z<|aN<|aV ?_;cases h;exact lA Z
def ID (U:Nat) (a:cD):Option Bool:=
 Option.bind (dC U ((a.1,a.2))) λb=>(some (b))
theorem abB:aW Tryz.prog 114:=Tryz.call114
theorem Xh (U:Nat) {d:cD} (a:Value)  (b:Value)  (e:kA) (r:Bool) (h:ID U d=some r):
  aY Tryz.prog 114 #[Value.agg #[a,b]] [Sl bN a d.1,S2 bA b e d.2] (λx:Unit=>vB (r)) (λx l=>l) (λ_ l=>l):=by
 refine aY.of Tryz.func114 Z Tryz.ntmps114 Z λc=>?_;refine aX<|aH (aO.box (cs:=[a,b]) Z Z) Z λi=>aD Z<|aN<|aX<|dN 0 Z<|eZ h λf g h=>aH (zBa Oe (sU U a b e f g) Z (mT [0,1] Z)) Z λj=>aD Z<|aN<|aV ?_;cases h;exact rX Z
def sS  (a:Int):Option (Int):=
 some (a)
def yN (b:aR) (a:gE) (c:jO->Option (Int)):Option (Int):=
 if a.2<(b.length:Int)then(ck (0<=a.2∧a.2<(b.length:Int)) (if(at' b a.2)<(0:Int)then(some (-1:Int))else(ck (0<=a.2∧a.2<(b.length:Int)) (c ((max a.1 (at' b a.2)),(wI .i64 (a.2+(1:Int))))))))else(sS  (a.1))
def nA (U:Nat) (a:aR):Option (Int):=
 bI (yN a) U ((-1:Int),(0:Int))
theorem Yj:aW Tryz.prog 29:=Tryz.call29
theorem CZ (U:Nat) {f:aR} (g:Value) (r:Int) (h:nA U f=some r):
  aY Tryz.prog 29 #[g] [Sl bN g f] (λx:Unit=>vI (r)) (λx l=>l) (λ_ l=>l):=by
 refine aY.of Tryz.func29 Z Tryz.ntmps29 Z λc=>?_;unfold nA at h;refine aX<|aD Z<|aN<|aX<|aD Z<|aN<|aK<|dW (λb=>sS  b=some r) (λb i=>[(3,vI (b))]) (λb i=>[]) ?_ ?_
 ·refine aX<|aD Z<|aN<|aT<|dX (yN f) (λa j=>[(0,g),(3,vI (a.1)),(4,vI (a.2))]) (λa j=>[]) ((-1:Int),(0:Int)) () h SF (a_.refl _) ?_;intro k a j h;refine aK<|aX<|aA Z<|aA Z<|jN (aE.fact 0 Z) Z<|cM Z<|aN ?_;refine fD h Z (λh=>?_) λh=>?_
  ·refine cL<|aK<|aT<|aK<|aX<|aA Z<|aA Z<|cT h λd h=>aB (aZ Z Z (aE.fact 0 Z) Z Z d) Z<|aB (bR Z (aE.fact 0 Z) Z Z Z cR d) Z<|cM Z<|aN ?_;refine fD h Z (λh=>?_) λh=>?_
   ·refine aX<|aD Z<|aN<|aV<|aJ<|bM<|aJ<|aJ<|bM<|aJ ?_;cases h;exact lA Z
   refine cL<|aQ<|aA Z<|aA Z<|aA Z<|cT h λe h=>aB (aZ Z Z (aE.fact 0 Z) Z Z e) Z<|aB (bR Z (aE.fact 0 Z) Z Z Z cR e) Z<|aB (IZ Z Z) Z<|aD Z<|eM<|mN<|aQ<|aA Z<|cJ Z<|aD Z<|aN ?_;exact xR ((max a.1 (at' f a.2)),(wI .i64 (a.2+(1:Int)))) () h SF Z
  refine e_ ?_;exact gJ (a.1) () h SF Z
 intro b i h;unfold sS at h;refine aX<|aA Z<|aD Z<|aN<|aV ?_;cases h;exact lA Z
def As  (a:Bool):Option Bool:=
 some (a)
def tM (U:Nat) (a:Int) (b:Int) (c:Int):Option Bool:=
 if b<=a then(As  (decide (a<=c)))else(As  (false))
theorem KC:aW Tryz.prog 53:=Tryz.call53
theorem BN (U:Nat) {b:Int} {f:Int} {d:Int} (r:Bool) (h:tM U b f d=some r):
  aY Tryz.prog 53 #[vI (b),vI (f),vI (d)] [] (λx:Unit=>vB (r)) (λx l=>l) (λ_ l=>l):=by
 refine aY.of Tryz.func53 Z Tryz.ntmps53 Z λc=>?_;refine aX<|aD Z<|aN<|aK<|dW (λa=>As  a=some r) (λa e=>[(6,vB (a))]) (λa e=>[]) ?_ ?_
 ·refine aQ<|aA Z<|aA Z<|aB (Bu Z Z) Z<|aA Z ?_;refine Eo h Z (λ_ h=>?_) λ_ h=>?_
  ·refine cP Z<|cP Z<|aP Z (CE Z Z) Z<|dO Z<|aD Z<|aN ?_;exact gJ (decide (b<=d)) () h SF Z
  refine aI Z<|aI Z<|aI Z<|fH Z<|aD Z<|aN ?_;exact gJ (false) () h SF Z
 intro a e h;unfold As at h;refine aV ?_;cases h;exact lA Z
def qA  (a:Unit):Option Bool:=
 some (true)
def qB (b:Int) (a:(Int)->Option Bool) (c:Unit):Option Bool:=
 a (wI .i64 (b+(1:Int)))
def i_ (d:fZ) (b:Int) (e:(Int)->Option Bool) (a:Int) (c:(Int)->Option Bool):Option Bool:=
 if a<b then(ck (0<=a∧a<(d.length:Int)) (ck (0<=b∧b<(d.length:Int)) (if((at' d a).1)=((at' d b).1)then(some (false))else(c (wI .i64 (a+(1:Int)))))))else(qB b e (()))
def kJ (U:Nat) (d:fZ) (c:Int) (b:(Int)->Option Bool) (a:Bool):Option Bool:=
 if a=true then(some (false))else(bI (i_ d c b) U (0:Int))
def gS (U:Nat) (b:fZ) (f:Int) (g:Int) (a:Int) (c:(Int)->Option Bool):Option Bool:=
 if a<(b.length:Int)then(ck (0<=a∧a<(b.length:Int)) (Option.bind (tM U ((at' b a).1) (0:Int) (wI .i64 (g - (1:Int)))) λd=>(if(!d)=true then(kJ U b a c (true))else(ck (0<=a∧a<(b.length:Int)) (if((at' b a).1)=f then(kJ U b a c (true))else(ck (0<=a∧a<(b.length:Int)) (Option.bind (tM U ((at' b a).2) (1:Int) (15:Int)) λe=>(kJ U b a c ((!e))))))))))else(qA  (()))
def lH (U:Nat) (a:fZ) (b:Int) (c:Int):Option Bool:=
 bI (gS U a b c) U (0:Int)
theorem ae_:aW Tryz.prog 81:=Tryz.call81
theorem GQ (U:Nat) {i:fZ} {e:Int} {f:Int} (j:Value) (r:Bool) (h:lH U i e f=some r):
  aY Tryz.prog 81 #[j,vI (e),vI (f)] [Sl bA j i] (λx:Unit=>vB (r)) (λx l=>l) (λ_ l=>l):=by
 refine aY.of Tryz.func81 Z Tryz.ntmps81 Z λc=>?_;unfold lH at h;refine aX<|aD Z<|aN<|aK<|dW (λv=>qA  v=some r) (λv D=>[]) (λv D=>[]) ?_ ?_
 ·refine aX<|aD Z<|aN<|aT<|dX (gS U i e f) (λd E=>[(0,j),(1,vI (e)),(2,vI (f)),(7,vI (d))]) (λd E=>[]) (0:Int) () h SF (a_.refl _) ?_;intro y d E h;refine aK<|aX<|aA Z<|aA Z<|jN (aE.fact 0 Z) Z<|cM Z<|aN ?_;refine fD h Z (λh=>?_) λh=>?_
  ·refine cL<|aK<|dW (λw=>qB d (bI (gS U i e f) y) w=some r) (λw k=>[(0,j),(1,vI (e)),(2,vI (f)),(7,vI (d))]) (λw k=>[]) ?_ ?_
   ·refine aT<|aK<|aK<|dW (λa=>kJ U i d (bI (gS U i e f) y) a=some r) (λa m=>[(0,j),(1,vI (e)),(2,vI (f)),(7,vI (d)),(41,vB (a))]) (λa m=>[]) ?_ ?_
    ·refine aQ<|aA Z<|aA Z<|cT h λq h=>aB (aZ Z Z (aE.fact 0 Z) Z Z q) Z<|aB (gF Z Z Z Z Z) Z<|aB (jJ Z (aE.fact 0 Z) Z Z Z nF q) Z<|aA Z<|aB (oI Z Z) Z<|eZ h λA B h=>aH (zBa KC (BN U  A B) Z .nil) Z λG=>aB (lU Z) Z<|aA Z ?_;refine rD (by exact rfl) (by exact rfl) (λb=>?_) (λb=>?_)
     ·have h:=IA b h;refine aI Z<|aI Z<|aI Z<|aI Z<|aI Z<|aI Z<|aI Z<|dO Z<|aA Z<|aI Z<|aI Z<|aI Z<|aI Z<|aI Z<|aI Z<|aI Z<|dO Z<|aN ?_;exact gJ (true) () h SF Z
     have h:=Dw b h;refine cP Z<|cP Z<|cT h λs h=>aP Z (aZ Z Z (aE.fact 0 Z) Z Z s) Z<|aP Z (gF Z Z Z Z Z) Z<|aP Z (jJ Z (aE.fact 0 Z) Z Z Z nF s) Z<|cP Z<|aP Z (MH Z Z) Z<|fH Z<|aA Z ?_;refine Eo h Z (λ_ h=>?_) λ_ h=>?_
     ·refine aI Z<|aI Z<|aI Z<|aI Z<|aI Z<|aI Z<|aI Z<|dO Z<|aN ?_;exact gJ (true) () h SF Z
     refine cP Z<|cP Z<|cT h λt h=>aP Z (aZ Z Z (aE.fact 0 Z) Z Z t) Z<|aP Z (gF Z Z Z Z Z) Z<|aP Z (jJ Z (aE.fact 0 Z) Z Z Z Gs t) Z<|eZ h λu C h=>mH Z (zBa KC (BN U  u C) Z .nil) Z λH=>aP Z (lU Z) Z<|fH Z<|aN ?_;exact gJ ((!u)) () h SF Z
    intro a m h;refine Am h Z (λ_ h=>?_) λ_ h=>?_
    ·refine aX<|aD Z<|aN<|aV<|aJ<|bM<|aJ<|aJ<|bM<|aJ ?_;cases h;exact lA Z
    refine cL<|aX<|aD Z<|aN<|aT<|dX (i_ i d (bI (gS U i e f) y)) (λg n=>[(0,j),(1,vI (e)),(2,vI (f)),(7,vI (d)),(8,vI (g))]) (λg n=>[]) (0:Int) () h SF (a_.refl _) ?_;intro F g n h;refine aK<|aX<|aA Z<|aA Z<|cM Z<|aN ?_;refine fD h Z (λh=>?_) λh=>?_
    ·refine cL<|aK<|aT<|aK ?_;refine JR.start [0,0,3,7,15,0,0,96,224,480,1023] 10 mixedOrders (by decide +kernel) ?_;refine zBd (by exact rfl) ?_;refine bG Z<|bG Z<|cT h λo h=>bJ Z .nil (jS 0 Z) (aZ Z Z (aE.fact 0 Z) Z Z o) aM.z<|jD Z (gF Z Z Z Z Z)<|bJ Z .nil (jS 0 Z) (jJ Z (aE.fact 0 Z) Z Z Z nF o) aM.z<|bG Z<|bG Z<|cT h λp h=>bJ Z .nil (jS 0 Z) (aZ Z Z (aE.fact 0 Z) Z Z p) aM.z<|jD Z (gF Z Z Z Z Z)<|bJ Z .nil (jS 0 Z) (jJ Z (aE.fact 0 Z) Z Z Z nF p) aM.z<|bO 10 Z Z<|cS Z<|aN ?_;refine fD h Z (λh=>?_) λh=>?_
     ·refine aX<|aD Z<|aN<|aV<|bM<|aJ<|aJ<|bM<|bM<|aJ<|aJ<|bM<|aJ ?_;cases h;exact lA Z
     refine dY<|mN<|aQ<|aA Z<|cJ Z<|aD Z<|aN ?_;exact xR (wI .i64 (g+(1:Int))) () h SF Z
    refine pH<|d_<|d_<|u_<|mN ?_;exact gJ () (()) h SF Z
   intro w k h;unfold qB at h;refine aQ<|aA Z<|cJ Z<|aD Z<|aN ?_;exact xR (wI .i64 (d+(1:Int))) () h SF Z
  refine e_ ?_;exact gJ () (()) h SF Z
 intro v D h;unfold qA at h;refine aX<|aD Z<|aN<|aV ?_;cases h;exact lA Z
def Cr  (a:Unit):Option (Int):=
 some (-1:Int)
def zY (c:cD) (a:Int) (e:Int) (b:Int) (d:(Int)->Option (Int)):Option (Int):=
 ck (0<=a∧a<(c.2.length:Int)) (if b<((at' c.2 a).length:Int)then(ck (0<=a∧a<(c.2.length:Int)) (ck (0<=b∧b<((at' c.2 a).length:Int)) (if((at' (at' c.2 a) b).1)=e then(some (b))else(d (wI .i64 (b+(1:Int)))))))else(Cr  (())))
def yJ (U:Nat) (a:cD) (b:Int) (c:Int):Option (Int):=
 bI (zY a b c) U (0:Int)
theorem afa:aW Tryz.prog 82:=Tryz.call82
theorem OX (U:Nat) {g:cD} {i:Int} {j:Int} (k:Value)  (m:Value)  (q:kA) (r:Int) (h:yJ U g i j=some r):
  aY Tryz.prog 82 #[Value.agg #[k,m],vI (i),vI (j)] [Sl bN k g.1,S2 bA m q g.2] (λx:Unit=>vI (r)) (λx l=>l) (λ_ l=>l):=by
 refine aY.of Tryz.func82 Z Tryz.ntmps82 Z λc=>?_;unfold yJ at h;refine aX<|aH (aO.box (cs:=[k,m]) Z Z) Z λn=>aD Z<|aN<|aK<|dW (λd=>Cr  d=some r) (λd o=>[]) (λd o=>[]) ?_ ?_
 ·refine aX<|aD Z<|aN<|aT<|dX (zY g i j) (λe p=>[(1,vI (i)),(2,vI (j)),(3,vP n),(7,vI (e))]) (λe p=>[bV n [k,m] 28]) (0:Int) () h SF (a_.refl _) ?_;intro s e p h;refine aK<|aX<|aA Z<|bX Z<|dQ 0 Z<|aA Z<|cT h λf h=>aB (cC Z Z (aE.fact 1 Z) Z Z f) Z<|aB (b_ Z (aE.fact 1 Z) Z Z f) Z<|aB (fX Z (zBb (aE.fact 1 Z) f.1 f.2) Z) Z<|cM Z<|aN ?_;refine fD h Z (λh=>?_) λh=>?_
  ·refine cL<|aK<|aT<|aX<|bX Z<|dQ 0 Z<|aA Z<|cT h λa h=>aB (cC Z Z (aE.fact 1 Z) Z Z a) Z<|aB (b_ Z (aE.fact 1 Z) Z Z a) Z<|aA Z<|cT h λb h=>aB (aZ Z Z (zBb (aE.fact 1 Z) a.1 a.2) Z Z b) Z<|aB (gF Z Z Z Z Z) Z<|aB (jJ Z (zBb (aE.fact 1 Z) a.1 a.2) Z Z Z nF b) Z<|aA Z<|cS Z<|aN ?_;refine fD h Z (λh=>?_) λh=>?_
   ·refine aX<|aA Z<|aD Z<|aN<|aV<|bM<|aJ<|aJ<|bM<|aJ ?_;cases h;exact rX Z
   refine dY<|mN<|aQ<|aA Z<|cJ Z<|aD Z<|aN ?_;exact xR (wI .i64 (e+(1:Int))) () h SF Z
  refine e_ ?_;exact cF () (()) h SF .nil (aG.refl _ _)
 intro d o h;unfold Cr at h;refine aX<|aD Z<|aN<|aV ?_;cases h;exact lA Z
def tU  (a:Unit):Option Bool:=
 some (true)
def tV (b:Int) (a:(Int)->Option Bool) (c:Unit):Option Bool:=
 a (wI .i64 (b+(1:Int)))
def tW (b:Int) (a:(Int)->Option Bool) (c:Bool):Option Bool:=
 if c=true then(some (false))else(a (wI .i64 (b+(1:Int))))
def eV (U:Nat) (c:cD) (a:Int) (f:(Int)->Option Bool) (b:Int) (e:(Int)->Option Bool):Option Bool:=
 ck (0<=a∧a<(c.2.length:Int)) (if b<((at' c.2 a).length:Int)then(ck (0<=a∧a<(c.2.length:Int)) (ck (0<=b∧b<((at' c.2 a).length:Int)) (Option.bind (yJ U ((c.1,c.2)) ((at' (at' c.2 a) b).1) a) λd=>(if d<(0:Int)then(tW b e (true))else(ck (0<=((at' (at' c.2 a) b).1)∧((at' (at' c.2 a) b).1)<(c.2.length:Int)) (ck (0<=d∧d<((at' c.2 ((at' (at' c.2 a) b).1)).length:Int)) (tW b e (decide (((at' (at' c.2 ((at' (at' c.2 a) b).1)) d).2)≠((at' (at' c.2 a) b).2))))))))))else(tV a f (())))
def fS (U:Nat) (c:cD) (a:Int) (b:(Int)->Option Bool):Option Bool:=
 if a<(c.2.length:Int)then(bI (eV U c a b) U (0:Int))else(tU  (()))
def nZ (U:Nat) (a:cD) (b:Unit):Option Bool:=
 bI (fS U a) U (0:Int)
def tX (b:Int) (a:(Int)->Option Bool) (c:Unit):Option Bool:=
 a (wI .i64 (b+(1:Int)))
def gM (e:cD) (a:Int) (c:(Int)->Option Bool) (b:Int) (d:(Int)->Option Bool):Option Bool:=
 if b<a then(ck (0<=b∧b<(e.1.length:Int)) (ck (0<=a∧a<(e.1.length:Int)) (if(at' e.1 b)=(at' e.1 a)then(some (false))else(d (wI .i64 (b+(1:Int)))))))else(tX a c (()))
def mD (U:Nat) (d:cD) (b:Int) (a:(Int)->Option Bool) (c:Bool):Option Bool:=
 if c=true then(some (false))else(bI (gM d b a) U (0:Int))
def fT (U:Nat) (b:cD) (a:Int) (c:(Int)->Option Bool):Option Bool:=
 if a<(b.2.length:Int)then(ck (0<=a∧a<(b.1.length:Int)) (Option.bind (tM U (at' b.1 a) (0:Int) (255:Int)) λd=>(if(!d)=true then(mD U b a c (true))else(ck (0<=a∧a<(b.2.length:Int)) (if(b.2.length:Int)<=((at' b.2 a).length:Int)then(mD U b a c (true))else(ck (0<=a∧a<(b.2.length:Int)) (Option.bind (lH U (at' b.2 a) a (b.2.length:Int)) λe=>(mD U b a c ((!e))))))))))else(nZ U b (()))
def tT (U:Nat) (b:cD) (a:Bool):Option Bool:=
 if a=true then(some (false))else(bI (fT U b) U (0:Int))
def lQ (U:Nat) (a:cD):Option Bool:=
 Option.bind (tM U (a.2.length:Int) (1:Int) (24:Int)) λb=>(if(!b)=true then(tT U a (true))else(tT U a (decide ((a.1.length:Int)≠(a.2.length:Int)))))
theorem aeO:aW Tryz.prog 52:=Tryz.call52
theorem My (U:Nat) {a:cD} (g:Value)  (i:Value)  (z2:kA) (r:Bool) (h:lQ U a=some r):
  aY Tryz.prog 52 #[Value.agg #[g,i]] [Sl bN g a.1,S2 bA i z2 a.2] (λx:Unit=>vB (r)) (λx l=>l) (λ_ l=>l):=by
 refine aY.of Tryz.func52 Z Tryz.ntmps52 Z λc=>?_;refine aX<|aH (aO.box (cs:=[g,i]) Z Z) Z λf=>aD Z<|aN<|aX<|bX Z<|dQ 0 Z<|aB (gU Z (aE.fact 1 Z) Z) Z<|aD Z<|aN<|aK<|aK<|dW (λC=>tT U a C=some r) (λC b4=>[(1,vP f),(3,vI (a.2.length:Int)),(22,vB (C))]) (λC b4=>[bV f [g,i] 28]) ?_ ?_
 ·refine aQ<|aA Z<|eZ h λX ac h=>aH (zBa KC (BN U  X ac) Z .nil) Z λai=>aB (lU Z) Z<|aA Z ?_;refine rD (by exact rfl) (by exact rfl) (λq=>?_) (λq=>?_)
  ·have h:=IA q h;refine aI Z<|aI Z<|aI Z<|aI Z<|aI Z<|dO Z<|aN ?_;exact gJ (true) () h SF Z
  have h:=Dw q h;refine aP Z (c_ Z Z Z Z Z) Z<|aP Z (eB 0 Z Z Z Z Z) Z<|aP Z (fX Z (aE.fact 0 Z) Z) Z<|cP Z<|aP Z (F_ Z Z) Z<|fH Z<|aN ?_;exact gJ (decide ((a.1.length:Int)≠(a.2.length:Int))) () h SF Z
 intro C b4 h;refine Am h Z (λ_ h=>?_) λ_ h=>?_
 ·refine aX<|aD Z<|aN<|aV<|aJ ?_;cases h;exact rX Z
 refine cL<|aK<|dW (λS=>nZ U a S=some r) (λS b7=>[(1,vP f),(3,vI (a.2.length:Int))]) (λS b7=>[bV f [g,i] 28]) ?_ ?_
 ·refine aX<|aD Z<|aN<|aT<|dX (fT U a) (λe H=>[(1,vP f),(3,vI (a.2.length:Int)),(4,vI (e))]) (λe H=>[bV f [g,i] 28]) (0:Int) () h SF (a_.refl _) ?_;intro B e H h;refine aK<|aX<|aA Z<|aA Z<|cM Z<|aN ?_;refine fD h Z (λh=>?_) λh=>?_
  ·refine cL<|aK<|dW (λt=>tX e (bI (fT U a) B) t=some r) (λt I=>[(1,vP f),(3,vI (a.2.length:Int)),(4,vI (e))]) (λt I=>[bV f [g,i] 28]) ?_ ?_
   ·refine aT<|aK<|aK<|dW (λn=>mD U a e (bI (fT U a) B) n=some r) (λn J=>[(1,vP f),(3,vI (a.2.length:Int)),(4,vI (e)),(55,vB (n))]) (λn J=>[bV f [g,i] 28]) ?_ ?_
    ·refine aQ<|bX Z<|dQ 0 Z<|aA Z<|cT h λP h=>aB (aZ Z Z (aE.fact 0 Z) Z Z P) Z<|aB (bR Z (aE.fact 0 Z) Z Z Z cR P) Z<|eZ h λW aa h=>aH (zBa KC (BN U  W aa) Z .nil) Z λag=>aB (lU Z) Z<|aA Z ?_;refine rD (by exact rfl) (by exact rfl) (λp=>?_) (λp=>?_)
     ·have h:=IA p h;refine aI Z<|aI Z<|aI Z<|aI Z<|aI Z<|aI Z<|aI Z<|aI Z<|dO Z<|aA Z<|aI Z<|aI Z<|aI Z<|aI Z<|aI Z<|aI Z<|aI Z<|aI Z<|aI Z<|dO Z<|aN ?_;exact gJ (true) () h SF Z
     have h:=Dw p h;refine aP Z (c_ Z Z Z Z Z) Z<|aP Z (eB 0 Z Z Z Z Z) Z<|cP Z<|cT h λw h=>aP Z (cC Z Z (aE.fact 1 Z) Z Z w) Z<|aP Z (b_ Z (aE.fact 1 Z) Z Z w) Z<|aP Z (fX Z (zBb (aE.fact 1 Z) w.1 w.2) Z) Z<|cP Z<|aP Z (Bu Z Z) Z<|fH Z<|aA Z ?_;refine Eo h Z (λ_ h=>?_) λ_ h=>?_
     ·refine aI Z<|aI Z<|aI Z<|aI Z<|aI Z<|aI Z<|aI Z<|aI Z<|aI Z<|dO Z<|aN ?_;exact gJ (true) () h SF Z
     refine aP Z (c_ Z Z Z Z Z) Z<|aP Z (eB 0 Z Z Z Z Z) Z<|cP Z<|cT h λy h=>aP Z (cC Z Z (aE.fact 1 Z) Z Z y) Z<|aP Z (b_ Z (aE.fact 1 Z) Z Z y) Z<|cP Z<|cP Z<|eZ h λR ab h=>mH Z (zBa ae_ (GQ U ((at' z2 e).1) R ab) Z (aG.cons (zBb (aE.fact 1 Z) y.1 y.2) .nil)) Z λah=>aP Z (lU Z) Z<|fH Z<|aN ?_;exact gJ ((!R)) () h SF Z
    intro n J h;refine Am h Z (λ_ h=>?_) λ_ h=>?_
    ·refine aX<|aD Z<|aN<|aV<|aJ<|bM<|aJ<|aJ<|bM<|aJ ?_;cases h;exact rX Z
    refine cL<|aX<|aD Z<|aN<|aT<|dX (gM a e (bI (fT U a) B)) (λu K=>[(1,vP f),(3,vI (a.2.length:Int)),(4,vI (e)),(5,vI (u))]) (λu K=>[bV f [g,i] 28]) (0:Int) () h SF (a_.refl _) ?_;intro ae u K h;refine aK<|aX<|aA Z<|aA Z<|cM Z<|aN ?_;refine fD h Z (λh=>?_) λh=>?_
    ·refine cL<|aK<|aT<|aK ?_;refine JR.start [0,1,0,7,15,0,32,0,224,480,1023] 10 mixedOrders (by decide +kernel) ?_;refine zBd (by exact rfl) ?_;refine dB Z<|iZ 0 Z<|bG Z<|cT h λN h=>bJ Z .nil (jS 0 Z) (aZ Z Z (aE.fact 0 Z) Z Z N) aM.z<|bJ Z .nil (jS 0 Z) (bR Z (aE.fact 0 Z) Z Z Z cR N) aM.z<|dB Z<|iZ 0 Z<|bG Z<|cT h λO h=>bJ Z .nil (jS 0 Z) (aZ Z Z (aE.fact 0 Z) Z Z O) aM.z<|bJ Z .nil (jS 0 Z) (bR Z (aE.fact 0 Z) Z Z Z cR O) aM.z<|bO 10 Z Z<|cS Z<|aN ?_;refine fD h Z (λh=>?_) λh=>?_
     ·refine aX<|aD Z<|aN<|aV<|bM<|aJ<|aJ<|bM<|bM<|aJ<|aJ<|bM<|aJ ?_;cases h;exact rX Z
     refine dY<|mN<|aQ<|aA Z<|cJ Z<|aD Z<|aN ?_;exact xR (wI .i64 (u+(1:Int))) () h SF Z
    refine pH<|d_<|d_<|u_<|mN ?_;exact gJ () (()) h SF Z
   intro t I h;unfold tX at h;refine aQ<|aA Z<|cJ Z<|aD Z<|aN ?_;exact xR (wI .i64 (e+(1:Int))) () h SF Z
  refine e_ ?_;exact gJ () (()) h SF Z
 intro S b7 h;unfold nZ at h;refine aK<|dW (λT=>tU  T=some r) (λT b9=>[]) (λT b9=>[]) ?_ ?_
 ·refine aX<|aD Z<|aN<|aT<|dX (fS U a) (λb D=>[(1,vP f),(3,vI (a.2.length:Int)),(6,vI (b))]) (λb D=>[bV f [g,i] 28]) (0:Int) () h SF (a_.refl _) ?_;intro A b D h;refine aK<|aX<|aA Z<|aA Z<|cM Z<|aN ?_;refine fD h Z (λh=>?_) λh=>?_
  ·refine cL<|aK<|dW (λs=>tV b (bI (fS U a) A) s=some r) (λs E=>[(1,vP f),(3,vI (a.2.length:Int)),(6,vI (b))]) (λs E=>[bV f [g,i] 28]) ?_ ?_
   ·refine aT<|aX<|aD Z<|aN<|aT<|dX (eV U a b (bI (fS U a) A)) (λd F=>[(1,vP f),(3,vI (a.2.length:Int)),(6,vI (b)),(7,vI (d))]) (λd F=>[bV f [g,i] 28]) (0:Int) () h SF (a_.refl _) ?_;intro V d F h;refine aK<|aX<|aA Z<|bX Z<|dQ 0 Z<|aA Z<|cT h λv h=>aB (cC Z Z (aE.fact 1 Z) Z Z v) Z<|aB (b_ Z (aE.fact 1 Z) Z Z v) Z<|aB (fX Z (zBb (aE.fact 1 Z) v.1 v.2) Z) Z<|cM Z<|aN ?_;refine fD h Z (λh=>?_) λh=>?_
    ·refine cL<|aK<|aT<|aX<|bX Z<|dQ 0 Z<|aA Z<|cT h λj h=>aB (cC Z Z (aE.fact 1 Z) Z Z j) Z<|aB (b_ Z (aE.fact 1 Z) Z Z j) Z<|aA Z<|cT h λL h=>aB (aZ Z Z (zBb (aE.fact 1 Z) j.1 j.2) Z Z L) Z<|aB (iX (cs:=[vI ((at' (at' a.2 b) d).1),vI ((at' (at' a.2 b) d).2)]) Z (zBb (aE.fact 1 Z) j.1 j.2) bS Z Z Z Z L) Z<|aH (aO.alloc (cs:=VO) Z Z) Z λad=>bQ 0 (vs:=[vI ((at' (at' a.2 b) d).1),vI ((at' (at' a.2 b) d).2)]) Z Z Z Z Z Z<|aN<|aX<|dN 1 Z<|bX Z<|dQ 0 Z<|aA Z<|eZ h λQ Y h=>aH (zBa afa (OX U g i z2 Q Y) Z (mT [0,1] Z)) Z λaf=>aD Z<|aN<|aK<|dW (λm=>tW d (bI (eV U a b (bI (fS U a) A)) V) m=some r) (λm G=>[(1,vP f),(3,vI (a.2.length:Int)),(6,vI (b)),(7,vI (d)),(116,vB (m))]) (λm G=>[bV f [g,i] 28]) ?_ ?_
     ·refine JR.start [0,1,3,7,15,7,39,127,255,7,1023,2047,4095,7,8199,32767,65535] 15 mixedOrders (by decide +kernel) ?_;refine zBd (by exact rfl) ?_;refine bG Z<|jD Z (Hl Z Z)<|bG Z ?_;refine Ft (by exact rfl) (by exact rfl) (by exact rfl) (λo=>?_) (λo=>?_)
      ·have h:=IA o h;refine bT Z Z Z Z<|bT Z Z Z Z<|bT Z Z Z Z<|bT Z Z Z Z<|bT Z Z Z Z<|bT Z Z Z Z<|bT Z Z Z Z<|bT Z Z Z Z<|bT Z Z Z Z<|bT Z Z Z Z<|bT Z Z Z Z<|bT Z Z Z Z<|bO 15 Z Z<|aI Z<|dO Z<|aN ?_;exact cF (true) () h SF (a_.ix [1] Z Z) (aG.refl _ _)
      have h:=ifN o h;refine eD Z .nil .nil (c_ Z Z Z Z Z) aM.z<|eD Z (a_.cons 1 Z .nil) .nil (eB 0 Z Z Z Z Z) aM.z<|eD Z .nil .nil (c_ Z Z Z Z Z) aM.z<|eD Z (a_.cons 0 Z .nil) .nil (eB 0 Z Z Z Z Z) aM.z<|cT h λk h=>eD Z .nil (jS 1 Z) (cC Z Z (aE.fact 0 Z) Z Z k) aM.z<|eD Z .nil (jS 1 Z) (b_ Z (aE.fact 0 Z) Z Z k) aM.z<|eD Z .nil .nil (fY Z) aM.z<|cT h λM h=>eD Z .nil (jS 1 Z) (aZ Z Z (zBb (aE.fact 0 Z) k.1 k.2) Z Z M) aM.z<|eD Z .nil .nil (gF Z Z Z Z Z) aM.z<|eD Z .nil (jS 1 Z) (jJ Z (zBb (aE.fact 0 Z) k.1 k.2) Z Z Z Gs M) aM.z<|eD Z .nil .nil (c_ Z Z Z Z Z) aM.z<|eD Z (a_.cons 0 Z .nil) .nil (eB 0 Z Z Z Z Z) aM.z<|bO 15 Z Z<|aP Z (F_ Z Z) Z<|fH Z<|aN ?_;exact cF (decide (((at' (at' a.2 ((at' (at' a.2 b) d).1)) Q).2)≠((at' (at' a.2 b) d).2))) () h SF (a_.ix [1] Z Z) (aG.refl _ _)
     intro m G h;refine Am h Z (λ_ h=>?_) λ_ h=>?_
     ·refine aX<|aD Z<|aN<|aV<|bM<|aJ<|aJ<|bM<|bM<|aJ<|aJ<|bM<|aJ ?_;cases h;exact rX Z
     refine dY<|mN<|aQ<|aA Z<|cJ Z<|aD Z<|aN ?_;exact xR (wI .i64 (d+(1:Int))) () h SF Z
    refine pH<|d_<|d_<|u_<|mN ?_;exact gJ () (()) h SF Z
   intro s E h;unfold tV at h;refine aQ<|aA Z<|cJ Z<|aD Z<|aN ?_;exact xR (wI .i64 (b+(1:Int))) () h SF Z
  refine e_ ?_;exact cF () (()) h SF .nil (aG.refl _ _)
 intro T b9 h;unfold tU at h;refine aX<|aD Z<|aN<|aV ?_;cases h;exact lA Z
def rK  (a:aR):Option aR:=
 some (a)
def rM (b:lL) (a:rZ->Option aR) (c:aR):Option aR:=
 a ((wI .i64 (b.1+(1:Int))),c)
def rO (b:lL) (a:rZ->Option aR) (c:aR):Option aR:=
 a ((wI .i64 (b.1+(1:Int))),c)
def nY (b:lL) (a:rZ->Option aR) (c:aR):Option aR:=
 a ((wI .i64 (b.1+(1:Int))),c)
def rP (f:cD) (d:lL) (b:lL) (e:rZ->Option aR) (a:lL) (c:rZ->Option aR) (g:Bool):Option aR:=
 if g=true then(ck (0<=b.1∧b.1<(f.2.length:Int)) (ck (0<=a.1∧a.1<((at' f.2 b.1).length:Int)) (ck (0<=((at' (at' f.2 b.1) a.1).1)∧((at' (at' f.2 b.1) a.1).1)<(a.2.length:Int)) (if(at' a.2 ((at' (at' f.2 b.1) a.1).1))=(wI .i64 (d.1 - (1:Int)))then(ck (0<=b.1∧b.1<(a.2.length:Int)) (nY a c (List.set a.2 (Int.toNat b.1) d.1)))else(nY a c (a.2))))))else(rO b e (a.2))
def lI (f:cD) (e:lL) (a:lL) (c:rZ->Option aR) (b:lL) (d:rZ->Option aR):Option aR:=
 ck (0<=a.1∧a.1<(f.2.length:Int)) (if b.1<((at' f.2 a.1).length:Int)then(ck (0<=a.1∧a.1<(b.2.length:Int)) (rP f e a c b d (decide ((at' b.2 a.1)<(0:Int)))))else(rP f e a c b d (false)))
def iL (U:Nat) (e:cD) (b:lL) (c:rZ->Option aR) (a:lL) (d:rZ->Option aR):Option aR:=
 if a.1<(e.2.length:Int)then(bI (lI e b a d) U ((0:Int),a.2))else(rM b c (a.2))
def fL (U:Nat) (c:cD) (a:lL) (b:rZ->Option aR):Option aR:=
 if a.1<(c.2.length:Int)then(bI (iL U c a b) U ((0:Int),a.2))else(rK  (a.2))
def wV (U:Nat) (c:cD) (a:Int) (b:aR):Option aR:=
 ck (0<=a∧a<(b.length:Int)) (bI (fL U c) U ((1:Int),(List.set b (Int.toNat a) (0:Int))))
def wW (U:Nat) (c:cD) (d:Int) (a:aR×Int) (b:(aR×Int)->Option aR):Option aR:=
 if a.2<(c.2.length:Int)then(ck ((a.1.length:Int)+(List.length ([(-1:Int)]):Int)<=1099511627) (b ((a.1++([(-1:Int)])),(wI .i64 (a.2+(1:Int))))))else(wV U c d (a.1))
def nX (U:Nat) (b:cD) (c:Int) (a:Bool):Option aR:=
 if a=true then(some ([]:aR))else(bI (wW U b c) U (([]:aR),(0:Int)))
def kH (U:Nat) (a:cD) (b:Int):Option aR:=
 Option.bind (lQ U ((a.1,a.2))) λc=>(if(!c)=true then(nX U a b (true))else(Option.bind (tM U b (0:Int) (wI .i64 ((a.2.length:Int) - (1:Int)))) λd=>(nX U a b ((!d)))))
theorem Yk:aW Tryz.prog 30:=Tryz.call30
theorem Ch (U:Nat) {d:cD} {A:Int} (m:Value)  (n:Value)  (z2:kA) (r:aR) (h:kH U d A=some r):
  aY Tryz.prog 30 #[Value.agg #[m,n],vI (A)] [Sl bN m d.1,S2 bA n z2 d.2] (λx:Value=>x) (λx l=>Ar bZ x r::l) (λ_ l=>l):=by
 refine aY.of Tryz.func30 Z Tryz.ntmps30 Z λc=>?_;refine aX<|aH (aO.box (cs:=[m,n]) Z Z) Z λi=>aD Z<|aN<|aK<|aK<|dW (λD=>nX U d A D=some r) (λD b4=>[(1,vI (A)),(2,vP i),(22,vB (D))]) (λD b4=>[bV i [m,n] 28]) ?_ ?_
 ·refine aQ<|dN 0 Z<|eZ h λV X h=>aH (zBa aeO (My U m n z2 V X) Z (mT [0,1] Z)) Z λac=>aB (lU Z) Z<|aA Z ?_;refine rD (by exact rfl) (by exact rfl) (λw=>?_) (λw=>?_)
  ·have h:=IA w h;refine aI Z<|aI Z<|aI Z<|aI Z<|aI Z<|aI Z<|aI Z<|dO Z<|aN ?_;exact gJ (true) () h SF Z
  have h:=Dw w h;refine cP Z<|aP Z (c_ Z Z Z Z Z) Z<|aP Z (eB 0 Z Z Z Z Z) Z<|aP Z (gU Z (aE.fact 1 Z) Z) Z<|aP Z (oI Z Z) Z<|eZ h λS Y h=>mH Z (zBa KC (BN U  S Y) Z .nil) Z λad=>aP Z (lU Z) Z<|fH Z<|aN ?_;exact gJ ((!S)) () h SF Z
 intro D b4 h;refine Am h Z (λ_ h=>?_) λ_ h=>?_
 ·refine aX<|aD Z<|aN<|aV<|aJ<|jL (gN bZ) ?_;cases h;exact fP (lB) Z Z (RV.tmp Z) (a_.ix [0] Z Z) aG.nil
 refine cL<|aX<|bX Z<|dQ 0 Z<|aB (gU Z (aE.fact 1 Z) Z) Z<|aD Z<|aN<|aX<|aD Z<|aN<|aK<|CR (B:=Value) (λC=>wV U d A C=some r) (λC g=>[(1,vI (A)),(2,vP i),(5,vI (d.2.length:Int)),(6,g)]) (λC g=>[bV i [m,n] 28,Ar bZ g C]) ?_ ?_
 ·refine aX<|aD Z<|aN<|aT<|jL (gN bZ)<|dX (B:=Value) (wW U d A) (λj v=>[(1,vI (A)),(2,vP i),(5,vI (d.2.length:Int)),(6,v),(7,vI (j.2))]) (λj v=>[bV i [m,n] 28,Ar bZ v j.1]) (([]:aR),(0:Int)) (lB) h SF (a_.ix [1,0] Z Z) ?_;intro aa j v h;refine aK<|aX<|aA Z<|aA Z<|cM Z<|aN ?_;refine fD h Z (λh=>?_) λh=>?_
  ·refine cL<|aK<|aT<|aQ<|aA Z<|aH (cA (e:=bZ) ([(-1:Int)]) [(0,vI (-1:Int))] Z Z Z Z (l_ (vI (-1:Int)) Z) Z Z Z) Z λab=>cT h λT h=>aH (eW 2 dK Z Z Z (bB (aE.res 0 Z) dK) Z Z Z Z T Z) Z λW=>aD Z<|eM<|mN<|aQ<|aA Z<|cJ Z<|aD Z<|aN ?_;exact lS ((j.1++([(-1:Int)])),(wI .i64 (j.2+(1:Int)))) (W) h SF (a_.ix [1,2] Z Z) (aG.refl _ _)
  refine e_ ?_;exact gJ (j.1) (v) h SF Z
 intro C g h;refine aX<|aA Z<|aA Z<|cT h λM h=>aB (aZ Z Z (bB (aE.res 1 Z) dK) Z Z M) Z<|vA 1 (0:Int) M Z Z Z Z Z Z Z<|aN<|aK<|dW (λt=>rK  t=some r) (λt E=>[(6,g)]) (λt E=>[Ar bZ g t]) ?_ ?_
 ·refine aX<|aD Z<|aN<|aT<|dX (fL U d) (λa F=>[(2,vP i),(5,vI (d.2.length:Int)),(6,g),(8,vI (a.1))]) (λa F=>[bV i [m,n] 28,Ar bZ g a.2]) ((1:Int),(List.set C (Int.toNat A) (0:Int))) () h SF (a_.refl _) ?_;intro k a F h;refine aK<|aX<|aA Z<|aA Z<|cM Z<|aN ?_;refine fD h Z (λh=>?_) λh=>?_
  ·refine cL<|aK<|dW (λo=>rM a (bI (fL U d) k) o=some r) (λo G=>[(2,vP i),(5,vI (d.2.length:Int)),(6,g),(8,vI (a.1))]) (λo G=>[bV i [m,n] 28,Ar bZ g o]) ?_ ?_
   ·refine aT<|aX<|aD Z<|aN<|aT<|dX (iL U d a (bI (fL U d) k)) (λb H=>[(2,vP i),(5,vI (d.2.length:Int)),(6,g),(8,vI (a.1)),(9,vI (b.1))]) (λb H=>[bV i [m,n] 28,Ar bZ g b.2]) ((0:Int),a.2) () h SF (a_.refl _) ?_;intro y b H h;refine aK<|aX<|aA Z<|aA Z<|cM Z<|aN ?_;refine fD h Z (λh=>?_) λh=>?_
    ·refine cL<|aK<|dW (λp=>rO b (bI (iL U d a (bI (fL U d) k)) y) p=some r) (λp I=>[(2,vP i),(5,vI (d.2.length:Int)),(6,g),(8,vI (a.1)),(9,vI (b.1))]) (λp I=>[bV i [m,n] 28,Ar bZ g p]) ?_ ?_
     ·refine aT<|aX<|aD Z<|aN<|aT<|dX (lI d a b (bI (iL U d a (bI (fL U d) k)) y)) (λf J=>[(2,vP i),(5,vI (d.2.length:Int)),(6,g),(8,vI (a.1)),(9,vI (b.1)),(10,vI (f.1))]) (λf J=>[bV i [m,n] 28,Ar bZ g f.2]) ((0:Int),b.2) () h SF (a_.refl _) ?_;intro R f J h;refine aK<|aK<|dW (λu=>rP d a b (bI (iL U d a (bI (fL U d) k)) y) f (bI (lI d a b (bI (iL U d a (bI (fL U d) k)) y)) R) u=some r) (λu K=>[(2,vP i),(5,vI (d.2.length:Int)),(6,g),(8,vI (a.1)),(9,vI (b.1)),(10,vI (f.1)),(61,vB (u))]) (λu K=>[bV i [m,n] 28,Ar bZ g f.2]) ?_ ?_
      ·refine aQ<|aA Z<|bX Z<|dQ 0 Z<|aA Z<|cT h λz h=>aB (cC Z Z (aE.fact 1 Z) Z Z z) Z<|aB (b_ Z (aE.fact 1 Z) Z Z z) Z<|aB (fX Z (zBb (aE.fact 1 Z) z.1 z.2) Z) Z<|cM Z<|aA Z ?_;refine Eo h Z (λ_ h=>?_) λ_ h=>?_
       ·refine cP Z<|cP Z<|cT h λQ h=>aP Z (aZ Z Z (bB (aE.res 1 Z) dK) Z Z Q) Z<|aP Z (bR Z (bB (aE.res 1 Z) dK) Z Z Z cR Q) Z<|aP Z (Hl Z Z) Z<|dO Z<|aN ?_;exact gJ (decide ((at' f.2 b.1)<(0:Int))) () h SF Z
       refine aI Z<|aI Z<|aI Z<|aI Z<|aI Z<|fH Z<|aN ?_;exact gJ (false) () h SF Z
      intro u K h;refine Am h Z (λ_ h=>?_) λ_ h=>?_
      ·refine cL<|aK<|dW (λq=>nY f (bI (lI d a b (bI (iL U d a (bI (fL U d) k)) y)) R) q=some r) (λq L=>[(2,vP i),(5,vI (d.2.length:Int)),(6,g),(8,vI (a.1)),(9,vI (b.1)),(10,vI (f.1))]) (λq L=>[bV i [m,n] 28,Ar bZ g q]) ?_ ?_
       ·refine aT<|aX<|aA Z<|bX Z<|dQ 0 Z<|aA Z<|cT h λs h=>aB (cC Z Z (aE.fact 1 Z) Z Z s) Z<|aB (b_ Z (aE.fact 1 Z) Z Z s) Z<|aA Z<|cT h λN h=>aB (aZ Z Z (zBb (aE.fact 1 Z) s.1 s.2) Z Z N) Z<|aB (gF Z Z Z Z Z) Z<|aB (jJ Z (zBb (aE.fact 1 Z) s.1 s.2) Z Z Z nF N) Z<|cT h λO h=>aB (aZ Z Z (bB (aE.res 1 Z) dK) Z Z O) Z<|aB (bR Z (bB (aE.res 1 Z) dK) Z Z Z cR O) Z<|aA Z<|aB (oI Z Z) Z<|cS Z<|aN ?_;refine fD h Z (λh=>?_) λh=>?_
        ·refine aQ<|aA Z<|aA Z<|aA Z<|cT h λP h=>aB (aZ Z Z (bB (aE.res 1 Z) dK) Z Z P) Z<|vA 1 a.1 P Z Z Z Z Z Z Z<|eM<|mN ?_;exact gJ (List.set f.2 (Int.toNat b.1) a.1) () h SF Z
        refine dY<|mN ?_;exact gJ (f.2) () h SF Z
       intro q L h;unfold nY at h;refine aQ<|aA Z<|cJ Z<|aD Z<|aN ?_;exact xR ((wI .i64 (f.1+(1:Int))),q) () h SF Z
      refine pH<|d_<|d_<|u_<|mN ?_;exact gJ (f.2) () h SF Z
     intro p I h;unfold rO at h;refine aQ<|aA Z<|cJ Z<|aD Z<|aN ?_;exact xR ((wI .i64 (b.1+(1:Int))),p) () h SF Z
    refine pH<|d_<|d_<|u_<|mN ?_;exact gJ (b.2) () h SF Z
   intro o G h;unfold rM at h;refine aQ<|aA Z<|cJ Z<|aD Z<|aN ?_;exact xR ((wI .i64 (a.1+(1:Int))),o) () h SF Z
  refine e_ ?_;exact cF (a.2) () h SF (a_.ix [1] Z Z) (aG.refl _ _)
 intro t E h;unfold rK at h;refine aX<|aA Z<|aD Z<|aN<|aV ?_;cases h;exact fP (g) Z Z (RV.tmp Z) (a_.refl _) aG.nil
def gC (U:Nat) (a:cD) (b:Int):Option (Int):=
 Option.bind (kH U ((a.1,a.2)) b) λc=>(Option.bind (nA U c) λd=>(some (d)))
theorem aey:aW Tryz.prog 14:=Tryz.call14
theorem Fe (U:Nat) {d:cD} {e:Int} (a:Value)  (b:Value)  (f:kA) (r:Int) (h:gC U d e=some r):
  aY Tryz.prog 14 #[Value.agg #[a,b],vI (e)] [Sl bN a d.1,S2 bA b f d.2] (λx:Unit=>vI (r)) (λx l=>l) (λ_ l=>l):=by
 refine aY.of Tryz.func14 Z Tryz.ntmps14 Z λc=>?_;refine aX<|aH (aO.box (cs:=[a,b]) Z Z) Z λn=>aD Z<|aN<|aX<|dN 0 Z<|aA Z<|eZ h λg j h=>aH (zBa Yk (Ch U a b f g j) Z (mT [0,1] Z)) Z λm=>eZ h λi k h=>aH (zBa Yj (CZ U m i k) Z (aG.cons (bB (aE.res 0 Z) dK) .nil)) Z λo=>aD Z<|aN<|aV ?_;cases h;exact rX Z
def sB  (a:Int):Option (Int):=
 some (a)
def iK (U:Nat) (b:Int) (a:Int):Option (Int):=
 if a<(1:Int)then(some (0:Int))else(ck (a≠0) (if(Int.tmod b a)<(0:Int)then(sB  (wI .i64 ((Int.tmod b a)+a)))else(sB  (Int.tmod b a))))
theorem ED:aW Tryz.prog 23:=Tryz.call23
theorem mE (U:Nat) {d:Int} {b:Int} (r:Int) (h:iK U d b=some r):
  aY Tryz.prog 23 #[vI (d),vI (b)] [] (λx:Unit=>vI (r)) (λx l=>l) (λ_ l=>l):=by
 refine aY.of Tryz.func23 Z Tryz.ntmps23 Z λc=>?_;refine aX<|aD Z<|aN<|aK<|aX<|aA Z<|cM Z<|aN ?_;refine fD h Z (λh=>?_) λh=>?_
 ·refine aX<|aD Z<|aN<|aV<|aJ ?_;cases h;exact lA Z
 refine cL<|aX<|aA Z<|aA Z<|cT h λf h=>aB (Qb Z Z f) Z<|aD Z<|aN<|aK<|dW (λa=>sB  a=some r) (λa e=>[(0,vI (a))]) (λa e=>[]) ?_ ?_
 ·refine aX<|aA Z<|cM Z<|aN ?_;refine fD h Z (λh=>?_) λh=>?_
  ·refine aQ<|aA Z<|aA Z<|cJ Z<|aD Z<|aN ?_;exact gJ (wI .i64 ((Int.tmod d b)+b)) () h SF Z
  refine cL ?_;exact gJ (Int.tmod d b) () h SF Z
 intro a e h;unfold sB at h;refine aX<|aA Z<|aD Z<|aN<|aV ?_;cases h;exact lA Z
def tR (U:Nat) (b:aR) (a:Int):Option (Int):=
 if a<(b.length:Int)then(ck (0<=a∧a<(b.length:Int)) (some (at' b a)))else(some (0:Int))
theorem KB:aW Tryz.prog 24:=Tryz.call24
theorem BP (U:Nat) {b:aR} {d:Int} (e:Value) (r:Int) (h:tR U b d=some r):
  aY Tryz.prog 24 #[e,vI (d)] [Sl bN e b] (λx:Unit=>vI (r)) (λx l=>l) (λ_ l=>l):=by
 refine aY.of Tryz.func24 Z Tryz.ntmps24 Z λc=>?_;refine aX<|aD Z<|aN<|aK<|aX<|aA Z<|aA Z<|jN (aE.fact 0 Z) Z<|cM Z<|aN ?_;refine fD h Z (λh=>?_) λh=>?_
 ·refine aX<|aA Z<|aA Z<|cT h λa h=>aB (aZ Z Z (aE.fact 0 Z) Z Z a) Z<|aB (bR Z (aE.fact 0 Z) Z Z Z cR a) Z<|aD Z<|aN<|aV<|aJ ?_;cases h;exact lA Z
 refine cL<|aX<|aD Z<|aN<|aV ?_;cases h;exact lA Z
def wQ  (a:Unit):Option Bool:=
 some (false)
def AR (c:cD) (a:Int) (e:Int) (b:Int) (d:(Int)->Option Bool):Option Bool:=
 ck (0<=a∧a<(c.2.length:Int)) (if b<((at' c.2 a).length:Int)then(ck (0<=a∧a<(c.2.length:Int)) (ck (0<=b∧b<((at' c.2 a).length:Int)) (if((at' (at' c.2 a) b).1)=e then(some (true))else(d (wI .i64 (b+(1:Int)))))))else(wQ  (())))
def nV (U:Nat) (a:cD) (b:Int) (c:Int):Option Bool:=
 bI (AR a b c) U (0:Int)
theorem aeV:aW Tryz.prog 73:=Tryz.call73
theorem LZ (U:Nat) {g:cD} {i:Int} {j:Int} (k:Value)  (m:Value)  (q:kA) (r:Bool) (h:nV U g i j=some r):
  aY Tryz.prog 73 #[Value.agg #[k,m],vI (i),vI (j)] [Sl bN k g.1,S2 bA m q g.2] (λx:Unit=>vB (r)) (λx l=>l) (λ_ l=>l):=by
 refine aY.of Tryz.func73 Z Tryz.ntmps73 Z λc=>?_;unfold nV at h;refine aX<|aH (aO.box (cs:=[k,m]) Z Z) Z λn=>aD Z<|aN<|aK<|dW (λd=>wQ  d=some r) (λd o=>[]) (λd o=>[]) ?_ ?_
 ·refine aX<|aD Z<|aN<|aT<|dX (AR g i j) (λe p=>[(1,vI (i)),(2,vI (j)),(3,vP n),(7,vI (e))]) (λe p=>[bV n [k,m] 28]) (0:Int) () h SF (a_.refl _) ?_;intro s e p h;refine aK<|aX<|aA Z<|bX Z<|dQ 0 Z<|aA Z<|cT h λf h=>aB (cC Z Z (aE.fact 1 Z) Z Z f) Z<|aB (b_ Z (aE.fact 1 Z) Z Z f) Z<|aB (fX Z (zBb (aE.fact 1 Z) f.1 f.2) Z) Z<|cM Z<|aN ?_;refine fD h Z (λh=>?_) λh=>?_
  ·refine cL<|aK<|aT<|aX<|bX Z<|dQ 0 Z<|aA Z<|cT h λa h=>aB (cC Z Z (aE.fact 1 Z) Z Z a) Z<|aB (b_ Z (aE.fact 1 Z) Z Z a) Z<|aA Z<|cT h λb h=>aB (aZ Z Z (zBb (aE.fact 1 Z) a.1 a.2) Z Z b) Z<|aB (gF Z Z Z Z Z) Z<|aB (jJ Z (zBb (aE.fact 1 Z) a.1 a.2) Z Z Z nF b) Z<|aA Z<|cS Z<|aN ?_;refine fD h Z (λh=>?_) λh=>?_
   ·refine aX<|aD Z<|aN<|aV<|bM<|aJ<|aJ<|bM<|aJ ?_;cases h;exact rX Z
   refine dY<|mN<|aQ<|aA Z<|cJ Z<|aD Z<|aN ?_;exact xR (wI .i64 (e+(1:Int))) () h SF Z
  refine e_ ?_;exact cF () (()) h SF .nil (aG.refl _ _)
 intro d o h;unfold wQ at h;refine aX<|aD Z<|aN<|aV ?_;cases h;exact lA Z
end Go.Proofs.YtlkhndebimcbbaaGreatDoor