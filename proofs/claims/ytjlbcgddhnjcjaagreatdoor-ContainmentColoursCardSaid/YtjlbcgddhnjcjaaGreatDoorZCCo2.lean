/- Models and proofs. Conditions: none. -/
import Derived.Test.YtjlbcgddhnjcjaaGreatDoorZCCo1
import Derived.Maps.RangeRun
set_option linter.unusedVariables false
set_option linter.unusedSimpArgs false
set_option maxHeartbeats 4000000
set_option maxRecDepth 20000
section
namespace Go.Sx
open Go.RowKit
section
def kN (M L M' L':List aX):Prop:=∀c w,St c M L w->St c M' L' w
section
variable {P:Program} {rd:Option Nat} {c:tE} {n:Sz} {σ:Fr} {M L M' L':List aX} {Q:Exit->Act->World->Prop} {ops:Array Oper} {rest:List Oper} {K:Act->World->Prop}
variable {d:Option Tmp} {D:Nat} {ty:TypeId} {pos:String} {aft:Array Edge} {g:Option (Nat×Bool)}
variable {α β:Type} {e:cE α} {r:eM α}
variable {H Bs:List (Nat×List aX×List aX)} {G:Act->World->Prop} {GR:Act->World->List (Nat×World)->List (Nat×(World->Prop))->Prop}
theorem eQ (h:kN M L M' L') (k:J c n σ M' L' G):J c n σ M L G:=fun a w s t=>k a w s (h c w t)
theorem JR.stp (h:kN M L M' L') (k:JR c n σ M' L' H Bs GR):JR c n σ M L H Bs GR:=fun a w X Y s t b f=>k a w X Y s (h c w t) b f
theorem bM {p:Prop} (h:∀c w,St c M L w->p) (k:p->J c n σ M L G):J c n σ M L G:=fun a w s t=>k (h c w t) a w s t
theorem cB {p:Prop} (h:∀c w,St c M L w->p) (k:p->JR c n σ M L H Bs GR):JR c n σ M L H Bs GR:=fun a w X Y s t b f=>k (h c w t) a w X Y s t b f
theorem Know.one {v:Value} {xs:List α} (a:aB M L (Sl r v xs)):∀c w,St c M L w->one v=true:=fun c w t=>by
 obtain⟨S,f,cap,b,_⟩:=a.st t
 rw[b];rfl
theorem cQ (q:Nat) {vs:List Value} {xss:List (List α)} (a:M[q]? = some (fT e vs xss)):∀c w,St c M L w->vs.length=xss.length:=fun c w t=>by
 obtain⟨_,h⟩:=t.res a;exact h.1
theorem kN.add {m:aX} (h:∀w,m.p w (fun _=>False)):kN M L (m::M) L:=fun c w t=>by
 obtain⟨v,F,l,s⟩:=t
 refine⟨v,fun i k=>match i with|0=>False|i+1=>F i k,⟨?_,?_,?_⟩,fun f u=>aX.same (s f u) (fun k b=>⟨b.1,fun i a=>by
   cases i with
   |zero=>exact a
   |succ i=>exact b.2 i a⟩) (fun _ _ _=>rfl)⟩
 ·intro i x o
  cases i with
  |zero=>simp at o;subst o;exact h w
  |succ i=>exact l.res i x (by simpa using o)
 ·intro i k b
  cases i with
  |zero=>exact b.elim
  |succ i=>exact l.rng i k b
 ·intro i j k a q
  cases i with
  |zero=>exact a.elim
  |succ i=>
   cases j with
   |zero=>exact q.elim
   |succ j=>exact congrArg (· + 1) (l.dis i j k a q)
theorem dH (e:cE α):kN M L (Ar e (.slice none 0 0) []::M) L:=kN.add fun _=>⟨by simp,rfl,.inl ⟨rfl,rfl⟩⟩
theorem uH (e:cE α) (k:Nat):kN M L (fT e (List.replicate k (.slice none 0 0)) (List.replicate k [])::M) L:=kN.add fun w=>by
 refine⟨by simp,fun _ _=>False,fun i v xs a b=> ?_,fun _ _ h=>h,fun _ _ _ h=>h.elim⟩
 rw[List.getElem?_replicate]at a b
 split at a
 ·rename_i h;rw[if_pos h]at b;cases a;cases b;exact⟨by simp,rfl,.inl ⟨rfl,rfl⟩⟩
 ·cases a
theorem pL (e:cE α):kN M L (fT e [] []::M) L:=uH e 0
theorem HC (i j:Nat) {u:Value} {vs:List Value} {xss:List (List α)} {ys:List α} (p:Nat.beq i j=false) (J:M[i]? = some (fT e vs xss)) (N:M[j]? = some (Ar e u ys)):kN M L ((M.set i (fT e (vs++[u]) (xss++[ys]))).eraseIdx j) L:=fun c w t=>
 t.merge i j (fun e=>by subst e;simp at p) J N (by
  rintro w O A ⟨m,G,B,o,C⟩ I x
  refine⟨by simp[m],fun q k=>(q<vs.length∧G q k)∨(q=vs.length∧A k),?_,?_,?_⟩
  ·intro q v xs h l
   by_cases y:q<vs.length
   ·rw[List.getElem?_append_left y]at h
    rw[List.getElem?_append_left (by omega)]at l
    exact aX.same (f:=Ar e v xs) (B q v xs h l) (fun k a=> .inl ⟨y,a⟩) (fun _ _ _=>rfl)
   ·rw[List.getElem?_append_right (by omega)]at h
    rw[List.getElem?_append_right (by omega)]at l
    have s:q - vs.length=0:=by have:=aZ h;simp at this;omega
    rw[s]at h
    rw[show q - xss.length=0 by omega]at l
    simp at h l;subst h;subst l
    exact aX.same (f:=Ar e u ys) I (fun k a=> .inr ⟨by omega,a⟩) (fun _ _ _=>rfl)
  ·rintro q k (⟨_,a⟩|⟨_,a⟩)
   ·exact .inl (o q k a)
   ·exact .inr a
  ·rintro q z k (⟨E,a⟩|⟨E,a⟩) (⟨F,b⟩|⟨F,b⟩)
   ·exact C q z k a b
   ·exact absurd b (x k (o q k a))
   ·exact absurd a (x k (o z k b))
   ·omega)
theorem Gi (i j:Nat) {vs us:List Value} {xss o:List (List α)} (z:Nat.beq i j=false) (O:M[i]? = some (fT e vs xss)) (R:M[j]? = some (fT e us o)):kN M L ((M.set i (fT e (vs++us) (xss++o))).eraseIdx j) L:=fun c w t=>
 t.merge i j (fun e=>by subst e;simp at z) O R (by
  rintro w S T ⟨h,G,F,x,I⟩ ⟨m,E,u,l,y⟩ A
  refine⟨by simp[h,m],fun q k=>(q<vs.length∧G q k)∨(vs.length<=q∧E (q - vs.length) k),?_,?_,?_⟩
  ·intro q v xs p s
   by_cases B:q<vs.length
   ·rw[List.getElem?_append_left B]at p
    rw[List.getElem?_append_left (by omega)]at s
    exact aX.same (f:=Ar e v xs) (F q v xs p s) (fun k a=> .inl ⟨B,a⟩) (fun _ _ _=>rfl)
   ·rw[List.getElem?_append_right (by omega)]at p
    rw[List.getElem?_append_right (by omega),<-h]at s
    exact aX.same (f:=Ar e v xs) (u _ v xs p s) (fun k a=> .inr ⟨by omega,a⟩) (fun _ _ _=>rfl)
  ·rintro q k (⟨_,a⟩|⟨_,a⟩)
   ·exact .inl (x q k a)
   ·exact .inr (l _ k a)
  ·rintro q C k (⟨J,a⟩|⟨J,a⟩) (⟨N,b⟩|⟨N,b⟩)
   ·exact I q C k a b
   ·exact absurd (l _ k b) (A k (x q k a))
   ·exact absurd (l _ k a) (A k (x C k b))
   ·have:=y _ _ k a b;omega)
theorem wA (i j:Nat) {u:Value} {k:Int} {vs:List Value} {xss:List (List α)} {ys:List α} (a:Nat.beq i j=false) (b:M[i]? = some (fT e vs xss)) (f:M[j]? = some (Ar e u ys)) (h:0<=k∧k<xss.length):
  kN M L ((M.set i (fT e (vs.set k.toNat u) (xss.set k.toNat ys))).eraseIdx j) L:=fun c w t=>by
 have l:=cQ i b c w t
 exact SE (n:=⟨0,[]⟩) (σ:=[]) (G:=fun _ w=>St c ((M.set i (fT e (vs.set k.toNat u) (xss.set k.toNat ys))).eraseIdx j) L w) (k:=k) i j a b f h.1 (by omega) (fun _ _ _ t=>t) ⟨#[],[]⟩ w ⟨rfl,rfl,fun _ _ h=>by simp[lk]at h⟩ t
theorem aD.tail (l:List aX) {a:List aX}:aD M (l++a) a:=fun f b=>by
 obtain⟨j,h⟩:=List.getElem?_of_mem (List.mem_append_right l b)
 exact aB.fact j h
theorem bD {l:List Oper} {m:List Nat} {b:Nat} {a:List Nat} (k:Nat) (i:a.all (Nat.ble b)=true) (f:a.map (l[·]?)=(l.drop k).map some) (h:J c n σ M L (wpList P l.toArray Q (l.drop k))):JR c n σ M L H Bs (RW P l.toArray Q (before m) (cK l) b a):=JR.tail i f h


theorem dR [cI P] {T T':TypeId} {p q:Nat} {z:Value} {f:TypeDesc} {x:Operand} {b o:Nat} {cs:List Value} {v:Value} (m:ev σ x=some (.pointer (some ⟨b,o,none⟩)))
  (i:aB M L (bL b cs T')) (j:cI.tab P T=some ⟨f,p,q,z⟩) (k:wD f=false) (l:cs[o]? = some v):Y P c n σ M L ⟨d,.load T x,ty,pos,aft,g⟩ v:=fun a w s t=>by
 obtain⟨F,h⟩:=i.st t
 simp[execOp,s.eval m,wP (cI.ok j) k (bL.cell h l)]


theorem jV [cI P] {T E:TypeId} {k v A f B:Nat} {z C:Value} {l:TypeDesc} {x y:Operand} {b:Nat} {i:Int} (q:ev σ x=some (.pointer (some ⟨b,0,none⟩))) (u:ev σ y=some (.int .i64 i))
  (p:cI.tab P T=some ⟨.array k E,v,A,z⟩) (o:cI.tab P E=some ⟨l,f,B,C⟩) (m:(f==0)=false) (h:0<=i∧i<(k:Int)):
  Y P c n σ M L ⟨d,.indexAddr T x y,ty,pos,aft,g⟩ (.pointer (some ⟨b,i.toNat*f,none⟩)):=fun a w s t=>by
 have j:f≠0:=by simpa using m
 simp[execOp,s.eval q,s.eval u,Instr.indexAt,asIntOf,(cI.ok p).run_und w,h,Instr.sureAddr,(cI.ok o).run_size w,j,eG]
end
end
section
section
variable {P:Program} {rd:Option Nat} {c:tE} {n:Sz} {σ:Fr} {M L M' L':List aX} {Q:Exit->Act->World->Prop} {ops:Array Oper} {rest:List Oper} {K:Act->World->Prop}
variable {d:Option Tmp} {D:Nat} {ty:TypeId} {pos:String} {aft:Array Edge} {g:Option (Nat×Bool)}
variable {α β:Type} {e:cE α} {r:eM α}
theorem aK.b {A:Nat->Bool} {f a M L:List aX} {j:Nat} {H:List (Nat×List aX×List aX)} (h:A j=true) (k:aK A f a H):aK A f a ((j,M,L)::H):=⟨.inl h,k⟩
theorem aK.h {A:Nat->Bool} {b a M L:List aX} {j:Nat} {H:List (Nat×List aX×List aX)} (h:aR M b) (f:yK L a) (k:aK A b a H):aK A b a ((j,M,L)::H):=⟨.inr ⟨h,f⟩,k⟩
theorem aK.z {A:Nat->Bool} {b a:List aX}:aK A b a []:=trivial
theorem yG.b {A:Nat->Bool} {f a M L:List aX} {j:Nat} {H:List (Nat×List aX×List aX)} (h:A j=true) (k:yG A M L H):yG A M L ((j,f,a)::H):=⟨.inl h,k⟩
theorem yG.h {A:Nat->Bool} {b a M L:List aX} {j:Nat} {H:List (Nat×List aX×List aX)} (h:aR M b) (f:yK L a) (k:yG A M L H):yG A M L ((j,b,a)::H):=⟨.inr ⟨h,f⟩,k⟩
theorem yG.z {A:Nat->Bool} {M L:List aX}:yG A M L []:=trivial
theorem bY {v:Value} {vs:List Value} (h:one v=true) (k:vs.all one=true):(v::vs).all one=true:=by simp[h,k]
theorem c_ (k:IntKind) (x:Int):(Value.int k x).cells = #[.int k x]:=rfl
theorem cS (b:Bool):(Value.bool b).cells = #[.bool b]:=rfl
theorem cF (a:Option Addr) (l k:Nat):(Value.slice a l k).cells = #[.slice a l k]:=rfl
theorem dA (a:Option Addr):(Value.pointer a).cells = #[.pointer a]:=rfl
theorem dB (a:ByteArray):(Value.string a).cells = #[.string a]:=rfl
theorem cT (f:Fn) (a b:Array Value):(Value.func f a b).cells = #[.func f a b]:=rfl
theorem xI (q:Nat) {vs:List Value} {xss:List (List α)} {k:Int} {u:Value} (o:M[q]? = some (fT e (vs.set k.toNat u) xss)) (h:0<=k∧k<xss.length):∀c w,St c M L w->Go.Sx.one u=true:=fun c w t=>by
 obtain⟨S,m,s,j,_⟩:=t.res o
 have a:k.toNat<vs.length:=by simp at m;omega
 obtain⟨_,_,l⟩:=j k.toNat u _ (by rw[List.getElem?_set_self a]) (List.getElem?_eq_getElem (by omega))
 rcases l with⟨f,_⟩|⟨b,p,cap,T,i,f,_⟩<;>(rw[f];rfl)
theorem Fw [cI P] [Inhabited α] {T T':TypeId} {A:Nat} {z:Value} {j:TypeDesc} {x:Operand} {b k:Nat} {i:Int} {xs:List α} {u:Value} (l:ev σ x=some (.pointer (some ⟨b,i.toNat*1,none⟩)))
  (o:aB M L (bL b (cellsOf e xs) T')) (p:cI.tab P T=some ⟨j,1,A,z⟩) (q:wD j=false) (v:e.sz=1) (y:(e.enc (at' xs i))=[u]) (h:(0<=i∧i<(k:Int))∧xs.length=k):
  Y P c n σ M L ⟨d,.load T x,ty,pos,aft,g⟩ u:=fun a w s t=>by
 obtain⟨F,m⟩:=o.st t
 have f:=uI e xs i.toNat (at' xs i) (iI h.1.1 (by omega)) 0 u (by rw[y];rfl)
 rw[v,Nat.add_zero]at f
 rw[Nat.mul_one]at l f
 simp[execOp,s.eval l,wP (cI.ok p) q (bL.cell m f)]
theorem DO [cI P] (q:Nat) {T T':TypeId} {w:Nat} {z:Value} {m:TypeDesc} {x y:Operand} {b k:Nat} {i:Int} {xs:List α} {u:Value} (l:α) (h:(0<=i∧i<(k:Int))∧xs.length=k) (j:ev σ x=some (.pointer (some ⟨b,i.toNat*1,none⟩))) (v:ev σ y=some u)
  (o:M[q]? = some (bL b (cellsOf e xs) T')) (t:e.enc l=[u]) (a:one u=true) (p:cI.tab P T=some ⟨m,1,w,z⟩) (f:e.sz=1)
  (s:J c n σ (M.set q (bL b (cellsOf e (xs.set i.toNat l)) T')) L (wpList P ops Q rest)):
  J c n σ M L (wpList P ops Q (⟨none,.store T x y,ty,pos,aft,none⟩::rest)):=by
 rw[Nat.mul_one]at j
 refine eP q j v a o p ?_ ?_
 ·have:=dU e xs;rw[f]at this;rw[Nat.blt_eq];omega
 ·rw[<-uU f t];exact s
end
end
end Go.Sx
end
section
namespace Go.Sx
section
abbrev vI (x:Int):Value:= .int .i64 x
abbrev vU (x:Int):Value:= .int .u32 x
abbrev vP (b:Nat):Value:= .pointer (some ⟨b,0,none⟩)
open Go.RowKit
variable {P:Program} {rd:Option Nat} {c:tE} {n:Sz} {σ:Fr} {M L:List aX} {Q:Exit->Act->World->Prop} {ops:Array Oper} {rest:List Oper} {d:Nat} {ty:TypeId} {pos:String} {aft:Array Edge} {x y:Operand} {v:Value} {K:Act->World->Prop}
theorem qkMove (h:(ev σ x,Nat.blt d n.sz)=(some v,true)) (k:J c n ((d,v)::σ) M L (wpList P ops Q rest)):J c n σ M L (wpList P ops Q (⟨some d,.move x,ty,pos,aft,none⟩::rest)):=aA (dD (Prod.mk.inj h).1) (Prod.mk.inj h).2 k
theorem qkAsg (h:(ev σ x,Nat.blt d n.sz)=(some v,true)) (k:J c n ((d,v)::σ) M L (wpList P ops Q rest)):J c n σ M L (wpList P ops Q (⟨some d,.assign x,ty,pos,aft,none⟩::rest)):=aA (iV (Prod.mk.inj h).1) (Prod.mk.inj h).2 k
theorem qkFld [cI P] {T:TypeId} {r s i t:Nat} {z w:Value} {e:Array Field} {p u q:String} {m:Bool} {g a j:Nat} {l:TypeDesc} {b o f:Nat} (h:(ev σ x,cI.tab P T,e[f]?,cI.tab P g,i==0,Nat.blt d n.sz)=(some (.pointer (some ⟨b,o,none⟩)),some ⟨.struct e,r,s,z⟩,some ⟨p,g,a,m,u,q,j⟩,some ⟨l,i,t,w⟩,false,true)) (k:J c n ((d,.pointer (some ⟨b,o+a,none⟩))::σ) M L (wpList P ops Q rest)):J c n σ M L (wpList P ops Q (⟨some d,.fieldAddr T x f,ty,pos,aft,none⟩::rest)):=by
  simp only[Prod.mk.injEq]at h
  exact aA (cZ h.1 h.2.1 h.2.2.1 h.2.2.2.1 h.2.2.2.2.1) h.2.2.2.2.2 k
theorem qkLd [cI P] (i:Nat) {T T':TypeId} {e f:Nat} {z:Value} {a:TypeDesc} {b o:Nat} {cs:List Value} (h:(ev σ x,M[i]?,cI.tab P T,wD a,cs[o]?,Nat.blt d n.sz)=(some (.pointer (some ⟨b,o,none⟩)),some (bL b cs T'),some ⟨a,e,f,z⟩,false,some v,true)) (k:J c n ((d,v)::σ) M L (wpList P ops Q rest)):J c n σ M L (wpList P ops Q (⟨some d,.load T x,ty,pos,aft,none⟩::rest)):=by
  simp only[Prod.mk.injEq]at h
  exact aA (eF i h.1 h.2.1 h.2.2.1 h.2.2.2.1 h.2.2.2.2.1) h.2.2.2.2.2 k
theorem qkLdA [cI P] (i:Nat) {T T':TypeId} {e:Nat} {z:Value} {a:TypeDesc} {b:Nat} {cs:List Value} (h:(ev σ x,M[i]?,cI.tab P T,wD a,Nat.blt d n.sz)=(some (.pointer (some ⟨b,0,none⟩)),some (bL b cs T'),some ⟨a,cs.length,e,z⟩,true,true)) (k:J c n ((d,.agg cs.toArray)::σ) M L (wpList P ops Q rest)):J c n σ M L (wpList P ops Q (⟨some d,.load T x,ty,pos,aft,none⟩::rest)):=by
  simp only[Prod.mk.injEq]at h
  exact aA (eN i h.1 h.2.1 h.2.2.1 h.2.2.2.1) h.2.2.2.2 k
theorem gdSkip {e:Op} {j:Nat} {b a:Bool} (h:(gv ops σ j,a==b,Nat.blt d n.sz)=(some a,false,true)) (k:J c n ((d,undef)::σ) M L (wpList P ops Q rest)):J c n σ M L (wpList P ops Q (⟨some d,e,ty,pos,aft,some (j,b)⟩::rest)):=by
  simp only[Prod.mk.injEq]at h
  exact SB h.1 h.2.1 h.2.2 k
theorem gyMove {j:Nat} {b:Bool} (h:(gv ops σ j,ev σ x,Nat.blt d n.sz)=(some b,some v,true)) (k:J c n ((d,v)::σ) M L (wpList P ops Q rest)):J c n σ M L (wpList P ops Q (⟨some d,.move x,ty,pos,aft,some (j,b)⟩::rest)):=by
  simp only[Prod.mk.injEq]at h
  exact aS h.1 (dD h.2.1) h.2.2 k
theorem qkLss {t a:TypeId} {i:IntKind} {p q:Int} (h:(ev σ x,ev σ y,Nat.blt d n.sz)=(some (.int i p),some (.int i q),true)) (k:J c n ((d,.bool (decide (p<q)))::σ) M L (wpList P ops Q rest)):J c n σ M L (wpList P ops Q (⟨some d,.binOp .lss t x y a,ty,pos,aft,none⟩::rest)):=by
  simp only[Prod.mk.injEq]at h
  exact aA (Cg h.1 h.2.1) h.2.2 k
theorem qkEql {t a:TypeId} {i:IntKind} {p q:Int} (h:(ev σ x,ev σ y,Nat.blt d n.sz)=(some (.int i p),some (.int i q),true)) (k:J c n ((d,.bool (decide (p=q)))::σ) M L (wpList P ops Q rest)):J c n σ M L (wpList P ops Q (⟨some d,.binOp .eql t x y a,ty,pos,aft,none⟩::rest)):=by
  simp only[Prod.mk.injEq]at h
  exact aA (Dr h.1 h.2.1) h.2.2 k
theorem qkAdd {t a:TypeId} {i:IntKind} {p q:Int} (h:(ev σ x,ev σ y,Nat.blt d n.sz)=(some (.int i p),some (.int i q),true)) (k:J c n ((d,.int i (wI i (p+q)))::σ) M L (wpList P ops Q rest)):J c n σ M L (wpList P ops Q (⟨some d,.binOp .add t x y a,ty,pos,aft,none⟩::rest)):=by
  simp only[Prod.mk.injEq]at h
  exact aA (wB h.1 h.2.1) h.2.2 k
theorem cdI {e b:Code} {p:Prop} {_:Decidable p} {f:Type} {u w:Option f} {r:f} (h:(if p then u else w)=some r) (j:ev σ x=some (.bool (decide p))) (i:p->u=some r->J c n σ M L (e.wpr rd P Q)) (g:¬p->w=some r->J c n σ M L (b.wpr rd P Q)):J c n σ M L ((Code.cond x e b).wpr rd P Q):=VY j (fun a=>i a (JU a h)) (fun a=>g a (Xu a h))
theorem eT {b a:Code} {p:Prop} {_:Decidable p} {e:Type} {u w:Option e} {r:e} (h:(if p then u else w)=some r) (i:ev σ x=some (.bool (decide p))) (g:u=some r->J c n σ M L (b.wpr rd P Q)) (f:w=some r->J c n σ M L (a.wpr rd P Q)):J c n σ M L ((Code.cond x b a).wpr rd P Q):=cdI h i (fun _=>g) (fun _=>f)
theorem AG {f e:Code} {b:Bool} {g:Type} {u w:Option g} {r:g} (h:(if b=true then u else w)=some r) (k:ev σ x=some (.bool b)) (j:b=true->u=some r->J c n σ M L (f.wpr rd P Q)) (i:b=false->w=some r->J c n σ M L (e.wpr rd P Q)):J c n σ M L ((Code.cond x f e).wpr rd P Q):=Ky k (fun a=>j a (JU a h)) (fun a=>i a (Io a h))
theorem BS {d:Option Tmp} {f:Op} {j e:Nat} {p:Prop} {_:Decidable p} {b:Bool} {i:Type} {u w:Option i} {r:i} (h:(if p then u else w)=some r) (g:((ops[j]?).bind (·.dst),lk σ e)=(some e,some (.bool (decide p)))) (l:p->u=some r->J c n ((e,.bool true)::σ) M L (wpList P ops Q (⟨d,f,ty,pos,aft,some (j,b)⟩::rest))) (k:¬p->w=some r->J c n ((e,.bool false)::σ) M L (wpList P ops Q (⟨d,f,ty,pos,aft,some (j,b)⟩::rest))):J c n σ M L (wpList P ops Q (⟨d,f,ty,pos,aft,some (j,b)⟩::rest)):=SA (Prod.mk.inj g).1 (Prod.mk.inj g).2 (fun a=>l a (JU a h)) (fun a=>k a (Xu a h))
theorem dtN {ops:Array Oper} (h:J c n σ M L K):J c n σ M L (wpList P ops (Exit.then K Q) []):=h
theorem sqR {id:Nat} {l:List Oper} {z:Code} (h:J c n σ M L (wpList P l.toArray (Exit.then (z.wpr rd P Q) Q) l)) (a:l.all iS=true:=by rfl):J c n σ M L ((Code.seq (Code.region id l.toArray false) z).wpr rd P Q):=aG (aM h a)
variable {A B:Type} {ret:Unit->Value} {MO LO:Unit->List aX->List aX} {fn:Func} {C:A->Prop} {σI:A->B->Fr} {MI LI:A->B->List aX}
theorem lC {t:Tmp} (h:(ret (),fn.results,lk σ t,MO () [],LO () [],n.ds)=(v,#[.tmp t],some v,M,[],[])):J c n σ M L (fV P fn (KE c ret MO LO) .ret):=by
  simp only[Prod.mk.injEq]at h
  exact gY () h.1 h.2.1 (RV.tmp h.2.2.1) (h.2.2.2.1▸aR.refl _) (by rw[h.2.2.2.2.1];exact aD.nil) h.2.2.2.2.2
theorem wN {t:Tmp} (h:(ret (),fn.results,lk σ t,MO () [],LO () [],n.ds)=(v,#[.tmp t],some v,[],[],[])):J c n σ M L (fV P fn (KE c ret MO LO) .ret):=by
  simp only[Prod.mk.injEq]at h
  exact gY () h.1 h.2.1 (RV.tmp h.2.2.1) (by rw[h.2.2.2.1];exact aR.nil) (by rw[h.2.2.2.2.1];exact aD.nil) h.2.2.2.2.2
theorem midL {x:Code} (C:A->Prop) (σI:A->B->Fr) (MI:A->B->List aX) (e:J c n σ M L (x.wpr rd P (Exit.then (SN c n C σI MI (fun _ _=>L)) Q))) (f:∀a b,C a->J c n (σI a b) (MI a b) L K):J c n σ M L (x.wpr rd P (Exit.then K Q)):=xQ C σI MI (fun _ _=>L) e f
theorem loopL {R:Type} {e:Code} (step:A->(A->Option R)->Option R) {r:R} {U:Nat} (σI:A->B->Fr) (MI:A->B->List aX) (g:A) (i:B) (h:bJ step U g=some r) (l:xJ σ (σI g i)) (j:aR M (MI g i)) (f:∀k a b,step a (bJ step k)=some r->J c n (σI a b) (MI a b) L (e.wpr rd P (Exit.then (VX c n step r σI MI (fun _ _=>L) k) Q))):J c n σ M L ((Code.loop e).wpr rd P Q):=Ep step σI MI (fun _ _=>L) g i h l j (aD.refl _ _) f
theorem midU {x:Code} (C:A->Prop) (σI:A->Unit->Fr) (MI:A->Unit->List aX) (e:J c n σ M L (x.wpr rd P (Exit.then (SN c n C σI MI (fun _ _=>L)) Q))) (f:∀a b,C a->J c n (σI a b) (MI a b) L K):J c n σ M L (x.wpr rd P (Exit.then K Q)):=midL C σI MI e f
theorem cJ (h:J c n σ M L K):J c n σ M L (Code.skip.wpr rd P (Exit.then K Q)):=dQ h
theorem inT {id:Nat} (h:J c n σ M L K):J c n σ M L (Exit.inBlock id (Exit.then K Q) .normal):=h
theorem fM {id:Nat} {a b:Act->World->Prop} (h:J c n σ M L K):J c n σ M L ((Code.exit id).wpr rd P (Exit.then a (Exit.then b (Exit.inBlock id (Exit.then K Q))))):=oK (dJ (dJ (uF (wR h))))
theorem gR (x:A) (y:B) (a:C x) (b:xJ σ (σI x y)) (h:(MI x y,LI x y)=(M,L)):J c n σ M L (SN c n C σI MI LI):=bT x y a b ((Prod.mk.inj h).1▸aR.refl _) ((Prod.mk.inj h).2▸aD.refl _ _)
theorem yX {R:Type} {step:A->(A->Option R)->Option R} {r:R} {k:Nat} (x:A) (y:B) (h:bJ step k x=some r) (a:xJ σ (σI x y)) (e:(MI x y,LI x y)=(M,L)):J c n σ M L (VX c n step r σI MI LI k):=kZ x y h a ((Prod.mk.inj e).1▸aR.refl _) ((Prod.mk.inj e).2▸aD.refl _ _)
theorem aI.callQ {A:Type} {ret:A->Value} {MO:A->List aX->List aX} {f:FuncId} {xs:List Operand} {vs:List Value} {a:Array TypeId} {e:List aX} {d:Option Tmp} {g:Option (Nat×Bool)} (i:aP P f) (j:aU P f vs.toArray e ret MO (fun _ l=>l)) (k:xs.map (ev σ)=vs.map some) (h:aD M L e) (b:∀x l,MO x l=MO x []++l:=by exact fun _ _=>rfl):aI P c n σ M L ⟨d,.call ⟨.value (.func f),xs.toArray,a⟩,ty,pos,aft,g⟩ ret (fun x=>MO x M) (fun _=>L):=Ob i j k h b
variable {l:List Oper} {m:List Nat} {k0:Nat} {Bs:List (Nat×List aX×List aX)} {rs:List Nat} {i:Nat}
theorem jkMove (h:(l[i]?,ev σ x,Nat.blt i k0,Nat.blt d n.sz)=(some ⟨some d,.move x,ty,pos,aft,none⟩,some v,true,true)) (k:JR c n ((d,v)::σ) M L [] ((i,[],[])::Bs) (RW P l.toArray Q (before m) (cK l) k0 rs)):JR c n σ M L [] Bs (RW P l.toArray Q (before m) (cK l) k0 (i::rs)):=by
  simp only[Prod.mk.injEq]at h
  exact bG h.1 aR.nil yK.nil (dD h.2.1) aK.z k h.2.2.1 rfl h.2.2.2
theorem jkFld [cI P] {T:TypeId} {u w j D:Nat} {z F:Value} {e:Array Field} {s E t:String} {r:Bool} {g a p:Nat} {q:TypeDesc} {b o f:Nat} (h:(l[i]?,ev σ x,cI.tab P T,e[f]?,cI.tab P g,j==0,Nat.blt i k0,Nat.blt d n.sz)=(some ⟨some d,.fieldAddr T x f,ty,pos,aft,none⟩,some (.pointer (some ⟨b,o,none⟩)),some ⟨.struct e,u,w,z⟩,some ⟨s,g,a,r,E,t,p⟩,some ⟨q,j,D,F⟩,false,true,true)) (k:JR c n ((d,.pointer (some ⟨b,o+a,none⟩))::σ) M L [] ((i,[],[])::Bs) (RW P l.toArray Q (before m) (cK l) k0 rs)):JR c n σ M L [] Bs (RW P l.toArray Q (before m) (cK l) k0 (i::rs)):=by
  simp only[Prod.mk.injEq]at h
  exact bG h.1 aR.nil yK.nil (cZ h.2.1 h.2.2.1 h.2.2.2.1 h.2.2.2.2.1 h.2.2.2.2.2.1) aK.z k h.2.2.2.2.2.2.1 rfl h.2.2.2.2.2.2.2
theorem jkLd [cI P] (p:Nat) {T T':TypeId} {e f:Nat} {z:Value} {a:TypeDesc} {b o:Nat} {cs:List Value} (h:(l[i]?,ev σ x,M[p]?,cI.tab P T,wD a,cs[o]?,Nat.blt i k0,Nat.blt d n.sz)=(some ⟨some d,.load T x,ty,pos,aft,none⟩,some (.pointer (some ⟨b,o,none⟩)),some (bL b cs T'),some ⟨a,e,f,z⟩,false,some v,true,true)) (k:JR c n ((d,v)::σ) M L [] ((i,[bL b cs T'],[])::Bs) (RW P l.toArray Q (before m) (cK l) k0 rs)):JR c n σ M L [] Bs (RW P l.toArray Q (before m) (cK l) k0 (i::rs)):=by
  simp only[Prod.mk.injEq]at h
  exact bG h.1 (aR.cons p h.2.2.1 aR.nil) yK.nil (eF 0 h.2.1 rfl h.2.2.2.1 h.2.2.2.2.1 h.2.2.2.2.2.1) aK.z k h.2.2.2.2.2.2.1 rfl h.2.2.2.2.2.2.2
theorem jkLdA [cI P] (p:Nat) {T T':TypeId} {e:Nat} {z:Value} {a:TypeDesc} {b:Nat} {cs:List Value} (h:(l[i]?,ev σ x,M[p]?,cI.tab P T,wD a,Nat.blt i k0,Nat.blt d n.sz)=(some ⟨some d,.load T x,ty,pos,aft,none⟩,some (.pointer (some ⟨b,0,none⟩)),some (bL b cs T'),some ⟨a,cs.length,e,z⟩,true,true,true)) (k:JR c n ((d,.agg cs.toArray)::σ) M L [] ((i,[bL b cs T'],[])::Bs) (RW P l.toArray Q (before m) (cK l) k0 rs)):JR c n σ M L [] Bs (RW P l.toArray Q (before m) (cK l) k0 (i::rs)):=by
  simp only[Prod.mk.injEq]at h
  exact bG h.1 (aR.cons p h.2.2.1 aR.nil) yK.nil (eN 0 h.2.1 rfl h.2.2.2.1 h.2.2.2.2.1) aK.z k h.2.2.2.2.2.1 rfl h.2.2.2.2.2.2
end
section
theorem EK {X R:Type} {step:X->(X->Option R)->Option R} {r:R} (I:X->Prop) (c:X->Nat)
  (h:∀x d,I x->(∀a,I a->c a<c x->d a=some r)->step x d=some r):∀(fuel:Nat) (x:X),I x->c x<fuel->bJ step fuel x=some r:=by
 intro fuel
 induction fuel with
 |zero=>intro x _ g;omega
 |succ k i=>
  intro x e g
  exact h x _ e fun a b f=>i a b (by omega)
def OK {R:Type} (Q:R->Prop) (o:Option R):Prop:=∃r,o=some r∧Q r
theorem wW {X R:Type} {step:X->(X->Option R)->Option R} {Q:R->Prop} (I:X->Prop) (c:X->Nat)
  (h:∀x d,I x->(∀a,I a->c a<c x->OK Q (d a))->OK Q (step x d)):∀(fuel:Nat) (x:X),I x->c x<fuel->OK Q (bJ step fuel x):=by
 intro fuel
 induction fuel with
 |zero=>intro x _ g;omega
 |succ k i=>
  intro x e g
  exact h x _ e fun a b f=>i a b (by omega)
theorem cP {b:Type} {p:Prop} [Decidable p] (a:p) (x:Option b):ck p x=x:=if_pos a
theorem wr {x:Int} (a : -9223372036854775808<=x) (b:x<=9223372036854775807):wI .i64 x=x:=if_pos ⟨a,b⟩
theorem bA {a b:Type} {x:Option a} {y:a} {f:a->Option b} (h:x=some y):x.bind f=f y:=by rw[h];rfl
theorem aeC {a:Type} (l r:List a) (x y:a) (i:Nat) (h:l.length=i):(l++x::r).set i y=l++y::r:=by
 rw[List.set_append_right _ _ (by omega)];simp[<-h]
theorem Re {a:Type} [Inhabited a] (l r:List a) (x:a) (i:Nat) (h:l.length=i):at' (l++x::r) (i:Int)=x:=by
 rw[iX,List.getD_eq_getElem?_getD,List.getElem?_append_right (by omega)];simp[<-h]
end
section
theorem dV {X R:Type} {step:X->(X->Option R)->Option R} {K:Option R} (N:Nat) (F:Nat->X) (b:∀(k:Nat) e,k<N->step (F k) e=e (F (k+1))) (c:∀e,step (F N) e=K):∀fuel,N<fuel->bJ step fuel (F 0)=K:=by
 have h:∀(d a fuel:Nat),a+d=N->d<fuel->bJ step fuel (F a)=K:=by
  intro d
  induction d with
  |zero=>
   intro a fuel i g
   obtain rfl:a=N:=by omega
   obtain⟨f,rfl⟩:∃f,fuel=f+1:=⟨fuel - 1,by omega⟩
   exact c _
  |succ d j=>
   intro a fuel i g
   obtain⟨f,rfl⟩:∃f,fuel=f+1:=⟨fuel - 1,by omega⟩
   show step (F a) (bJ step f)=K
   rw[b a _ (by omega)]
   exact j (a+1) f (by omega) (by omega)
 exact fun fuel g=>h N 0 fuel (by omega) g
theorem OH {X R:Type} {step:X->(X->Option R)->Option R} {K bad:Option R} (N:Nat) (p:Nat->Prop) (F:Nat->X) (q:∀(k:Nat) b,k<N->p k->step (F k) b=b (F (k+1))) (g:∀(k:Nat) b,k<N->¬p k->step (F k) b=bad) (i:∀b,step (F N) b=K):
  ∀fuel,N<fuel->((∀k,k<N->p k)->bJ step fuel (F 0)=K)∧(¬(∀k,k<N->p k)->bJ step fuel (F 0)=bad):=by
 have r:∀(d a fuel:Nat),a+d=N->d<fuel->((∀k,a<=k->k<N->p k)->bJ step fuel (F a)=K)∧(¬(∀k,a<=k->k<N->p k)->bJ step fuel (F a)=bad):=by
  intro d
  induction d with
  |zero=>
   intro a fuel s o
   obtain rfl:a=N:=by omega
   obtain⟨f,rfl⟩:∃f,fuel=f+1:=⟨fuel - 1,by omega⟩
   exact⟨fun _=>i _,fun h=>absurd (fun k l c=>by omega) h⟩
  | succ d ih =>
   intro a fuel s o
   obtain⟨f,rfl⟩:∃f,fuel=f+1:=⟨fuel - 1,by omega⟩
   obtain⟨t,u⟩:=ih (a+1) f (by omega) (by omega)
   have e:bJ step (f+1) (F a)=step (F a) (bJ step f):=rfl
   rw[e]
   by_cases m:p a
   ·rw[q a _ (by omega) m]
    refine⟨fun h=>t fun k l c=>h k (by omega) c,fun h=>u fun n=>h fun k l c=> ?_⟩
    by_cases j:k=a
    ·subst j;exact m
    ·exact n k (by omega) c
   ·exact⟨fun h=>absurd (h a (Nat.le_refl _) (by omega)) m,fun _=>g a _ (by omega) m⟩
 intro fuel o
 obtain⟨l,c⟩:=r N 0 fuel (by omega) o
 exact⟨fun h=>l fun k _ j=>h k j,fun h=>c fun n=>h fun k j=>n k (by omega) j⟩
theorem rA {X R:Type} {step:X->(X->Option R)->Option R} {K:X->Option R} (N:Nat) (I:Nat->X->Prop) (c:∀(k:Nat) x h,k<N->I k x->∃b,I (k+1) b∧step x h=h b) (g:∀x h,I N x->step x h=K x):∀fuel x,I 0 x->N<fuel->∃b,I N b∧bJ step fuel x=K b:=by
 have l:∀(d a fuel:Nat) (x:X),a+d=N->d<fuel->I a x->∃b,I N b∧bJ step fuel x=K b:=by
  intro d
  induction d with
  |zero=>
   intro a fuel x o j e
   obtain rfl:a=N:=by omega
   obtain⟨f,rfl⟩:∃f,fuel=f+1:=⟨fuel - 1,by omega⟩
   exact⟨x,e,g _ _ e⟩
  |succ d q=>
   intro a fuel x o j e
   obtain⟨f,rfl⟩:∃f,fuel=f+1:=⟨fuel - 1,by omega⟩
   obtain⟨b,i,p⟩:=c a x (bJ step f) (by omega) e
   obtain⟨r,m,n⟩:=q (a+1) f b (by omega) (by omega) i
   exact⟨r,m,by rw[<-n];exact p⟩
 exact fun fuel x e j=>l N 0 fuel x (by omega) j e
def An (q:Nat->Bool):Nat->Bool
 |0=>false
 |k+1=>An q k||q k
theorem Mu {q:Nat->Bool}:∀{k:Nat},An q k=true↔∃i,i<k∧q i=true
 |0=>by simp[An]
 | k + 1 => by
  simp only[An,Bool.or_eq_true,Mu (k:=k)]
  constructor
  ·rintro(⟨i,b,a⟩|h)
   ·exact⟨i,by omega,a⟩
   ·exact⟨k,by omega,h⟩
  ·rintro⟨i,b,a⟩
   by_cases e:i=k
   ·subst e;exact .inr a
   ·exact .inl ⟨i,by omega,a⟩
def j_ (p:Nat->Bool):Nat->Nat
 |0=>0
 |k+1=>if p k then j_ p k ||| 2^k else j_ p k
theorem MR (p:Nat->Bool):∀k,j_ p k<2^k
 |0=>by simp[j_]
 |k+1=>by
  have h:=MR p k
  simp only[j_]
  split
  ·exact Nat.or_lt_two_pow (by omega) (Nat.pow_lt_pow_right (by omega) (by omega))
  ·omega
theorem AL (p:Nat->Bool) (j:Nat):∀k,(j_ p k).testBit j=(decide (j<k)&&p j)
 |0=>by simp[j_]
 | k + 1 => by
  have h:=AL p j k
  simp only[j_]
  by_cases e:j=k
  ·subst e
   cases c:p j<;>simp[h,c]
  ·have a:decide (j<k+1)=decide (j<k):=decide_eq_decide.2 (by omega)
   have b:¬k=j:=fun h=>e h.symm
   split
   ·rw[Nat.testBit_or,h,Nat.testBit_two_pow,a];simp[b]
   ·rw[h,a]
end
end Go.Sx
end
section
set_option linter.unusedSectionVars false
namespace Go.Sx
open Go.RowKit
section defs
variable {κ ν:Type} [DecidableEq κ]
def Cq (a:κ->Value) (b:ν->Value):Nat->List (κ×ν)->List MapEntry
 |_,[]=>[]
 |i,x::xs=>⟨a x.1,b x.2,i⟩::Cq a b (i+1) xs
def lU (k:κ):List (κ×ν)->Option ν
 | []=>none
 |x::xs=>if k=x.1 then some x.2 else lU k xs
def Bt (k:κ) (v:ν):List (κ×ν)->List (κ×ν)
 | []=>[(k,v)]
 |x::xs=>if k=x.1 then(k,v)::xs else x::Bt k v xs
def Ry (a:ν->Value) (k:κ):Nat->List (κ×ν)->Option (Nat×Value)
 |_,[]=>none
 |i,x::xs=>if k=x.1 then some (i,a x.2)else Ry a k (i+1) xs
theorem Lb (a:ν->Value) (k:κ):∀(i:Nat) (l:List (κ×ν)),(Ry a k i l).map (·.2)=(lU k l).map a
 |_,[]=>rfl
 |i,x::xs=>by
  simp only[Ry,lU]
  split
  ·rfl
  ·exact Lb a k (i+1) xs
theorem IA (a:κ->Value) (b:ν->Value):∀(i:Nat) (l:List (κ×ν)) (x:κ×ν),Cq a b i (l++[x])=Cq a b i l++[⟨a x.1,b x.2,i+l.length⟩]
 |i,[],x=>rfl
 |i,y::ys,x=>by
  simp only[List.cons_append,Cq,IA a b (i+1) ys x,List.length_cons]
  rw[show i+1+ys.length=i+(ys.length+1) by omega]
theorem FS (k:κ) (v:ν):∀l:List (κ×ν),lU k l=none->Bt k v l=l++[(k,v)]
 | [],_=>rfl
 | x :: xs, h => by
  simp only[lU]at h
  split at h
  ·cases h
  ·rename_i a
   simp only[Bt,if_neg a,FS k v xs h,List.cons_append]
theorem PW (a:κ->Value) (b:ν->Value) (k:κ) (v:ν):∀(i0 i:Nat) (l:List (κ×ν)) (j:Nat) (u:Value),Ry b k i l=some (j,u)->
  i<=j∧((Cq a b i l)[j - i]?).map (·.key)=some (a k)∧Cq a b i (Bt k v l)=(Cq a b i l).modify (j - i) (fun e=>{e with key:=a k,val:=b v})∧(Bt k v l).length=l.length
 |_,i,[],j,u,h=>by simp[Ry]at h
 | i0, i, x :: xs, j, u, h => by
  simp only[Ry]at h
  split at h
  ·rename_i n
   simp only[Option.some.injEq,Prod.mk.injEq]at h
   obtain⟨rfl,_⟩:=h
   simp[Cq,Bt,n]
  ·rename_i c
   obtain⟨o,f,g,m⟩:=PW a b k v i0 (i+1) xs j u h
   have d:j - i=(j - (i+1))+1:=by omega
   refine⟨by omega,?_,?_,?_⟩
   ·rw[d];simpa [Cq]using f
   ·simp only[Bt,if_neg c,Cq]
    rw[d,List.modify_succ_cons,g]
   ·simp[Bt,c,m]
end defs
structure Hy (P:Program) (kt:TypeId) {κ:Type} [DecidableEq κ] (ek:κ->Value):Prop where
 chk:∀b k w,(Instr.checkKey b 10000 kt (ek k)).run P w = .ok () w
 find:∀{ν:Type} (ev:ν->Value) (k:κ) (l:List (κ×ν)) w,(Instr.findKey kt (ek k) (Cq ek ev 0 l)).run P w = .ok (Ry ev k 0 l) w
 same:∀k,Instr.sameBits 10000 (ek k) (ek k)=true
def Mp {b c:Type} (d:b->Value) (e:c->Value) (r:Nat) (l:List (b×c)):aX where
 p w F:=F r∧w.heap[r]? = some (.map (Cq d e 0 l).toArray l.length)
 mono:=fun⟨f,a⟩ h=>by
  obtain⟨g,i⟩:=h r f (Array.getElem?_eq_some_iff.1 a).1
  exact⟨g,by rw[i];exact a⟩
section
variable {P:Program} {rd:Option Nat} {c:tE} {n:Sz} {σ:Fr} {M L:List aX} {Q:Exit->Act->World->Prop} {ops:Array Oper} {rest:List Oper}
variable {d:Option Tmp} {ty:TypeId} {pos:String} {aft:Array Edge} {g:Option (Nat×Bool)}
theorem St.push {w:World} (t:St c M L w) (o:Obj) {m:aX} (z:m.p (w.alloc o) (fun k=>k=w.heap.size)):St c (m::M) L (w.alloc o):=by
 have e:Kw w (w.alloc o):=(Below.refl _ _).alloc (Nat.le_refl _) _
 obtain⟨v,F,b,x⟩:=t
 have u:∀k,k<w.heap.size->(w.alloc o).heap[k]? = w.heap[k]? := e.block
 refine⟨v.trans e,fun i k=>match i with|0=>k=w.heap.size|i+1=>F i k,⟨?_,?_,?_⟩,fun f y=> ?_⟩
 ·intro i A a
  cases i with
  |zero=>simp at a;subst a;exact z
  |succ i=>exact aX.same (b.res i A (by simpa using a)) (fun _ h=>h) (fun k _ s=>u k s)
 ·intro i k q
  cases i with
  |zero=>subst q;exact⟨.inl v.size,by simp⟩
  |succ i=>exact⟨(b.rng i k q).1,Nat.lt_of_lt_of_le (b.rng i k q).2 e.size⟩
 ·intro i j k l r
  cases i with
  |zero=>
   cases j with
   |zero=>rfl
   |succ j=>have:=(b.rng j k r).2;simp only at l;omega
  |succ i=>
   cases j with
   |zero=>have:=(b.rng i k l).2;simp only at r;omega
   |succ j=>exact congrArg (· + 1) (b.dis i j k l r)
 ·exact f.mono (x f y) fun k q s=>⟨⟨q.1,fun i l=>by
   cases i with
   |zero=>simp only at l;omega
   |succ i=>exact q.2 i l⟩,u k s⟩
variable {κ ν:Type} [DecidableEq κ] {ek:κ->Value} {ev:ν->Value}
theorem aI.makeMap (ek:κ->Value) (ev:ν->Value) {T:TypeId}:aI P c n σ M L ⟨d,.makeMap T none,ty,pos,aft,g⟩ (fun r:Nat=> .map (some r)) (fun r=>Mp ek ev r []::M) (fun _=>L):=fun a w s t=>by
 have b:(execOp a.eval ⟨d,.makeMap T none,ty,pos,aft,g⟩).run P w = .ok (.value (.map (some w.heap.size))) (w.alloc (.map #[] 0)):=by
  simp[execOp,Instr.makeMap]
 simp only[Oper.wp,b,Oper.upon]
 exact⟨w.heap.size,rfl,t.push _ ⟨rfl,heap_alloc_new w _⟩⟩
theorem OX [cI P] {T j m:TypeId} {C D E G:Nat} {z f:Value} {o:TypeDesc} {w:World} {r:Nat} {l:List (κ×ν)} {F:Nat->Prop} (i:Hy P j ek) (q:(Mp ek ev r l).p w F)
  (s:cI.tab P T=some ⟨.map j m,C,D,z⟩) (t:cI.tab P m=some ⟨o,E,G,f⟩) (k:κ) (b:Bool):
  (Instr.lookup T (.map (some r)) (ek k) b).run P w = .ok (if b then .tuple #[((lU k l).map ev).getD f,.bool (lU k l).isSome]else((lU k l).map ev).getD f) w:=by
 have y:(getObj r).run P w = .ok (.map (Cq ek ev 0 l).toArray l.length) w:=by
  simp[getObj,Sem.run,q.2]
 have u:=i.find ev k l w
 have a:=Lb ev k 0 l
 simp only[Instr.lookup]
 simp[(cI.ok s).run_und w,y,i.chk,u]
 cases e:Ry ev k 0 l with
 |none=>
  rw[e]at a
  have:lU k l=none:=by cases h:lU k l<;>simp[h]at a ⊢
  simp[this,(cI.ok t).run_zero w]
 | some x =>
  rw[e]at a
  obtain⟨v,A,B⟩:∃v,lU k l=some v∧ev v=x.2:=by
   cases h:lU k l with
   |none=>simp[h]at a
   |some v=>simp[h]at a;exact⟨v,rfl,a.symm⟩
  simp[A,B]
theorem Mo [cI P] (j:Nat) {T e f:TypeId} {D E G H:Nat} {z h:Value} {i:TypeDesc} {x y:Operand} {r:Nat} {l:List (κ×ν)} (k:κ) {b:Bool} (v:Hy P e ek) (B:Go.Sx.ev σ x=some (.map (some r))) (C:Go.Sx.ev σ y=some (ek k)) (q:M[j]? = some (Mp ek ev r l))
  (o:cI.tab P T=some ⟨.map e f,D,E,z⟩) (p:cI.tab P f=some ⟨i,G,H,h⟩) {u:Value} (A:((lU k l).map ev).getD h=u):
  Y P c n σ M L ⟨d,.lookup T x y b,ty,pos,aft,g⟩ (if b then .tuple #[u,.bool (lU k l).isSome]else u):=fun a w s t=>by
 obtain⟨F,m⟩:=t.res q
 subst A
 simp[execOp,s.eval B,s.eval C,OX v m o p]
theorem Cu {w:World} {r:Nat} {a:Array MapEntry} {k:Nat} (h:w.heap[r]? = some (.map a k)) (o:Obj):(setObj r o).run P w = .ok () {w with heap:=w.heap.setIfInBounds r o}:=by
 simp[setObj,Sem.run,h]
theorem St.setMap {w:World} (t:St c M L w) {j r:Nat} {l b:List (κ×ν)} (f:M[j]? = some (Mp ek ev r l)) (o:Obj) (m:o = .map (Cq ek ev 0 b).toArray b.length):
  St c (M.set j (Mp ek ev r b)) L {w with heap:=w.heap.setIfInBounds r o}:=
 t.upd f rfl rfl rfl (by simp) fun F a _=>⟨fun k _ i=>by
   rw[Array.getElem?_setIfInBounds_ne (fun e=>i (by subst e;exact a.1))],F,⟨a.1,by
    rw[Array.getElem?_setIfInBounds_self_of_lt (Array.getElem?_eq_some_iff.1 a.2).1,m]⟩,fun _ h=> .inl h⟩
theorem LR [cI P] (j:Nat) {T R vt:TypeId} {s1 s2:Nat} {z:Value} {x y v:Operand} {r:Nat} {l:List (κ×ν)} (k:κ) (f:ν) (C:Hy P R ek) (Y:Go.Sx.ev σ x=some (.map (some r))) (Z:Go.Sx.ev σ y=some (ek k)) (X:Go.Sx.ev σ v=some (ev f)) (K:M[j]? = some (Mp ek ev r l))
  (I:cI.tab P T=some ⟨.map R vt,s1,s2,z⟩) (h:J c n σ (M.set j (Mp ek ev r (Bt k f l))) L (wpList P ops Q rest)):
  J c n σ M L (wpList P ops Q (⟨none,.mapUpdate T x y v,ty,pos,aft,none⟩::rest)):=fun a w s t=>by
 refine lO rfl ?_
 obtain⟨F,E⟩:=t.res K
 have N:(getObj r).run P w = .ok (.map (Cq ek ev 0 l).toArray l.length) w:=by
  simp[getObj,Sem.run,E.2]
 have b:=C.find ev k l w
 have A:=Lb ev k 0 l
 have B:∃o:Obj,(execOp a.eval ⟨none,.mapUpdate T x y v,ty,pos,aft,none⟩).run P w = .ok .skip {w with heap:=w.heap.setIfInBounds r o}∧o = .map (Cq ek ev 0 (Bt k f l)).toArray (Bt k f l).length:=by
  simp only[execOp,s.eval Y,s.eval Z,s.eval X,Instr.mapUpdate]
  cases m:Ry ev k 0 l with
  |none=>
   rw[m]at A b
   have U:lU k l=none:=by cases h:lU k l<;>simp[h]at A ⊢
   refine⟨.map (Cq ek ev 0 l++[(⟨ek k,ev f,l.length⟩:MapEntry)]).toArray (l.length+1),by simp[(cI.ok I).run_und w,N,C.chk,b,Cu E.2],?_⟩
   rw[FS k f l U,IA];simp
  | some q =>
   obtain⟨i,u⟩:=q
   rw[m]at b
   obtain⟨_,D,H,S⟩:=PW ek ev k f 0 0 l i u m
   rw[Nat.sub_zero]at D H
   have O:(((Cq ek ev 0 l).toArray[i]?).map (·.key)).getD (ek k)=ek k:=by
    rw[List.getElem?_toArray,D];rfl
   refine⟨.map ((Cq ek ev 0 l).toArray.modify i fun e=>{e with key:=ek k,val:=ev f}) l.length,?_,?_⟩
   ·have G:(Instr.keyThatStays (ek k) (ek k)).run P w = .ok (ek k) w:=by simp[Instr.keyThatStays,C.same k]
    have p:(Option.map (fun x=>x.key) (Cq ek ev 0 l)[i]?).getD (ek k)=ek k:=by rw[D];rfl
    simp[(cI.ok I).run_und w,N,C.chk,b,p,G,Cu E.2]
   ·rw[H,S];simp
 obtain⟨o,W,V⟩:=B
 simp only[Oper.wp,W,Oper.upon]
 exact h _ _ s (t.setMap K o V)
end
end Go.Sx
end
section
set_option linter.unusedSectionVars false
namespace Go.Sx
open Go.RowKit Go.ChangeMaps
def It (b m len:Nat) (a:List Nat):aX where
 p w F:=F b∧w.heap[b]? = some (.mapIter (some m) len a.toArray len)
 mono:=fun⟨d,c⟩ h=>by
  obtain⟨e,f⟩:=h b d (Array.getElem?_eq_some_iff.1 c).1
  exact⟨e,by rw[f];exact c⟩
section
variable {κ ν:Type} [DecidableEq κ] {ek:κ->Value} {ev:ν->Value} {R:Type}
theorem Ln (ek:κ->Value) (ev:ν->Value):∀(k:Nat) (l:List (κ×ν)) (e:MapEntry),e∈Cq ek ev k l->∃i a,l[i]? = some a∧e=⟨ek a.1,ev a.2,k+i⟩
 |_,[],e,h=>by simp[Cq]at h
 | k, x :: xs, e, h => by
  rcases List.mem_cons.1 h with rfl|h
  ·exact⟨0,x,rfl,rfl⟩
  ·obtain⟨i,a,b,c⟩:=Ln ek ev (k+1) xs e h
   exact⟨i+1,a,b,by rw[c,show k+1+i=k+(i+1) by omega]⟩
theorem Lm (ek:κ->Value) (ev:ν->Value):∀(k:Nat) (l:List (κ×ν)) (i:Nat) (a:κ×ν),l[i]? = some a->(⟨ek a.1,ev a.2,k+i⟩:MapEntry)∈Cq ek ev k l
 |_,[],i,a,h=>by simp at h
 |k,x::xs,0,a,h=>by simp at h;subst h;exact List.mem_cons_self
 |k,x::xs,i+1,a,h=>by
  have:=Lm ek ev (k+1) xs i a (by simpa using h)
  rw[show k+1+i=k+(i+1) by omega]at this
  exact List.mem_cons_of_mem _ this
theorem MW (ek:κ->Value) (ev:ν->Value):∀(k:Nat) (l:List (κ×ν)),(Cq ek ev k l).map (·.born)=List.range' k l.length
 |_,[]=>rfl
 |k,x::xs=>by simp[Cq,MW ek ev (k+1) xs,List.range'_succ]
def Jk (step:κ×ν->Option R->Option R) (K:Option R) (l:List (κ×ν)):Option R:=l.foldr step K
def rem (l:List (κ×ν)) (seen:List Nat):List (κ×ν):=((List.range l.length).filter (fun i=> !seen.contains i)).filterMap (fun i=>l[i]?)
theorem Kd:∀l:List (κ×ν),(List.range l.length).filterMap (fun i=>l[i]?)=l
 | []=>rfl
 |x::xs=>by
  rw[List.length_cons,List.range_succ_eq_map,List.filterMap_cons]
  simp only[List.getElem?_cons_zero,List.filterMap_map]
  congr 1
  have:=Kd xs
  simpa [Function.comp_def]using this
theorem XL (l:List (κ×ν)):rem l []=l:=by
 unfold rem
 rw[List.filter_eq_self.2 (by simp),Kd]
theorem UW {l:List (κ×ν)} {seen:List Nat} {i:Nat} {kv:κ×ν} (hi:l[i]? = some kv) (hs:i∉seen):∃l1 l2,rem l seen=l1++kv::l2∧rem l (seen++[i])=l1++l2:=by
 have hlt:=aZ hi
 have hmem:i∈(List.range l.length).filter (fun i=> !seen.contains i):=by simp[hlt,hs]
 obtain⟨A,B,hAB⟩:=List.append_of_mem hmem
 have hnd:((List.range l.length).filter (fun i=> !seen.contains i)).Nodup:=List.Pairwise.filter _ List.nodup_range
 rw[hAB]at hnd
 have hA:i∉A:=fun h=>by
  have:=(List.nodup_append.1 hnd).2.2 i h i List.mem_cons_self
  exact this rfl
 have hB:i∉B:=fun h=>by
  have:=(List.nodup_cons.1 (List.nodup_append.1 hnd).2.1).1
  exact this h
 refine⟨A.filterMap (fun i=>l[i]?),B.filterMap (fun i=>l[i]?),?_,?_⟩
 ·unfold rem
  rw[hAB,List.filterMap_append,List.filterMap_cons,hi]
 ·unfold rem
  have e:(List.range l.length).filter (fun j=> !(seen++[i]).contains j)=((List.range l.length).filter (fun j=> !seen.contains j)).filter (fun j=>decide (j≠i)):=by
   rw[List.filter_filter]
   apply List.filter_congr
   intro j _
   rw[Bool.eq_iff_iff]
   simp[and_comm]
  rw[e,hAB,List.filter_append,List.filter_cons]
  have fA:A.filter (fun j=>decide (j≠i))=A:=List.filter_eq_self.2 (fun j hj=>by simp;rintro rfl;exact hA hj)
  have fB:B.filter (fun j=>decide (j≠i))=B:=List.filter_eq_self.2 (fun j hj=>by simp;rintro rfl;exact hB hj)
  rw[fA,fB,List.filterMap_append.symm]
  simp
theorem Kb {step:κ×ν->Option R->Option R} (hc:∀a b x,step a (step b x)=step b (step a x)) (K:Option R) (c:κ×ν) (d:List (κ×ν)):∀e:List (κ×ν),Jk step K (e++c::d)=step c (Jk step K (e++d))
 | []=>rfl
 |x::xs=>by
  have:=Kb hc K c d xs
  unfold Jk at this ⊢
  rw[List.cons_append,List.cons_append,List.foldr_cons,List.foldr_cons,this,hc]
end
section
variable {P:Program} {rd:Option Nat} {c:tE} {n:Sz} {σ σ':Fr} {M L M' L':List aX} {Q:Exit->Act->World->Prop} {ops:Array Oper} {rest:List Oper}
variable {d:Option Tmp} {ty:TypeId} {pos:String} {aft:Array Edge} {g:Option (Nat×Bool)}
variable {κ ν:Type} [DecidableEq κ] {ek:κ->Value} {ev:ν->Value} {R:Type}
theorem aI.range [cI P] (j:Nat) {T f h:TypeId} {q r:Nat} {z:Value} {x:Operand} {m:Nat} {l:List (κ×ν)} (p:Go.Sx.ev σ x=some (.map (some m))) (o:M[j]? = some (Mp ek ev m l)) (k:cI.tab P T=some ⟨.map f h,q,r,z⟩):
  aI P c n σ M L ⟨d,.range T x,ty,pos,aft,g⟩ (fun b:Nat=> .pointer (some ⟨b,0,none⟩)) (fun b=>It b m l.length []::M) (fun _=>L):=fun a w s t=>by
 obtain⟨F,i⟩:=t.res o
 have e:(execOp a.eval ⟨d,.range T x,ty,pos,aft,g⟩).run P w = .ok (.value (.pointer (some ⟨w.heap.size,0,none⟩))) (w.alloc (.mapIter (some m) l.length #[] l.length)):=by
  simp[execOp,s.eval p,run_range_map w T f h m _ _ (cI.ok k).und i.2]
 simp only[Oper.wp,e,Oper.upon]
 exact⟨w.heap.size,rfl,t.push _ ⟨rfl,heap_alloc_new w _⟩⟩
def EO (ek:κ->Value) (ev:ν->Value) (l:List (κ×ν)):Option Nat->Value
 |none=> .tuple #[.bool false]
 |some i=>match l[i]? with
  |some a=> .tuple #[.bool true,ek a.1,ev a.2]
  |none=>undef
def ZT (len:Nat) (a:List Nat):Option Nat->Prop
 |none=>∀i,i<len->i∈a
 |some i=>i<len∧i∉a
def Qj (M:List aX) (e b m len:Nat) (a:List Nat):Option Nat->List aX
 |none=>M
 |some i=>M.set e (It b m len (a++[i]))
theorem St.pureL {w:World} {p:Prop} (hp:p) (t:St c M L w):St c M (YG p::L) w:=by
 obtain⟨ho,F,hF,hL⟩:=t
 refine⟨ho,F,hF,fun f hf=> ?_⟩
 rcases List.mem_cons.1 hf with rfl|hf
 ·exact hp
 ·exact hL f hf
theorem aI.next (jm ji:Nat) {x:Operand} {b m:Nat} {l:List (κ×ν)} {seen:List Nat} (hx:Go.Sx.ev σ x=some (.pointer (some ⟨b,0,none⟩))) (hf:M[jm]? = some (Mp ek ev m l)) (hi:M[ji]? = some (It b m l.length seen)):
  aI P c n σ M L ⟨d,.next x false,ty,pos,aft,g⟩ (EO ek ev l) (Qj M ji b m l.length seen) (fun o=>YG (ZT l.length seen o)::L):=fun a w s t=>by
 obtain⟨F,hF⟩:=t.res hf
 obtain⟨G,hG⟩:=t.res hi
 have hold:∀e∈(Cq ek ev 0 l).toArray.toList,e.born<l.length:=fun e he=>by
  obtain⟨i,kv,h1,h2⟩:=Ln ek ev 0 l e (by simpa using he)
  rw[h2];have:=aZ h1;simp;omega
 rcases run_next_at (P:=P) w ty b m l.length l.length seen.toArray (Cq ek ev 0 l).toArray l.length hG.2 hF.2 hold (Nat.le_refl _)with⟨h0,hr⟩|⟨e,he,w1,hw1,hr⟩
 ·have hrun:(execOp a.eval ⟨d,.next x false,ty,pos,aft,g⟩).run P w = .ok (.value (.tuple #[.bool false])) w:=by
   simp[execOp,s.eval hx,hr]
  simp only[Oper.wp,hrun,Oper.upon]
  refine⟨none,rfl,t.pureL fun i hi'=> ?_⟩
  obtain⟨kv,hkv⟩:∃kv,l[i]? = some kv:=⟨_,List.getElem?_eq_getElem hi'⟩
  have:=all_seen _ _ h0 _ (by simpa using Lm ek ev 0 l i kv hkv)
  simpa using this
 ·have hml:=_root_.Go.mem_left he
  obtain⟨i,kv,h1,h2⟩:=Ln ek ev 0 l e (by simpa using hml.1)
  subst h2
  rw[Nat.zero_add]at hr hml
  have hrun:(execOp a.eval ⟨d,.next x false,ty,pos,aft,g⟩).run P w = .ok (.value (.tuple #[.bool true,ek kv.1,ev kv.2])) (setBlock w1 b (.mapIter (some m) l.length (seen.toArray.push i) l.length)):=by
   simp[execOp,s.eval hx,hr]
  simp only[Oper.wp,hrun,Oper.upon]
  have t1:St c M L w1:=by
   rcases hw1 with rfl|rfl
   ·exact t
   ·exact t.ext ((Below.refl _ _).drew)
  refine⟨some i,by simp[EO,h1],St.pureL ⟨aZ h1,by simpa using hml.2⟩ ?_⟩
  refine t1.upd hi rfl rfl rfl (by simp[setBlock]) fun F hF _=>⟨fun k _ hk=> ?_,F,⟨hF.1,?_⟩,fun _ h=> .inl h⟩
  ·simp only[setBlock]
   rw[Array.getElem?_setIfInBounds_ne (fun e=>hk (by subst e;exact hF.1))]
  ·simp only[setBlock]
   rw[Array.getElem?_setIfInBounds_self_of_lt (Array.getElem?_eq_some_iff.1 hF.2).1]
   simp
theorem aI.entry (A z:Nat) {x:Operand} {b m i:Nat} {l:List (κ×ν)} {f:List Nat} {e:κ×ν} (j:l[i]? = some e) (y:Go.Sx.ev σ x=some (.pointer (some ⟨b,0,none⟩))) (q:M[A]? = some (Mp ek ev m l)) (r:M[z]? = some (It b m l.length (f++[i]))):
  aI P c n σ M L ⟨d,.entry x,ty,pos,aft,g⟩ (fun _:Unit=> .tuple #[ek e.1,ev e.2]) (fun _=>M) (fun _=>L):=fun a w s t=>by
 obtain⟨F,o⟩:=t.res q
 obtain⟨G,p⟩:=t.res r
 have k:=Lm ek ev 0 l i e j
 rw[Nat.zero_add]at k
 have u:((Cq ek ev 0 l).toArray.toList.map (·.born)).Nodup:=by
  simp only[MW];exact List.nodup_range'
 have v:=run_entry_at (P:=P) w b m l.length f.toArray (Cq ek ev 0 l).toArray l.length ⟨ek e.1,ev e.2,i⟩ (by rw[p.2];simp) o.2 (by simpa using k) u
 have h:(execOp a.eval ⟨d,.entry x,ty,pos,aft,g⟩).run P w = .ok (.value (.tuple #[ek e.1,ev e.2])) w:=by
  simp[execOp,s.eval y,v]
 simp only[Oper.wp,h,Oper.upon]
 exact⟨(),by first|rfl|trivial,t⟩
theorem V_ {G:Act->World->Prop} (σ':Fr) (M' L':List aX) (f:xJ σ σ') (e:aR M M') (b:aD [] L L') (h:J c n σ' M' L' G):J c n σ M L G:=fun a w s t=>h a w (s.weak f) (t.weakE e b)
theorem Oa {e:TypeId} {d:TypeDesc} (p:P.underlying e=some d) (m:∀b k w,(Instr.checkKey b 10000 e (ek k)).run P w = .ok () w) (o:∀a b,Instr.sameNow d (ek a) (ek b)=none)
  (q:∀a b w,(Op.equal e (ek a) (ek b)).run P w = .ok (decide (a=b)) w) (f:∀k,Instr.sameBits 10000 (ek k) (ek k)=true):Hy P e ek:=by
 refine⟨m,fun {ν'} ev' k l w=> ?_,f⟩
 have j:∀(l:List (κ×ν')) (i:Nat),(Instr.findAsking e (ek k) (Cq ek ev' i l) i).run P w = .ok (Ry ev' k i l) w:=by
  intro l
  induction l with
  |nil=>intro i;simp[Cq,Ry,Instr.findAsking]
  |cons x xs s=>
   intro i
   simp only[Cq,Ry,Instr.findAsking]
   simp[q]
   by_cases h:k=x.1
   ·simp[h]
   ·simp[h,s]
 unfold Instr.findKey
 cases l with
 |nil=>simp[Cq,Ry,Instr.findNow,run_underlying p w]
 |cons x xs=>
  have r:Instr.findNow d (ek k) (Cq ek ev' 0 (x::xs)) 0=none:=by simp[Cq,Instr.findNow,o]
  simp[run_underlying p w,r,j]
def SL {R:Type} (c:tE) (n:Sz) (σ:Fr) (M L:List aX) (x:Option R) (r:R) (a:Act) (w:World):Prop:=x=some r∧DT n σ a∧St c M L w
theorem NZ {R:Type} {x:Option R} {r:R} (h:x=some r) (e:xJ σ' σ) (b:aR M' M) (a:aD [] L' L):J c n σ' M' L' (SL c n σ M L x r):=fun _ _ s t=>⟨h,s.weak e,t.weakE b a⟩
theorem QX (step:κ×ν->Option R->Option R) {K:Option R} {r:R} (jm ji:Nat) {b m:Nat} {l:List (κ×ν)} (hc:∀a b x,step a (step b x)=step b (step a x)) (h:Jk step K l=some r)
  (hf:M[jm]? = some (Mp ek ev m l)) (hi:M[ji]? = some (It b m l.length [])) (hne:Nat.beq ji jm=false) {t0 t1 t2:Tmp} (hx:lk σ t0=some (.pointer (some ⟨b,0,none⟩))) (hd1:Nat.blt t1 n.sz=true) (hd2:Nat.blt t2 n.sz=true)
  {id ex:Nat} {y1 y2:TypeId} {q1 q2:String} {f1 f2:Array Edge} {body:Code}
  (round:∀(kv:κ×ν) (i:Nat) (seen:List Nat) (x:Option R),l[i]? = some kv->step kv x=some r->
   J c n ((t2,.bool true)::(t1,.tuple #[.bool true,ek kv.1,ev kv.2])::σ) (M.set ji (It b m l.length (seen++[i]))) L (body.wpr rd P (Exit.then (SL c n σ (M.set ji (It b m l.length (seen++[i]))) L x r) Q)))
  (fin:∀seen,K=some r->J c n ((t2,.bool false)::(t1,.tuple #[.bool false])::σ) (M.set ji (It b m l.length seen)) L (Q (.exit ex))):
  J c n σ M L ((Code.loop (Code.seq (Code.region id [⟨some t1,.next (.tmp t0) false,y1,q1,f1,none⟩,⟨some t2,.extract (.tmp t1) 0,y2,q2,f2,none⟩].toArray false) (Code.seq (Code.cond (.tmp t2) .skip (.exit ex)) body))).wpr rd P Q):=by
 have hjlt:=aZ hi
 have hjm:jm≠ji:=fun e=>by subst e;simp at hne
 have hset:M.set ji (It b m l.length [])=M:=by
  apply List.ext_getElem?
  intro q
  by_cases eq:q=ji
  ·subst eq;rw[List.getElem?_set_self hjlt,hi]
  ·rw[List.getElem?_set_ne (Ne.symm eq)]
 refine SC (X:=List Nat) (fun seen=>seen.Nodup∧(∀i∈seen,i<l.length)∧Jk step K (rem l seen)=some r) (fun _=>σ) (fun seen=>M.set ji (It b m l.length seen)) (fun _=>L) (fun seen=>l.length - seen.length) [] ⟨List.nodup_nil,by simp,by rw[XL];exact h⟩ (xJ.refl _) (by rw[hset];exact aR.refl _) (fun _ h=>h) ?_
 rintro seen ⟨hnd,hlt,hrun⟩
 have hf':(M.set ji (It b m l.length seen))[jm]? = some (Mp ek ev m l):=by rw[List.getElem?_set_ne (Ne.symm hjm)];exact hf
 have hi':(M.set ji (It b m l.length seen))[ji]? = some (It b m l.length seen):=List.getElem?_set_self hjlt
 refine aG (aM (aF (aI.next jm ji (x:= .tmp t0) hx hf' hi') hd1 fun o=> ?_))
 refine YD List.mem_cons_self fun ho=> ?_
 refine YE (M':=Qj (M.set ji (It b m l.length seen)) ji b m l.length seen o) (L':=L) ?_ (xJ.refl _) (aR.refl _) (fun f hf=>List.mem_cons_of_mem _ hf)
 cases o with
 | none =>
  refine aA (fC (vs:=[.bool false]) (by simp[EO,lk,Go.Sx.ev]) rfl) hd2 (dN (wR (aG (CM (by simp[lk,Go.Sx.ev]) (oK (dJ (dJ ?_)))))))
  refine fin seen ?_
  have:rem l seen=[]:=by
   unfold rem
   rw[List.filter_eq_nil_iff.2 (fun i hi=>by simpa using ho i (by simpa using hi))]
   rfl
  rw[this]at hrun
  exact hrun
 | some i =>
  obtain⟨h1,h2⟩:=ho
  obtain⟨kv,hkv⟩:∃kv,l[i]? = some kv:=⟨_,List.getElem?_eq_getElem h1⟩
  have hval:EO ek ev l (some i) = .tuple #[.bool true,ek kv.1,ev kv.2]:=by simp[EO,hkv]
  obtain⟨l1,l2,e1,e2⟩:=UW hkv h2
  have hstep:step kv (Jk step K (rem l (seen++[i])))=some r:=by
   rw[e2,<-Kb hc K kv l2 l1,<-e1];exact hrun
  have hMs:Qj (M.set ji (It b m l.length seen)) ji b m l.length seen (some i)=M.set ji (It b m l.length (seen++[i])):=by simp[Qj]
  rw[hval,hMs]
  refine aA (fC (vs:=[.bool true,ek kv.1,ev kv.2]) (by simp[lk,Go.Sx.ev]) rfl) hd2 (dN (wR (aG (Pq (by simp[lk,Go.Sx.ev]) (dQ (wR ?_))))))
  refine SD (round kv i seen _ hkv hstep) fun a w hw=>Fp (fun e a' w' q=> ?_) hw
  cases e with
  | normal =>
   obtain⟨hx',hs',ht'⟩:=q
   refine⟨seen++[i],⟨?_,?_,hx'⟩,?_,hs',ht'⟩
   ·rw[List.nodup_append];exact⟨hnd,by simp,fun a ha b hb=>by simp at hb;subst hb;rintro rfl;exact h2 ha⟩
   ·intro j hj
    rcases List.mem_append.1 hj with hj|hj
    ·exact hlt j hj
    ·simp at hj;subst hj;exact h1
   ·have:seen.length<l.length:=by
     have hsub:(seen++[i]).length<=(List.range l.length).length:=by
      apply List.Nodup.length_le_of_subset
      ·rw[List.nodup_append];exact⟨hnd,by simp,fun a ha b hb=>by simp at hb;subst hb;rintro rfl;exact h2 ha⟩
      ·intro j hj
       rcases List.mem_append.1 hj with hj|hj
       ·simpa using hlt j hj
       ·simp at hj;subst hj;simpa using h1
     simp at hsub;omega
    simp;omega
  |exit id=>exact q
  |goto l=>exact q
  |ret=>exact q
  |panic ch=>exact q
  |outgrown=>exact q
end
end Go.Sx
end
section
namespace Go.Sx
open Go.RowKit
section
section
variable {P:Program} {rd:Option Nat} {c:tE} {n:Sz} {σ σ':Fr} {M L M' L':List aX} {Q:Exit->Act->World->Prop} {ops:Array Oper} {rest:List Oper} {K:Act->World->Prop} {G:Act->World->Prop}
variable {d:Option Tmp} {D:Nat} {ty:TypeId} {pos:String} {aft:Array Edge} {g:Option (Nat×Bool)}
variable {α β:Type} {e:cE α} {r:eM α}


def DR (P:Program) (f:FuncId) (args:Array Value) (Min L:List aX) {A:Type} (a:A->Value) (b:A->List aX->List aX):Prop:=
 ∀c:tE,St c Min L c.w0->Calls P f args c.w0 fun e w'=>∃x:A,e = .returned (a x)∧St c (b x []) [] w'
theorem DR.of {A:Type} {b:A->Value} {p:A->List aX->List aX} {f:FuncId} {fn:Func} {a:Code} {vs:List Value} {m:Nat} {Min:List aX}
  (s:P.funcs[f]? = some fn) (q:fn.body=some a) (w:fn.ntmps=m) (u:Nat.ble vs.length m=true)
  (h:∀c:tE,J c ⟨m,[]⟩ (wG 0 vs) Min L (a.wpr none P (fV P fn (KE c b p (fun _ l=>l))))):DR P f vs.toArray Min L b p:=fun c t=>by
 have k:vs.length<=m:=by simpa using u
 refine rM s q (h c _ _ ⟨rfl,by simp[w,k],?_⟩ t)
 intro t v x
 obtain⟨_,i⟩:=Cn vs 0 t v x
 rw[Nat.sub_zero]at i
 have o:t<vs.length:=by
  rcases Nat.lt_or_ge t vs.length with j|j
  ·exact j
  ·rw[List.getElem?_eq_none j]at i;cases i
 rw[Array.getElem?_append_left (by simpa using o)]
 simpa using i
theorem SY {w w':World} {Min Mr u:List aX} {F:Nat->Nat->Prop} {U:Nat->Prop} (x:AC c.O c.w0 w) (l:Yd c w (Min++Mr) F) (T:∀f∈L,f.p w (De c F))
  (t:St ⟨w,U,fun k=>∃i,i<Min.length∧F i k⟩ u [] w'):St c (u++Mr) L w':=by
 obtain⟨o,F',s,_⟩:=t
 have B:=o.size
 have v:∀k,k<w.heap.size->(∀i,i<Min.length->¬F i k)->w'.heap[k]? = w.heap[k]? := fun k a W=>o.block k a (fun⟨i,A,l⟩=>W i A l)
 have b:∀i k,F' i k->w.heap.size<=k∨∃j,j<Min.length∧F j k:=fun i k a=>(s.rng i k a).1
 refine⟨⟨o.os.trans x.os,o.tape.trans x.tape,o.output.trans x.output,Nat.le_trans x.size B,fun k a R=> ?_⟩,
  fun i k=>(i<u.length∧F' i k)∨(u.length<=i∧F (i - u.length+Min.length) k),⟨?_,?_,?_⟩,fun f V=> ?_⟩
 ·refine(v k (Nat.lt_of_lt_of_le a x.size) (fun i _ E=> ?_)).trans (x.block k a R)
  rcases(l.rng i k E).1 with h|h
  ·omega
  ·exact R h
 ·intro i m C
  by_cases A:i<u.length
  ·rw[List.getElem?_append_left A]at C
   exact aX.same (s.res i m C) (fun k a=> .inl ⟨A,a⟩) (fun _ _ _=>rfl)
  ·rw[List.getElem?_append_right (by omega)]at C
   have J:(Min++Mr)[i - u.length+Min.length]? = some m:=by
    rw[List.getElem?_append_right (by omega),Nat.add_sub_cancel];exact C
   exact aX.same (l.res _ m J) (fun k a=> .inr ⟨by omega,a⟩) (fun k a I=>v k I (fun j S H=>by have:=l.dis _ _ k H a;omega))
 ·rintro i k (⟨_,a⟩|⟨_,a⟩)
  ·refine⟨?_,(s.rng i k a).2⟩
   rcases b i k a with h|⟨j,_,h⟩
   ·exact .inl (Nat.le_trans x.size h)
   ·exact(l.rng j k h).1
  ·exact⟨(l.rng _ k a).1,Nat.lt_of_lt_of_le (l.rng _ k a).2 B⟩
 ·rintro i j k (⟨A,y⟩|⟨A,y⟩) (⟨S,z⟩|⟨S,z⟩)
  ·exact s.dis i j k y z
  ·rcases b i k y with h|⟨q,X,h⟩
   ·have:=(l.rng _ k z).2;omega
   ·have:=l.dis _ _ k h z;omega
  ·rcases b j k z with h|⟨q,X,h⟩
   ·have:=(l.rng _ k y).2;omega
   ·have:=l.dis _ _ k h y;omega
  ·have:=l.dis _ _ k y z;omega
 ·refine f.mono (T f V) fun k a I=>⟨⟨a.1,?_⟩,v k I (fun i _=>a.2 i)⟩
  rintro i (⟨_,h⟩|⟨_,h⟩)
  ·rcases b i k h with N|⟨q,_,N⟩
   ·omega
   ·exact a.2 q N
  ·exact a.2 _ h
theorem St.enterM {w:World} {Min Mr s:List aX} {F:Nat->Nat->Prop} (l:Yd c w (Min++Mr) F) (v:∀f∈L,f.p w (De c F)) (z:aD Mr L s):
  St ⟨w,fun k=>∀i,i<Min.length->¬F i k,fun k=>∃i,i<Min.length∧F i k⟩ Min s w:=by
 refine⟨AC.refl _,fun i k=>i<Min.length∧F i k,⟨fun i m q=> ?_,fun i k a=>⟨.inr ⟨i,a⟩,(l.rng i k a.2).2⟩,fun i j k t u=>l.dis i j k t.2 u.2⟩,fun f x=> ?_⟩
 ·have b:i<Min.length:=by
   rcases Nat.lt_or_ge i Min.length with o|o
   ·exact o
   ·rw[List.getElem?_eq_none o]at q;cases q
  exact aX.same (l.res i m (by rw[List.getElem?_append_left b];exact q)) (fun k a=>⟨b,a⟩) (fun _ _ _=>rfl)
 ·refine z f x w (De c F) (fun j k=>F (j+Min.length) k) _ v (fun j m y=> ?_) (fun k a=> ?_) (fun j k a=> ?_)
  ·exact l.res _ m (by rw[List.getElem?_append_right (by omega),Nat.add_sub_cancel];exact y)
  ·exact⟨.inl fun i _=>a.2 i,fun i b=>a.2 i b.2⟩
  ·exact⟨.inl fun i b h=>by have:=l.dis _ _ k h a;omega,fun i b=>by have:=l.dis _ _ k b.2 a;omega⟩
theorem AZ {A:Type} {k:A->Value} {m:A->List aX->List aX} {f:FuncId} {xs:List Operand} {vs:List Value} {b:Array TypeId} {p Min Mr:List aX} (y:aP P f)
  (B:DR P f vs.toArray Min p k m) (E:xs.map (ev σ)=vs.map some) (v:aR M (Min++Mr)) (u:aD Mr L p) (o:∀x l,m x l=m x []++l):
  aI P c n σ M L ⟨d,.call ⟨.value (.func f),xs.toArray,b⟩,ty,pos,aft,g⟩ k (fun x=>m x Mr) (fun _=>L):=fun a w s t=>by
 have j:(execOp a.eval ⟨d,.call ⟨.value (.func f),xs.toArray,b⟩,ty,pos,aft,g⟩).run P w = .ok (.enter f vs.toArray) w:=by
  have e:=ZA s E
  simp[execOp,resolve,Act.eval,Deferred.ofValue,invoke,y _ w,e]
 simp only[Oper.wp,j,Oper.upon]
 obtain⟨z,F,q,i⟩:=t.weak (L':=L) v (fun _ h=>h)
 refine(B _ (St.enterM q i u)).mono ?_
 rintro e w' ⟨x,rfl,C⟩
 refine⟨x,rfl,?_⟩
 rw[o]
 exact SY z q i C

def Wb {A B:Type} (c:tE) (C:A->Prop) (a:A->B->Value) (f b:A->B->List aX) (e:Ending) (w:World):Prop:=∃x y,C x∧e = .returned (a x y)∧St c (f x y) (b x y) w
theorem Il {fn:Func} {vs:List Value} {m:Nat} (j:fn.ntmps=m) (i:Nat.ble vs.length m=true):DT ⟨m,[]⟩ (wG 0 vs) {tmps:=vs.toArray++Array.replicate (fn.ntmps - vs.toArray.size) undef,defers:=[]}:=by
 have f:vs.length<=m:=by simpa using i
 refine⟨rfl,by simp[j,f],?_⟩
 intro t v k
 obtain⟨_,a⟩:=Cn vs 0 t v k
 rw[Nat.sub_zero]at a
 have h:t<vs.length:=by
  rcases Nat.lt_or_ge t vs.length with b|b
  ·exact b
  ·rw[List.getElem?_eq_none b]at a;cases a
 rw[Array.getElem?_append_left (by simpa using h)]
 simpa using a
structure pV (P:Program) (c:tE) (n:Sz) (σ:Fr) (M L:List aX) (o:Oper) (f:FuncId) (vs:List Value):Prop where
 run:∀a w,DT n σ a->St c M L w->(execOp a.eval o).run P w = .ok (.enter f vs.toArray) w
theorem pV.fn {f:FuncId} {xs:List Operand} {vs:List Value} {b:Array TypeId} (h:aP P f) (i:xs.map (ev σ)=vs.map some):pV P c n σ M L ⟨d,.call ⟨.value (.func f),xs.toArray,b⟩,ty,pos,aft,g⟩ f vs:=⟨fun a w s _=>by
 have e:=ZA s i
 simp[execOp,resolve,Act.eval,Deferred.ofValue,invoke,h _ w,e]⟩
theorem CL {f:FuncId} {t:Tmp} {xs:List Operand} {us cs vs:List Value} {b:Array TypeId} (i:aP P f) (j:lk σ t=some (.func (.func f) #[] cs.toArray)) (l:xs.map (ev σ)=us.map some) (k:us++cs=vs):pV P c n σ M L ⟨d,.call ⟨.value (.tmp t),xs.toArray,b⟩,ty,pos,aft,g⟩ f vs:=⟨fun a w s _=>by
 have e:=ZA s l
 have h:a.eval (.tmp t) = .func (.func f) #[] cs.toArray:=s.eval (x:= .tmp t) j
 subst k
 simp[execOp,resolve,h,Deferred.ofValue,invoke,i _ w,e]⟩

def Df (P:Program) (c:tE) (n:Sz) (σ:Fr) (M L:List aX) (fn:Func) (v:Value):Prop:=∀a w,DT n σ a->St c M L w->(results fn a.tmps).run P w = .ok v w
variable {fn:Func}
theorem Df.r0 (b:fn.results = #[]):Df P c n σ M L fn (.tuple #[]):=fun a w _ _=>by simp[results,b]
theorem Df.r1 {f:ResultVar} {h:Value} (b:fn.results = #[f]) (i:RV P c n σ M L f h):Df P c n σ M L fn h:=fun a w s t=>by
 have:=i a w s t
 simp only[wM,b]
 simp[this]
theorem Df.r2 {i j:ResultVar} {k l:Value} (b:fn.results = #[i,j]) (f:RV P c n σ M L i k) (h:RV P c n σ M L j l):Df P c n σ M L fn (.tuple #[k,l]):=fun a w s t=>by
 have f:=f a w s t
 have h:=h a w s t
 simp only[wM,b]
 simp[f,h]
theorem oL {A B:Type} {m:Sz} {v:Value} {f:Exit} {C:A->Prop} {b:A->B->Value} {k j:A->B->List aX} (x:A) (y:B) (l:C x) (i:f = .ret∨f = .normal) (q:Df P c m σ' M L fn v) (u:v=b x y) (p:aR M (k x y)) (o:aD [] L (j x y)) (h:m.ds=[]:=by rfl):
  J c m σ' M L (fV P fn (Wb c C b k j) f):=fun a w s t=>by
 exact body_end i (s.defers.trans h) (q a w s t) ⟨x,y,l,by rw[u],t.weakE p o⟩
end
end
section
section
variable {P:Program} {rd:Option Nat} {c:tE} {n:Sz} {σ σ':Fr} {M L M' L':List aX} {Q:Exit->Act->World->Prop} {ops:Array Oper} {rest:List Oper} {K:Act->World->Prop} {G:Act->World->Prop}
variable {d:Option Tmp} {D:Nat} {ty:TypeId} {pos:String} {aft:Array Edge} {g:Option (Nat×Bool)}
variable {α β:Type} {e:cE α} {r:eM α}
theorem Mj (i:Nat) {k:Int} {vs:List Value} {xss:List (List α)} (E:M[i]? = some (fT e vs xss)) (h:0<=k∧k<xss.length):
  kN M L (Ar e (at' vs k) (at' xss k)::M.set i (fT e (vs.set k.toNat (.slice none 0 0)) (xss.set k.toNat []))) L:=fun c w t=>by
 obtain⟨W,F,s,V⟩:=t
 obtain⟨A,G,U,u,O⟩:=s.res i _ E
 have R:k.toNat<vs.length:=by omega
 have S:i<M.length:=(List.getElem?_eq_some_iff.1 E).1
 have B:=U k.toNat _ _ (iI h.1 (by omega)) (iI h.1 h.2)
 refine⟨W,fun j q=>match j with|0=>G k.toNat q|j+1=>(j=i∧∃p,p≠k.toNat∧G p q)∨(j≠i∧F j q),⟨?_,?_,?_⟩,fun f E=> ?_⟩
 ·intro j m y
  cases j with
  |zero=>simp at y;subst y;exact B
  | succ j =>
   rw[List.getElem?_cons_succ]at y
   by_cases N:j=i
   ·subst N
    rw[List.getElem?_set_self S]at y
    cases y
    refine⟨by simp[A],fun p q=>p≠k.toNat∧G p q,fun p v xs H I=> ?_,fun p q a=> .inl ⟨rfl,p,a⟩,fun T C q b l=>O _ _ q b.2 l.2⟩
    by_cases x:p=k.toNat
    ·subst x
     rw[List.getElem?_set_self R]at H
     rw[List.getElem?_set_self (by omega)]at I
     cases H;cases I
     exact⟨by simp,rfl,.inl ⟨rfl,rfl⟩⟩
    ·rw[List.getElem?_set_ne (Ne.symm x)]at H I
     exact aX.same (f:=Ar e v xs) (U p v xs H I) (fun q a=>⟨x,a⟩) (fun _ _ _=>rfl)
   ·rw[List.getElem?_set_ne (Ne.symm N)]at y
    exact aX.same (s.res j m y) (fun q a=> .inr ⟨N,a⟩) (fun _ _ _=>rfl)
 ·intro j q a
  cases j with
  |zero=>exact s.rng i q (u _ q a)
  |succ j=>
   rcases a with⟨_,p,_,a⟩|⟨_,a⟩
   ·exact s.rng i q (u _ q a)
   ·exact s.rng j q a
 ·intro T C q b l
  cases T with
  | zero =>
   cases C with
   |zero=>rfl
   |succ C=>
    rcases l with⟨_,p,o,l⟩|⟨o,l⟩
    ·exact absurd (O _ _ q l b) o
    ·exact absurd (s.dis _ _ q l (u _ q b)) o
  | succ T =>
   cases C with
   |zero=>
    rcases b with⟨_,p,o,b⟩|⟨o,b⟩
    ·exact absurd (O _ _ q b l) o
    ·exact absurd (s.dis _ _ q b (u _ q l)) o
   |succ C=>
    congr 1
    rcases b with⟨J,p,_,b⟩|⟨J,b⟩<;>rcases l with⟨x,X,_,l⟩|⟨x,l⟩
    ·rw[J,x]
    ·exact absurd (s.dis _ _ q l (u _ q b)) x
    ·exact absurd (s.dis _ _ q b (u _ q l)) J
    ·exact s.dis _ _ q b l
 ·refine aX.same (V f E) (fun q a=>⟨a.1,fun j z=> ?_⟩) (fun _ _ _=>rfl)
  cases j with
  |zero=>exact a.2 i (u _ q z)
  |succ j=>
   rcases z with⟨_,p,_,z⟩|⟨_,z⟩
   ·exact a.2 i (u _ q z)
   ·exact a.2 j z
theorem Mh (i j:Nat) {u:Value} {k:Int} {vs:List Value} {xss:List (List α)} {ys:List α} (a:Nat.beq i j=false) (b:M[i]? = some (fT e (vs.set k.toNat (.slice none 0 0)) (xss.set k.toNat []))) (f:M[j]? = some (Ar e u ys)) (h:0<=k∧k<(xss.set k.toNat []).length):
  kN M L ((M.set i (fT e (vs.set k.toNat u) (xss.set k.toNat ys))).eraseIdx j) L:=by
 have:=wA (L:=L) i j a b f h
 rwa[List.set_set,List.set_set]at this

theorem JD {α:Type} [Inhabited α] (l:List α) {j k:Int} (y:α) (h:j.toNat≠k.toNat):at' (l.set j.toNat y) k=at' l k:=by
 rw[at',at',List.getD_eq_getElem?_getD,List.getD_eq_getElem?_getD,List.getElem?_set_ne h]
theorem xR [cI P] (i:Nat) {r:eM α} (b:e.Fits r) {x y:Operand} {u l:Value} {k j:Int} {vs:List Value} {xss:List (List α)} {ys a:List α} {T E:TypeId} {O R h p:Nat} {z q:Value} {s:TypeDesc} (I:ev σ x=some (at' vs k)) (J:ev σ y=some u) (C:M[i]? = some (fT e (vs.set j.toNat l) (xss.set j.toNat a))) (F:aB M L (Sl r u ys))
  (B:cI.tab P T=some ⟨.slice E,O,R,z⟩) (A:cI.tab P E=some ⟨s,h,p,q⟩) (v:e.sz=h) (w:Nat.ble p 1024=true) (t:0<=k∧k<xss.length) (H:((at' xss k).length:Int)+ys.length<=1099511627) (N:q.cells.size=h) (f:j.toNat≠k.toNat):
  aI P c n σ M L ⟨d,.call ⟨.builtin .append,#[x,y],#[T,T]⟩,ty,pos,aft,g⟩ (fun m:Value=>m) (fun m=>M.set i (fT e ((vs.set j.toNat l).set k.toNat m) ((xss.set j.toNat a).set k.toNat (at' xss k++ys)))) (fun _=>L):=by
 have o:at' (xss.set j.toNat a) k=at' xss k:=JD _ _ f
 have:=mZ (P:=P) (c:=c) (n:=n) (σ:=σ) (M:=M) (L:=L) (d:=d) (ty:=ty) (pos:=pos) (aft:=aft) (g:=g) (x:=x) (y:=y) (u:=u) (k:=k) (vs:=vs.set j.toNat l) (xss:=xss.set j.toNat a) (ys:=ys) i b (by rw[JD _ _ f];exact I) J C F B A v w (by simpa using t) (by rw[o];exact H) N
 rwa[o]at this
theorem AY (q:Nat) {vs:List Value} {xss:List (List α)} {k j:Int} {u x:Value} (s:M[q]? = some (fT e ((vs.set k.toNat u).set j.toNat x) xss)) (f:k.toNat≠j.toNat) (h:0<=k∧k<xss.length):∀c w,St c M L w->Go.Sx.one u=true:=fun c w t=>by
 obtain⟨S,p,y,m,_⟩:=t.res s
 have a:k.toNat<vs.length:=by simp at p;omega
 obtain⟨_,_,o⟩:=m k.toNat u _ (by rw[List.getElem?_set_ne (Ne.symm f),List.getElem?_set_self a]) (List.getElem?_eq_getElem (by omega))
 rcases o with⟨i,_⟩|⟨b,v,cap,T,l,i,_⟩<;>(rw[i];rfl)
theorem Kz {A:Type} {b:A->Value} {M' L':A->List aX} {f:Op} (j:aI P c n σ M L ⟨none,f,ty,pos,aft,none⟩ b M' L') (h:∀x,J c n σ (M' x) (L' x) (wpList P ops Q rest)):
  J c n σ M L (wpList P ops Q (⟨none,f,ty,pos,aft,none⟩::rest)):=fun a w s t=>
 lO rfl (IC (mL (fun l w' ⟨x,i,k⟩=>by subst i;exact h x _ w' s k) (j a w s t)))

end
end
section
section
variable {P:Program} {rd:Option Nat} {c:tE} {n:Sz} {σ σ':Fr} {M L M' L':List aX} {Q:Exit->Act->World->Prop} {ops:Array Oper} {rest:List Oper} {K:Act->World->Prop} {G:Act->World->Prop}
variable {d:Option Tmp} {D:Nat} {ty:TypeId} {pos:String} {aft:Array Edge} {g:Option (Nat×Bool)}
variable {α β:Type} {e:cE α} {r:eM α}
theorem LY [cI P] (j:Nat) {T:TypeId} {s2:Nat} {z:Value} {dT:TypeDesc} {x y:Operand} {v u:Value} {i:Int} {xs:List α} (Z:α) (Y:ev σ x=some (CS v (i.toNat*1))) (hy:ev σ y=some u) (X:e.enc Z=[u]) (o:one u=true)
  (V:M[j]? = some (Ar e v xs)) (hT:cI.tab P T=some ⟨dT,1,s2,z⟩) (I:e.sz=1) (h0:0<=i) (U:i<xs.length):
  aI P c n σ M L ⟨none,.store T x y,ty,pos,aft,none⟩ (fun _:Unit=>undef) (fun _=>M.set j (Ar e v (xs.set i.toNat Z))) (fun _=>L):=fun a w s t=>by
 obtain⟨F,H⟩:=t.res V
 have W:i.toNat<xs.length:=by omega
 have B:xs[i.toNat]? = some xs[i.toNat]:=List.getElem?_eq_getElem W
 have C:xs≠[]:=by intro e;subst e;simp at W
 obtain⟨p,hp⟩:∃p,e.enc xs[i.toNat]=[p]:=List.length_eq_one_iff.1 ((e.len _).trans I)
 have f:=BX.cell H B (j:=0) (u:=p) (by rw[hp];rfl)
 rw[I,Nat.add_zero,Nat.mul_one]at f
 rw[Nat.mul_one]at Y
 have m:=LM H C i.toNat
 have E:(execOp a.eval ⟨none,.store T x y,ty,pos,aft,none⟩).run P w = .ok .skip (w.setCell (Je v i.toNat) u):=by
  simp only[execOp,s.eval Y,s.eval hy,CS]
  simp[BB (cI.ok hT) rfl o f m]
 simp only[Oper.wp,E,Oper.upon]
 refine⟨(),trivial,t.upd V rfl rfl rfl (by simp[World.setCell]) fun F H _=> ?_⟩
 obtain⟨hl,U,O⟩:=H
 rcases O with⟨_,O⟩|⟨b,l,cap,T',J,hv,A,hb,hk,hc,ht⟩
 ·exact absurd O C
 ·subst hv
  have ha:Je (.slice (some ⟨b,l,none⟩) xs.length cap) i.toNat=⟨b,l+i.toNat,none⟩:=by simp[Je,eG]
  rw[ha]
  refine⟨fun k _ R=>Below.heap_setCell _ _ _ _ (fun e=>R (by simp only at e;subst e;exact A)),F,⟨by simpa using hl,?_,.inr ⟨b,l,cap,T',J.setIfInBounds (l+i.toNat) u,by simp,A,?_,by simpa using hk,by simpa using hc,?_⟩⟩,fun _ h=> .inl h⟩
  ·rw[uU I X,List.all_eq_true]
   intro q S
   rcases List.mem_or_eq_of_mem_set S with N|N
   ·exact List.all_eq_true.1 U q N
   ·rw[N];exact o
  ·simp[World.setCell,Array.getElem?_modify,hb]
  ·rw[uU I X,<-ht,Array.toList_setIfInBounds,List.length_set,<-take_set]
   congr 1
   rw[List.drop_set,if_neg (by omega),Nat.add_sub_cancel_left]
theorem Gh [cI P] (i:Nat) {T T':TypeId} {B:Nat} {z:Value} {l:TypeDesc} {x y:Operand} {b o:Nat} {cs:List Value} {v:Value} (u:ev σ x=some (.pointer (some ⟨b,o,none⟩)))
  (A:ev σ y=some v) (q:one v=true) (k:M[i]? = some (bL b cs T')) (m:cI.tab P T=some ⟨l,1,B,z⟩) (p:Nat.blt o cs.length=true):
  aI P c n σ M L ⟨none,.store T x y,ty,pos,aft,none⟩ (fun _:Unit=>undef) (fun _=>M.set i (bL b (cs.set o v) T')) (fun _=>L):=fun a w s t=>by
 obtain⟨F,j⟩:=t.res k
 have h:o<cs.length:=by simpa [Nat.blt_eq]using p
 have f:(execOp a.eval ⟨none,.store T x y,ty,pos,aft,none⟩).run P w = .ok .skip (w.setCell ⟨b,o,none⟩ v):=by
  simp[execOp,s.eval u,s.eval A,BB (cI.ok m) rfl q (bL.cell j (List.getElem?_eq_getElem h)) (LN j o)]
 simp only[Oper.wp,f,Oper.upon]
 exact⟨(),trivial,t.store k v⟩
theorem wS [cI P] (i:Nat) {T T':TypeId} {I:Nat} {z:Value} {q:TypeDesc} {x y:Operand} {b:Nat} {cs vs:List Value} (E:ev σ x=some (.pointer (some ⟨b,0,none⟩)))
  (H:ev σ y=some (.agg vs.toArray)) (C:vs.all one=true) (p:M[i]? = some (bL b cs T')) (A:cI.tab P T=some ⟨q,vs.length,I,z⟩) (B:Nat.beq vs.length cs.length=true):
  aI P c n σ M L ⟨none,.store T x y,ty,pos,aft,none⟩ (fun _:Unit=>undef) (fun _=>M.set i (bL b vs T')) (fun _=>L):=fun a w s t=>by
 obtain⟨F,u⟩:=t.res p
 have f:vs.length=cs.length:=Nat.eq_of_beq_eq_true B
 have h:∀v∈vs,v.oneCell'=true:=fun v o=>nW (by simpa using List.all_eq_true.1 C v o)
 obtain⟨J,k,m,_,_⟩:=(cI.ok A).info
 have l:=run_storeVar_row (P:=P) w b T' T cs.toArray vs.toArray u.2 (by simp[k,m]) (by simp[f]) (by simpa using h)
 have j:(execOp a.eval ⟨none,.store T x y,ty,pos,aft,none⟩).run P w = .ok .skip (w.setRow b vs.toArray):=by
  simp[execOp,s.eval E,s.eval H,Instr.storeAt,Instr.sureAddr,l]
 simp only[Oper.wp,j,Oper.upon]
 exact⟨(),trivial,t.fill p⟩
theorem Al [cI P] (j q:Nat) {T:TypeId} {C:Nat} {z:Value} {l:TypeDesc} {x y:Operand} {v u:Value} {i:Int} {vs b:List Value} {xss:List (List α)} (h:0<=i∧i<xss.length) (A:ev σ x=some (CS v (i.toNat*1))) (B:ev σ y=some u)
  (o:M[j]? = some (Ar cE.raw v vs)) (p:M[q]? = some (fT e b xss)) (E:b.length=vs.length) (f:one u=true) (m:cI.tab P T=some ⟨l,1,C,z⟩):
  aI P c n σ M L ⟨none,.store T x y,ty,pos,aft,none⟩ (fun _:Unit=>undef) (fun _=>M.set j (Ar cE.raw v (vs.set i.toNat u))) (fun _=>L):=fun a w s t=>by
 have k:b.length=xss.length:=by obtain⟨_,h⟩:=t.res p;exact h.1
 exact LY j u A B rfl f o m rfl h.1 (by omega) a w s t
section
variable {l:List Oper} {m:List Nat} {k0:Nat} {H Bs:List (Nat×List aX×List aX)} {rs:List Nat}
theorem sQ {A:Type} {j:A->Value} {M' L':A->List aX} {i:Nat} {b:Op}
  (o:l[i]? = some ⟨none,b,ty,pos,aft,none⟩) (v:Nat.blt i k0=true) (y:dY b=true) (z:aI P c n σ M L ⟨none,b,ty,pos,aft,none⟩ j M' L')
  (q:∀x,yG (before m i) (M' x) (L' x) Bs) (h:∀x,JR c n σ (M' x) (L' x) ((i,M,L)::H) Bs (RW P l.toArray Q (before m) (cK l) k0 rs)):
  JR c n σ M L H Bs (RW P l.toArray Q (before m) (cK l) k0 (i::rs)):=fun a w X Y s t u k=>by
 have f:l.toArray[i]? = some ⟨none,b,ty,pos,aft,none⟩:=by simpa using o
 simp only[RW,f]
 rw[if_pos (by simp[Region.wanted])]
 refine .inr (.inr ⟨by simpa [Nat.blt_eq]using v,by simp[cK,o,y],mL ?_ (z a w s t)⟩)
 rintro B w' ⟨x,rfl,p⟩
 exact⟨(q x).use p k,h x _ w' _ Y s p ⟨rfl,t,u⟩ k⟩
end

theorem Jz {A B:Type} {f:FuncId} {fn:Func} {b:Code} {vs:List Value} {m:Nat} {l:Op} (C:A->Prop) (i:A->B->Value) (k j:A->B->List aX) (v:pV P c n σ M L ⟨d,l,ty,pos,aft,g⟩ f vs) (z:P.funcs[f]? = some fn) (u:fn.body=some b) (F:fn.ntmps=m) (E:Nat.ble vs.length m=true)
  (o:J c ⟨m,[]⟩ (wG 0 vs) M L (b.wpr none P (fV P fn (Wb c C i k j)))):
  aI P c n σ M L ⟨d,l,ty,pos,aft,g⟩ (fun x:{p:A×B // C p.1}=>i x.1.1 x.1.2) (fun x=>k x.1.1 x.1.2) (fun x=>j x.1.1 x.1.2):=fun a w s t=>by
 have h:=v.run a w s t
 simp only[Oper.wp,h,Oper.upon]
 refine(rM z u (o _ w (Il F E) t)).mono ?_
 rintro e w' ⟨x,y,q,rfl,H⟩
 exact⟨⟨(x,y),q⟩,rfl,H⟩
theorem uQ {A B:Type} {f:FuncId} {fn:Func} {h:Code} {vs:List Value} {m:Nat} {l:Op} (C:A->Prop) (i:A->B->Value) (k j:A->B->List aX) (u:pV P c n σ M L ⟨some D,l,ty,pos,aft,none⟩ f vs) (v:P.funcs[f]? = some fn) (t:fn.body=some h) (x:fn.ntmps=m) (w:Nat.ble vs.length m=true) (s:Nat.blt D n.sz=true)
  (o:J c ⟨m,[]⟩ (wG 0 vs) M L (h.wpr none P (fV P fn (Wb c C i k j)))) (p:∀a b,C a->J c n ((D,i a b)::σ) (k a b) (j a b) (wpList P ops Q rest)):J c n σ M L (wpList P ops Q (⟨some D,l,ty,pos,aft,none⟩::rest)):=
 aF (Jz C i k j u v t x w o) s fun⟨⟨a,b⟩,q⟩=>p a b q
section
variable {l:List Oper} {mm:List Nat} {k0:Nat} {H Bs:List (Nat×List aX×List aX)} {rs:List Nat}
theorem GZ {A B:Type} {i:Nat} {f:FuncId} {fn:Func} {h:Code} {vs:List Value} {m:Nat} {p:Op} (C:A->Prop) (j:A->B->Value) (o k:A->B->List aX) (z:l[i]? = some ⟨some D,p,ty,pos,aft,none⟩) (E:Nat.blt i k0=true) (F:dY p=true) (x:pV P c n σ M L ⟨some D,p,ty,pos,aft,none⟩ f vs) (y:P.funcs[f]? = some fn) (w:fn.body=some h) (N:fn.ntmps=m) (I:Nat.ble vs.length m=true) (v:Nat.blt D n.sz=true)
  (t:∀a b,yG (before mm i) (o a b) (k a b) Bs) (q:J c ⟨m,[]⟩ (wG 0 vs) M L (h.wpr none P (fV P fn (Wb c C j o k)))) (s:∀a b,C a->JR c n ((D,j a b)::σ) (o a b) (k a b) ((i,M,L)::H) Bs (RW P l.toArray Q (before mm) (cK l) k0 rs)):
  JR c n σ M L H Bs (RW P l.toArray Q (before mm) (cK l) k0 (i::rs)):=
 JR.loud z E F (Jz C j o k x y w N I q) v (fun _=>t _ _) fun⟨⟨a,b⟩,u⟩=>s a b u
end

theorem CP [cI P] {T E:TypeId} {k q u b A:Nat} {z B:Value} {f:TypeDesc} {x y:Operand} {v:Value} {o:Nat} {i:Int} (m:ev σ x=some (CS v o)) (p:ev σ y=some (.int .i64 i))
  (l:cI.tab P T=some ⟨.array k E,q,u,z⟩) (j:cI.tab P E=some ⟨f,b,A,B⟩) (_h3:(b==0)=false) (h:0<=i∧i<(k:Int)):
  Y P c n σ M L ⟨d,.indexAddr T x y,ty,pos,aft,g⟩ (CS v (o+i.toNat*b)):=fun a w s t=>by
 simp[execOp,s.eval m,s.eval p,Instr.indexAt,asIntOf,(cI.ok l).run_und w,h,Instr.sureAddr,CS,(cI.ok j).run_size w,He]
theorem bR {x:Operand} {b o:Nat} (f:ev σ x=some (.pointer (some ⟨b,o,none⟩))):Y P c n σ M L ⟨d,.nilCheck x,ty,pos,aft,g⟩ (.pointer (some ⟨b,o,none⟩)):=fun a w s t=>by
 simp[execOp,s.eval f]

theorem LZ [cI P] [Inhabited α] (j:Nat) {T:TypeId} {s2 k o q:Nat} {z:Value} {dT:TypeDesc} {x y:Operand} {v u:Value} {us:List Value} {i:Int} {xs:List α} (I:α) (h:0<=i∧i<xs.length) (hx:ev σ x=some (CS v (i.toNat*q+o))) (hy:ev σ y=some u)
  (hf:M[j]? = some (Ar e v xs)) (hq:e.sz=q) (S:u.cells=us.toArray) (hk:us.length=k) (ho:Nat.ble (o+k) q=true) (H:e.enc I=(e.enc (at' xs i)).take o++us++(e.enc (at' xs i)).drop (o+k)) (U:us.all one=true) (hT:cI.tab P T=some ⟨dT,k,s2,z⟩):
  aI P c n σ M L ⟨none,.store T x y,ty,pos,aft,none⟩ (fun _:Unit=>undef) (fun _=>M.set j (Ar e v (xs.set i.toNat I))) (fun _=>L):=fun a w s t=>by
 subst hq hk
 have an:o+us.length<=e.sz:=by simpa using ho
 have hi:i.toNat<xs.length:=by omega
 have t0:=t
 obtain⟨ag,FF,hO,ac⟩:=t0
 obtain⟨h0,p,hh⟩:=hO.res j _ hf
 rcases hh with⟨_,rfl⟩|⟨b,m,cap,T',f,rfl,V,W,X,hc,ht⟩
 ·simp at hi
 -- the parts of the row
 obtain⟨l,A,B,F,hl⟩:∃l A B,xs=l++A::B∧l.length=i.toNat:=⟨xs.take i.toNat,xs[i.toNat],xs.drop (i.toNat+1),by rw[List.getElem_cons_drop,List.take_append_drop],by simp;omega⟩
 have ae:at' xs i=A:=by
  rw[at',List.getD_eq_getElem?_getD,<-hl,F,List.getElem?_append_right (Nat.le_refl _)];simp
 rw[ae]at H
 have eE:=e.len A
 have eA:(cellsOf e l).length=i.toNat*e.sz:=by rw[dU,hl]
 have C:cellsOf e xs=cellsOf e l++(e.enc A++cellsOf e B):=by rw[F];simp[cellsOf]
 have O:cellsOf e (xs.set i.toNat I)=cellsOf e l++(e.enc I++cellsOf e B):=by
  have:xs.set i.toNat I=l++I::B:=by rw[F,<-hl,List.set_append_right _ _ (Nat.le_refl _)];simp
  rw[this];simp[cellsOf]
 have al:xs.length*e.sz<=cap*e.sz:=Nat.mul_le_mul_right _ X
 obtain⟨J,R,N,hH⟩:∃J R,f.toList=J++(cellsOf e l++(e.enc A++(cellsOf e B++R)))∧J.length=m:=by
  refine⟨f.toList.take m,(f.toList.drop m).drop (xs.length*e.sz),?_,by simp;omega⟩
  have e1:cellsOf e l++(e.enc A++(cellsOf e B++(f.toList.drop m).drop (xs.length*e.sz)))=f.toList.drop m:=by
   have:cellsOf e l++(e.enc A++(cellsOf e B++(f.toList.drop m).drop (xs.length*e.sz)))=cellsOf e xs++(f.toList.drop m).drop (xs.length*e.sz):=by rw[C];simp
   rw[this,<-ht,List.take_append_drop]
  rw[e1,List.take_append_drop]
 have aj:f.size=f.toList.length:=by simp
 have ah:f.toList.take (m+(i.toNat*e.sz+o))=J++(cellsOf e l++(e.enc A).take o):=by
  have:f.toList=(J++(cellsOf e l++(e.enc A).take o))++((e.enc A).drop o++(cellsOf e B++R)):=by
   rw[N,List.append_assoc,List.append_assoc,<-List.append_assoc ((e.enc A).take o),List.take_append_drop]
  rw[this]
  exact List.take_left' (by simp[hH,eA,eE];omega)
 have ai:f.toList.drop (m+(i.toNat*e.sz+o)+us.length)=(e.enc A).drop (o+us.length)++(cellsOf e B++R):=by
  have:f.toList=(J++(cellsOf e l++(e.enc A).take (o+us.length)))++((e.enc A).drop (o+us.length)++(cellsOf e B++R)):=by
   rw[N,List.append_assoc,List.append_assoc,<-List.append_assoc ((e.enc A).take (o+us.length)),List.take_append_drop]
  rw[this]
  exact List.drop_left' (by simp[hH,eA,eE];omega)
 have ab:(i.toNat+1)*e.sz<=xs.length*e.sz:=Nat.mul_le_mul_right _ (by omega)
 have am:(i.toNat+1)*e.sz=i.toNat*e.sz+e.sz:=by rw[Nat.add_mul,Nat.one_mul]
 have Y:m+(i.toNat*e.sz+o)+0+us.length<=f.size:=by omega
 have aa:=run_storeCells_at P b (m+(i.toNat*e.sz+o)) T' us 0 f w W Y (fun u S=>nW (List.all_eq_true.1 U u S))
 simp only[Nat.add_zero]at aa
 have ao:(cI.ok hT).run_size w=(cI.ok hT).run_size w:=rfl
 have Z:(execOp a.eval ⟨none,.store T x y,ty,pos,aft,none⟩).run P w = .ok .skip (w.setRow b (f.toList.take (m+(i.toNat*e.sz+o))++us++f.toList.drop (m+(i.toNat*e.sz+o)+us.length)).toArray):=by
  simp[execOp,s.eval hx,s.eval hy,CS,Je,Instr.storeAt,Instr.sureAddr,storeVar,S,(cI.ok hT).run_size w,eG,aa]
 simp only[Oper.wp,Z,Oper.upon]
 refine⟨(),trivial,?_⟩
 refine Hb ag hO ac hf rfl rfl rfl (by simp) (fun k _ af=>setRow_other w b k _ (fun e=>af (by subst e;exact V))) (F':=FF j) ?_ (fun k hk=> .inl hk)
 have E:(e.enc I).length=e.sz:=e.len I
 refine⟨by simpa using h0,?_,.inr ⟨b,m,cap,T',_,by simp,V,setRow_heap w b _ _ T' _ W,by simpa using X,?_,?_⟩⟩
 ·rw[O]
  rw[C]at p
  simp only[List.all_append,Bool.and_eq_true]at p ⊢
  refine⟨p.1,?_,p.2.2⟩
  rw[H]
  simp only[List.all_append,Bool.and_eq_true]
  refine⟨⟨List.all_eq_true.2 fun u S=>List.all_eq_true.1 p.2.1 u (List.mem_of_mem_take S),U⟩,List.all_eq_true.2 fun u S=>List.all_eq_true.1 p.2.1 u (List.mem_of_mem_drop S)⟩
 ·simp only[List.size_toArray,List.length_append,List.length_take,List.length_drop]
  omega
 ·show((f.toList.take _++us++f.toList.drop _).drop m).take ((xs.set i.toNat I).length*e.sz)=_
  rw[ah,ai,O,H,List.length_set]
  have e3:(J++(cellsOf e l++(e.enc A).take o)++us++((e.enc A).drop (o+us.length)++(cellsOf e B++R)))=J++((cellsOf e l++(((e.enc A).take o++us++(e.enc A).drop (o+us.length))++cellsOf e B))++R):=by simp
  rw[e3,<-hH,List.drop_left]
  refine List.take_left' ?_
  have ad:(cellsOf e B).length=B.length*e.sz:=dU e B
  have ak:xs.length=i.toNat+1+B.length:=by rw[F,<-hl];simp;omega
  rw[H]at E
  rw[List.length_append,List.length_append,E,eA,ad,ak,Nat.add_mul,Nat.add_mul,Nat.one_mul]
  omega
end
end
section
def Dfr (D:Nat):aX where
 p w F:=F D∧w.heap[D]? = some (.deferred (some []))
 mono:=fun⟨b,a⟩ h=>by
  obtain⟨c,d⟩:=h D b (Array.getElem?_eq_some_iff.1 a).1
  exact⟨c,by rw[d];exact a⟩
structure SR where
 n:Nat
 σ:Fr
 ps:Array Tmp
 assign:Code
 body:Code
 D:Nat
def Lp (l:Nat) (R:SR) (i:LoopState) (a:Option Code):aX where
 p w F:=F l∧∃(fn:FuncId) (tmps:Array Value),tmps.size=R.n∧(∀t v,lk R.σ t=some v->tmps[t]? = some v)∧
  w.heap[l]? = some (.loop {state:=i,pending:=a,fn:=fn,tmps:=tmps,params:=R.ps,assign:=R.assign,body:=R.body,defers:=R.D})
 mono:=fun⟨c,fn,tmps,d,e,b⟩ h=>by
  obtain⟨f,g⟩:=h l c (Array.getElem?_eq_some_iff.1 b).1
  exact⟨f,fn,tmps,d,e,by rw[g];exact b⟩
def Uy (D:Nat):Deferred:={target:= .collected D,args:= #[]}
def qM (l:Nat):Value:= .func (.yield l) #[] #[]
section
variable {P:Program} {rd:Option Nat} {c:tE} {n m:Sz} {σ σ':Fr} {M L:List aX} {Q:Exit->Act->World->Prop} {K G:Act->World->Prop}
theorem St.putLp {w:World} {l i:Nat} {R:SR} {x d:LoopState} {b a:Option Code} (t:St c M L w) (u:M[i]? = some (Lp l R x b)) {r:Loop} (o:w.heap[l]? = some (.loop r)):
  St c (M.set i (Lp l R d a)) L (w.putObj l (.loop {r with state:=d,pending:=a})):=by
 refine t.upd u rfl rfl rfl (by simp) fun F j _=>⟨fun k _ v=> ?_,F,?_,fun _ h=> .inl h⟩
 ·exact World.putObj_heap_other (fun e=>v (by subst e;exact j.1))
 ·obtain⟨p,fn,f,q,s,g⟩:=j
  rw[g]at o
  cases o
  exact⟨p,fn,f,q,s,World.putObj_heap_same (Array.getElem?_eq_some_iff.1 g).1⟩
def SS (P:Program) (n:Sz) (σ:Fr) (l D:Nat) (Q:Exit->Act->World->Prop) (e:Ending) (w:World):Prop:=
 ∀a,DT ⟨n.sz,Uy D::n.ds⟩ σ a->rangePost (FR none) 0 P l Q a e w
theorem LU {g:Operand} {ps:Array Tmp} {assign body:Code} {f:FuncId} {fn:Func} {code:Code} {cs:List Value} {k:Nat} (hb:aP P f) (hx:ev σ g=some (.func (.func f) #[] cs.toArray)) (hf:P.funcs[f]? = some fn) (hbd:fn.body=some code) (hn:fn.ntmps=k) (hm:Nat.ble (cs.length+1) k=true)
  (h:∀l D,J c ⟨k,[]⟩ (wG 0 (qM l::cs)) (Lp l ⟨n.sz,σ,ps,assign,body,D⟩ .ready none::Dfr D::M) L (code.wpr none P (fV P fn (SS P n σ l D Q)))):
  J c n σ M L ((Code.rangeFunc g ps assign body).wpr none P Q):=fun a w s t=>by
 refine wpIn_rangeFunc fun fn' _=> ?_
 have hev:a.eval g = .func (.func f) #[] cs.toArray:=s.eval hx
 let W:World:=(w.alloc (.deferred (some []))).alloc (.loop {state:= .ready,pending:=none,fn:=fn',tmps:=a.tmps,params:=ps,assign:=assign,body:=body,defers:=w.heap.size})
 refine⟨_,_,_,{target:= .fn (.func f) cs.toArray,args:= #[qM (w.heap.size+1)]},W,f,(qM (w.heap.size+1)::cs).toArray,W,run_enterLoop_outer fn' a.tmps ps assign body,?_,fun _ _=>trivial,?_,(fun hc=>by cases hc),?_⟩
 ·have hc:∀v,a.eval (.const v)=v:=fun _=>rfl
  simp[resolve,hev,hc,Deferred.ofValue,qM,W]
 ·simp[invoke,hb _ _,qM]
 ·have t1:St c (Dfr w.heap.size::M) L (w.alloc (.deferred (some []))):=t.push _ ⟨rfl,heap_alloc_new w _⟩
  have t2:St c (Lp (w.heap.size+1) ⟨n.sz,σ,ps,assign,body,w.heap.size⟩ .ready none::Dfr w.heap.size::M) L ((w.alloc (.deferred (some []))).alloc (.loop {state:= .ready,pending:=none,fn:=fn',tmps:=a.tmps,params:=ps,assign:=assign,body:=body,defers:=w.heap.size})):=by
   have:=t1.push (.loop {state:= .ready,pending:=none,fn:=fn',tmps:=a.tmps,params:=ps,assign:=assign,body:=body,defers:=w.heap.size}) (m:=Lp (w.heap.size+1) ⟨n.sz,σ,ps,assign,body,w.heap.size⟩ .ready none)
    ⟨by simp,fn',a.tmps,s.size,s.slot,by rw[<-World.size_alloc w (.deferred (some []))];exact heap_alloc_new _ _⟩
   exact this
  refine PO ((rM hf hbd (h (w.heap.size+1) w.heap.size _ _ (Il hn (by simpa using hm)) t2)).mono ?_)
  intro e w' he
  exact he _ ⟨by simp[Uy,s.defers],s.size,s.slot⟩
theorem N_ {fn:Func} {b:Exit} {v:Value} {l D i:Nat} {R:SR} (e:b = .ret∨b = .normal) (g:M[i]? = some (Lp l R .ready none)) (p:Df P c m σ' M L fn v) (h:J c ⟨n.sz,Uy D::n.ds⟩ σ (M.set i (Lp l R .exhausted none)) L (Q .normal)) (d:m.ds=[]:=by rfl):
  J c m σ' M L (fV P fn (SS P n σ l D Q) b):=fun a w s t=>by
 refine body_end e (s.defers.trans d) (p a w s t) fun k q=> ?_
 obtain⟨F,r,o,j,u,x,f⟩:=t.res g
 exact⟨none,_,run_endLoop f (by simp),h k _ q (t.putLp g f)⟩
theorem VZ {fn:Func} {b:Exit} {v:Value} {l D i:Nat} {R:SR} (e:b = .ret∨b = .normal) (g:M[i]? = some (Lp l R .done (some .ret))) (p:Df P c m σ' M L fn v) (h:J c ⟨n.sz,Uy D::n.ds⟩ σ (M.set i (Lp l R .exhausted (some .ret))) L (Q .ret)) (d:m.ds=[]:=by rfl):
  J c m σ' M L (fV P fn (SS P n σ l D Q) b):=fun a w s t=>by
 refine body_end e (s.defers.trans d) (p a w s t) fun k q=> ?_
 obtain⟨F,r,o,j,u,x,f⟩:=t.res g
 exact⟨some .ret,_,run_endLoop f (by simp),wpIn_ret (h k _ q (t.putLp g f))⟩
def Sr (P:Program) (l:Nat) (G:Act->World->Prop) (a:Act) (w:World):Prop:=∃w',(Instr.beginRound l).run P w = .ok () w'∧G a w'
theorem Kx {l i:Nat} {R:SR} {b:Option Code} (e:M[i]? = some (Lp l R .ready b)) (h:J c n σ (M.set i (Lp l R .busy b)) L G):J c n σ M L (Sr P l G):=fun a w s t=>by
 obtain⟨F,j,g,f,k,o,d⟩:=t.res e
 exact⟨_,run_beginRound d rfl,h a _ s (t.putLp e d)⟩
def SU (n:Sz) (σ:Fr) (d:Nat) (K:Act->World->Prop) (e:Ending) (w:World):Prop:=∃v,e = .returned v∧∀a,DT n ((d,v)::σ) a->K a w
theorem BY {l i d:Nat} {R:SR} {b:Option Code} (f:M[i]? = some (Lp l R .busy b)) (h:J c m ((d,.bool true)::σ') (M.set i (Lp l R .ready none)) L K):J c n σ M L (roundPost P l (SU m σ' d K) .normal):=fun a w s t=>by
 obtain⟨F,p,k,g,q,r,e⟩:=t.res f
 exact⟨_,_,run_endRound none e,_,rfl,fun j o=>h j _ o (t.putLp f e)⟩
theorem SG {l i d:Nat} {R:SR} {b:Option Code} (f:M[i]? = some (Lp l R .busy b)) (h:J c m ((d,.bool false)::σ') (M.set i (Lp l R .done (some .ret))) L K):J c n σ M L (roundPost P l (SU m σ' d K) .ret):=fun a w s t=>by
 obtain⟨F,p,k,g,q,r,e⟩:=t.res f
 exact⟨_,_,run_endRound (some .ret) e,_,rfl,fun j o=>h j _ o (t.putLp f e)⟩
def Ee:List Tmp->List Value->Fr->Fr
 |t::ts,v::vs,σ=>Ee ts vs ((t,v)::σ)
 |_,_,σ=>σ
theorem Ij:∀(ps:List Tmp) (vs:List Value) (a:Array Value) (σ:Fr) (k:Nat),a.size=k->ps.all (fun t=>Nat.blt t k)=true->(∀t v,lk σ t=some v->a[t]? = some v)->
  ((ps.zip vs).foldl (fun a (x:Tmp×Value)=>a.setIfInBounds x.1 x.2) a).size=k∧∀t v,lk (Ee ps vs σ) t=some v->((ps.zip vs).foldl (fun a (x:Tmp×Value)=>a.setIfInBounds x.1 x.2) a)[t]? = some v
 | [],_,a,σ,k,h1,_,h3=>by simpa [Ee]using ⟨h1,h3⟩
 |_::_,[],a,σ,k,h1,_,h3=>by simpa [Ee]using ⟨h1,h3⟩
 | p :: ps, x :: vs, a, σ, k, h1, h2, h3 => by
  simp only[List.all_cons,Bool.and_eq_true]at h2
  have d:p<k:=by simpa [Nat.blt_eq]using h2.1
  simp only[List.zip_cons_cons,List.foldl_cons,Ee]
  refine Ij ps vs _ _ k (by simp[h1]) h2.2 fun t v b=> ?_
  simp only[lk]at b
  by_cases e:t=p
  ·subst e
   simp at b
   subst b
   simp[h1,d]
  ·rw[lY e]at b
   simp only[cond_false]at b
   rw[Array.getElem?_setIfInBounds_ne (Ne.symm e)]
   exact h3 t v b
theorem Wa {ops:Array Oper} {rest:List Oper} {t:Tmp} {xs:List Operand} {us:List Value} {b:Array TypeId} {d:Nat} {ty:TypeId} {pos:String} {aft:Array Edge} {l i:Nat} {R:SR} {ps:List Tmp} (D:lk σ t=some (qM l)) (H:xs.map (ev σ)=us.map some) (C:M[i]? = some (Lp l R .ready none)) (j:R.ps=ps.toArray) (g:us.length=ps.length) (f:ps.all (fun t=>Nat.blt t R.n)=true) (B:Nat.blt d n.sz=true)
  (h:J c ⟨R.n,[]⟩ (Ee ps us R.σ) M L (R.assign.wpr (some l) P (Exit.then (Sr P l (R.body.wpr (some l) P (roundPost P l (SU n σ d (wpList P ops Q rest))))) (fun _ _ _=>False)))):
  J c n σ M L (wpList P ops Q (⟨some d,.call ⟨.value (.tmp t),xs.toArray,b⟩,ty,pos,aft,none⟩::rest)):=fun a w s o=>by
 obtain⟨F,O,u,tmps,y,z,A⟩:=o.res C
 have e:=ZA s H
 have p:a.eval (.tmp t)=qM l:=s.eval (x:= .tmp t) D
 have I:=run_yield (P:=P) (args:=us.toArray) A (by simp[j,g])
 have k:(execOp a.eval ⟨some d,.call ⟨.value (.tmp t),xs.toArray,b⟩,ty,pos,aft,none⟩).run P w=(Instr.yield l us.toArray).run P w:=by
  simp[execOp,resolve,p,qM,Deferred.ofValue,invoke,e]
 unfold wpList
 rw[if_pos (show Region.wanted _ _=true from rfl)]
 refine .inr ⟨_,_,_,_,_,_,k.trans I,?_⟩
 refine RoundIn.mono (R:=SU n σ d (wpList P ops Q rest)) (roundIn_of_wpIn (F:=FR none) trivial ?_) ?_
 ·obtain⟨q,r⟩:=Ij ps us tmps R.σ R.n y f z
  have:=h {tmps:=(ps.zip us).foldl (fun tmps (x:Tmp×Value)=>tmps.setIfInBounds x.1 x.2) tmps,defers:=[]} w ⟨rfl,q,r⟩ o
  simp only[j,List.zip_toArray,List.foldl_toArray]
  exact this
 ·rintro e N ⟨v,rfl,E⟩
  exact⟨v,rfl,E _ (s.put d v B)⟩
theorem KB {g:Operand} {ps:Array Tmp} {assign body:Code} {f:FuncId} {fn:Func} {code:Code} {cs:List Value} {k:Nat} (hb:aP P f) (hx:ev σ g=some (.func (.func f) #[] cs.toArray)) (hf:P.funcs[f]? = some fn) (hbd:fn.body=some code) (hn:fn.ntmps=k) (hm:Nat.ble (cs.length+1) k=true)
  (h:∀(l D:Nat) (R:SR),R.n=n.sz∧R.σ=σ∧R.ps=ps∧R.assign=assign∧R.body=body->J c ⟨k,[]⟩ (wG 0 (qM l::cs)) (Lp l R .ready none::Dfr D::M) L (code.wpr none P (fV P fn (SS P n σ l D Q)))):
  J c n σ M L ((Code.rangeFunc g ps assign body).wpr none P Q):=LU hb hx hf hbd hn hm fun l D=>h l D _ ⟨rfl,rfl,rfl,rfl,rfl⟩
theorem Hx {ops:Array Oper} {rest:List Oper} {t:Tmp} {xs:List Operand} {us:List Value} {j:Array TypeId} {d:Nat} {ty:TypeId} {pos:String} {aft:Array Edge} {l i k:Nat} {R:SR} {ps:List Tmp} {g:Fr} {a b:Code} (p:R.n=k∧R.σ=g∧R.ps=ps.toArray∧R.assign=a∧R.body=b) (s:lk σ t=some (qM l)) (u:xs.map (ev σ)=us.map some) (r:M[i]? = some (Lp l R .ready none)) (f:us.length=ps.length) (e:ps.all (fun t=>Nat.blt t k)=true) (q:Nat.blt d n.sz=true)
  (h:J c ⟨k,[]⟩ (Ee ps us g) M L (a.wpr (some l) P (Exit.then (Sr P l (b.wpr (some l) P (roundPost P l (SU n σ d (wpList P ops Q rest))))) (fun _ _ _=>False)))):
  J c n σ M L (wpList P ops Q (⟨some d,.call ⟨.value (.tmp t),xs.toArray,j⟩,ty,pos,aft,none⟩::rest)):=by
 obtain⟨rfl,rfl,o,rfl,rfl⟩:=p
 exact Wa s u r o f e q h
end
end
section
def Gv (Ds:List Nat):List Deferred:=Ds.map Uy
def GE (Ds:List Nat):aX where
 p w F:=Ds.Nodup∧∀D∈Ds,F D∧w.heap[D]? = some (.deferred (some []))
 mono:=fun⟨c,a⟩ h=>⟨c,fun D b=>by
  obtain⟨d,e⟩:=h D (a D b).1 (Array.getElem?_eq_some_iff.1 (a D b).2).1
  exact⟨d,by rw[e];exact(a D b).2⟩⟩
section
variable {P:Program} {rd:Option Nat} {c:tE} {n m:Sz} {σ σ':Fr} {M L:List aX} {Q:Exit->Act->World->Prop} {K G:Act->World->Prop}
theorem HE:kN M L (GE []::M) L:=kN.add fun _=>⟨List.nodup_nil,by simp⟩
theorem Mi (i j:Nat) {D:Nat} {Ds:List Nat} (d:i≠j) (k:M[i]? = some (GE Ds)) (l:M[j]? = some (Dfr D)):kN M L ((M.set i (GE (D::Ds))).eraseIdx j) L:=fun c w t=>
 t.merge i j d k l (by
  rintro w p q ⟨f,b⟩ ⟨e,g⟩ h
  refine⟨List.nodup_cons.2 ⟨fun o=>h D (b D o).1 e,f⟩,fun E a=> ?_⟩
  rcases List.mem_cons.1 a with rfl|a
  ·exact⟨.inr e,g⟩
  ·exact⟨.inl (b E a).1,(b E a).2⟩)
theorem AX {g:Operand} {ps:Array Tmp} {assign body:Code} {f:FuncId} {fn:Func} {code:Code} {cs:List Value} {k i s:Nat} (Ds:List Nat) (hi:M[i]? = some (GE Ds)) (hb:aP P f) (hx:ev σ g=some (.func (.func f) #[] cs.toArray)) (hf:P.funcs[f]? = some fn) (hbd:fn.body=some code) (hn:fn.ntmps=k) (hm:Nat.ble (cs.length+1) k=true)
  (h:∀(l D:Nat) (R:SR),R.n=s∧R.σ=σ∧R.ps=ps∧R.assign=assign∧R.body=body->J c ⟨k,[]⟩ (wG 0 (qM l::cs)) (Lp l R .ready none::M.set i (GE (D::Ds))) L (code.wpr none P (fV P fn (SS P ⟨s,Gv Ds⟩ σ l D Q)))):
  J c ⟨s,Gv Ds⟩ σ M L ((Code.rangeFunc g ps assign body).wpr none P Q):=KB hb hx hf hbd hn hm fun l D R hR=>
 eQ (Mi (i+2) 1 (by omega) hi rfl) (h l D R hR)
theorem pJ {fn:Func} {R:Ending->World->Prop} {f:Exit} {i k:Nat} (b:f = .ret∨f = .normal):∀{Ds:List Nat} {M:List aX},M[i]? = some (GE Ds)->J c ⟨k,[]⟩ σ (M.set i (GE [])) L (fV P fn R f)->J c ⟨k,Gv Ds⟩ σ M L (fV P fn R f)
 | [], M, hi, h => by
  have:M.set i (GE [])=M:=by
   apply List.ext_getElem?
   intro j
   by_cases e:i=j
   ·subst e
    rw[hi]
    simp[(List.getElem?_eq_some_iff.1 hi).1]
   ·simp[List.getElem?_set_ne e]
  rw[this]at h
  exact h
 | D :: Ds, M, hi, h => fun a w s t => by
  obtain⟨F,u,p⟩:=t.res hi
  have r:St c (M.set i (GE Ds)) L (w.putObj D (.deferred none)):=by
   refine t.upd hi rfl rfl rfl (by simp) fun F d _=>⟨fun k _ q=> ?_,F,?_,fun _ h=> .inl h⟩
   ·exact World.putObj_heap_other (fun e=>q (e▸(d.2 D (by simp)).1))
   ·obtain⟨o,d⟩:=d
    refine⟨(List.nodup_cons.1 o).2,fun E g=>⟨(d E (by simp[g])).1,?_⟩⟩
    rw[World.putObj_heap_other (fun e=>(List.nodup_cons.1 o).1 (by subst e;exact g))]
    exact(d E (by simp[g])).2
  refine Rh b s.defers (p D (by simp)).2 ?_
  have l:(M.set i (GE Ds))[i]? = some (GE Ds):=by simp[(List.getElem?_eq_some_iff.1 hi).1]
  have:=pJ b l (by rw[List.set_set];exact h) {tmps:=a.tmps,defers:=Gv Ds} _ ⟨rfl,s.size,s.slot⟩ r
  rcases b with rfl|rfl<;>exact this
def aaO {A B:Type} (c:tE) (f:A->B->Sz) (C:A->Prop) (b:A->B->Fr) (e d:A->B->List aX) (a:Act) (w:World):Prop:=∃x y,C x∧DT (f x y) (b x y) a∧St c (e x y) (d x y) w
theorem KA {A B:Type} {x:Code} (h:A->B->Sz) (C:A->Prop) (d:A->B->Fr) (g f:A->B->List aX) (j:J c n σ M L (x.wpr rd P (Exit.then (aaO c h C d g f) Q))) (k:∀a b,C a->J c (h a b) (d a b) (g a b) (f a b) K):
  J c n σ M L (x.wpr rd P (Exit.then K Q)):=fun a w s t=>Fp (fun e i w' q=>by
 cases e with
 |normal=>obtain⟨z,y,o,p,r⟩:=q;exact k z y o i w' p r
 |exit id=>exact q
 |goto l=>exact q
 |ret=>exact q
 |panic ch=>exact q
 |outgrown=>exact q) (j a w s t)
theorem Er {A B:Type} {e:A->B->Sz} {C:A->Prop} {a:A->B->Fr} {d b:A->B->List aX} (x:A) (y:B) (i:n=e x y) (f:C x) (j:xJ σ (a x y)) (h:aR M (d x y)) (g:aD [] L (b x y)):J c n σ M L (aaO c e C a d b):=
 fun _ _ s t=>⟨x,y,f,i▸s.weak j,t.weakE h g⟩
end
end
section
def Gb (b:Nat) (cs:List Value):aX where
 p w S:=S b∧∃T,w.heap[b]? = some (.cells cs.toArray T (0,0))
 mono:=fun⟨c,T,a⟩ h=>by
  obtain⟨d,e⟩:=h b c (Array.getElem?_eq_some_iff.1 a).1
  exact⟨d,T,by rw[e];exact a⟩
section
variable {P:Program} {c:tE} {n:Sz} {σ:Fr} {M L:List aX} {d:Option Tmp} {ty:TypeId} {pos:String} {aft:Array Edge} {g:Option (Nat×Bool)} {α:Type} {e:cE α}
theorem Mm [cI P] {T E:TypeId} {u:IntKind} {k v A f B:Nat} {z C:Value} {l:TypeDesc} {x y:Operand} {b:Nat} {i:Int} (q:ev σ x=some (.pointer (some ⟨b,0,none⟩))) (r:ev σ y=some (.int u i))
  (p:cI.tab P T=some ⟨.array k E,v,A,z⟩) (o:cI.tab P E=some ⟨l,f,B,C⟩) (m:(f==0)=false) (h:0<=i∧i<(k:Int)):
  Y P c n σ M L ⟨d,.indexAddr T x y,ty,pos,aft,g⟩ (.pointer (some ⟨b,i.toNat*f,none⟩)):=fun a w s t=>by
 have j:f≠0:=by simpa using m
 simp[execOp,s.eval q,s.eval r,Instr.indexAt,asIntOf,(cI.ok p).run_und w,h,Instr.sureAddr,(cI.ok o).run_size w,j,eG]
theorem Rb [cI P] [Inhabited α] {T:TypeId} {C:Nat} {z:Value} {m:TypeDesc} {x:Operand} {b k:Nat} {i:Int} {xs:List α} {u:Value} (o:ev σ x=some (.pointer (some ⟨b,i.toNat*1,none⟩)))
  (r:aB M L (Gb b (cellsOf e xs))) (v:cI.tab P T=some ⟨m,1,C,z⟩) (y:wD m=false) (A:e.sz=1) (B:(e.enc (at' xs i))=[u]) (h:(0<=i∧i<(k:Int))∧xs.length=k):
  Y P c n σ M L ⟨d,.load T x,ty,pos,aft,g⟩ u:=fun a w s t=>by
 obtain⟨F,f,T',j⟩:=r.st t
 have q:(bL b (cellsOf e xs) T').p w F:=⟨f,j⟩
 have l:=uI e xs i.toNat (at' xs i) (iI h.1.1 (by omega)) 0 u (by rw[B];rfl)
 rw[A,Nat.add_zero]at l
 rw[Nat.mul_one]at o l
 simp[execOp,s.eval o,wP (cI.ok v) y (bL.cell q l)]
end
end
end Go.Sx
end
section
namespace Go.Sx
section
variable {P:Program} {M L:List aX} {α β γ:Type} {r:eM α} {s:eM γ} {q:eM β}
def eM.Deep (r:eM α) (q:eM β) (f:α->Value×List β):Prop:=∀{w S es x},r.R w S es x->KG q w S (f x).1 (f x).2
theorem Cb (q:eM β):(eM.sl q).Deep q (fun x=>x):=fun h=>h.2
theorem Q_ {f:α->Value×List β} (h:r.Deep q f):(r.pair s).Deep q (fun x=>f x.1):=by
 rintro w S d x ⟨b,c,rfl,a,_⟩
 exact h a
theorem CO {f:α->Value×List β} (h:r.Deep q f):(s.pair r).Deep q (fun x=>f x.2):=by
 rintro w S d x ⟨b,c,rfl,_,a⟩
 exact h a
theorem uG [Inhabited α] {v:Value} {xs:List α} {i:Int} {f:α->Value×List β} (h:aB M L (Sl r v xs)) (c:r.Deep q f) (a:0<=i) (b:i<xs.length):aB M L (Sl q (f (at' xs i)).1 (f (at' xs i)).2):=h.mono fun {w U} hs=>by
 obtain⟨e,d,_⟩:=sl_cell hs (iI a b)
 exact c d
def HV (s:ByteArray):List Int:=s.data.toList.map fun b=>(b.toNat:Int)
theorem Bd [cI P] {c:tE} {n:Sz} {σ:Fr} {d:Option Tmp} {ty:TypeId} {pos:String} {aft:Array Edge} {g:Option (Nat×Bool)} {T:TypeId} {B C:Nat} {z:Value} {x y:Operand} {s:ByteArray} {xs:List Int} {k:IntKind} {i:Int} (v:ev σ x=some (.string s)) (A:ev σ y=some (.int k i)) (l:cI.tab P T=some ⟨.string,B,C,z⟩) (o:HV s=xs) (h:0<=i∧i<xs.length):
  Y P c n σ M L ⟨d,.index T x y,ty,pos,aft,g⟩ (.int .u8 (at' xs i)):=fun a w f t=>by
 subst o
 obtain⟨D,b⟩:=h
 obtain⟨j,rfl⟩:∃j:Nat,i=(j:Int):=⟨i.toNat,by omega⟩
 have e:j<s.data.toList.length:=by unfold HV at b;simp at b ⊢;omega
 have u:j<s.size:=by have:=Lib.size_eq s;simp at e;omega
 have p:s[j]? = some (s.data.toList[j]):=by
  rw[getElem?_pos s j u];rfl
 have m:at' (HV s) (j:Int)=((s.data.toList[j]).toNat:Int):=by
  unfold at' HV
  simp[List.getD_eq_getElem?_getD,List.getElem?_eq_getElem e]
 rw[m]
 simp[execOp,f.eval v,f.eval A,Instr.index,asIntOf,(cI.ok l).run_und w,p]
theorem Oj [cI P] {c:tE} {n:Sz} {σ:Fr} {d:Option Tmp} {ty:TypeId} {pos:String} {aft:Array Edge} {g:Option (Nat×Bool)} {T E:TypeId} {u v y A m b:Nat} {z B:Value} {i:TypeDesc} {x f:Operand} {k:Int} (p:ev σ x=some (.pointer (some ⟨b,0,none⟩))) (e:ev σ f=some (.int .i64 k))
  (o:cI.tab P T=some ⟨.array m E,u,v,z⟩) (l:cI.tab P E=some ⟨i,y,A,B⟩) {q:Int} (h:0<=k∧k<=((m:Nat):Int)∧k<=q):Y P c n σ M L ⟨d,.slice T x none (some f) none,ty,pos,aft,g⟩ (.slice (some ⟨b,0,none⟩) k.toNat m):=fun a w s t=>by
 have j:0<=k∧k<=(m:Int):=⟨h.1,h.2.1⟩
 simp[execOp,s.eval p,s.eval e,Instr.sliceAt,Instr.slice,(cI.ok o).run_und w,Instr.sliceBounds,Instr.sliceBound,asIntOf,(cI.ok l).run_size w,j,asAddr,Addr.add,Instr.sureAddr]
theorem SJ {e:cE α} {i b T m:Nat} {k:Int} {xs:List α} (p:M[i]? = some (bL b (cellsOf e xs) T)) (a:e.Fits r) (h:0<=k∧k<=((m:Nat):Int)∧k<=(xs.length:Int)) (o:m<=9223372036854775807):aB M L (Sl r (.slice (some ⟨b,0,none⟩) k.toNat m) (xs.take k.toNat)):=fun w S T U z d A t=>by
 have l:=d i _ p
 have n:(xs.take k.toNat).length=k.toNat:=by simp;omega
 refine⟨some ⟨b,0,none⟩,m,by rw[n],by rw[n];omega,.inr ⟨b,0,rfl,t _ _ l.1,fun j x c=> ?_⟩⟩
 have g:xs[j]? = some x:=by
  rw[List.getElem?_take]at c
  split at c
  ·exact c
  ·cases c
 obtain⟨f,B,v,_⟩:=a
 refine⟨e.enc x,fun q u y=> ?_,v⟩
 have hc:=uI e xs _ _ g _ _ y
 rw[f,Nat.zero_add]
 exact bL.cell l hc
def eM.All (r:eM α) (n:Nat) (g:α->List Value):Prop:=r.sz=n∧∀{w S es x},r.R w S es x->es=g x
theorem Og {e:cE α} (h:e.Fits r):r.All e.sz e.enc:=⟨h.1,h.2.1⟩
theorem Oh (q:eM β):(eM.sl q).All 1 (fun x=>[x.1]):=⟨rfl,fun h=>h.1⟩
theorem KF {n m:Nat} {f:α->List Value} {g:γ->List Value} (h:r.All n f) (k:s.All m g):(r.pair s).All (n+m) (fun x=>f x.1++g x.2):=⟨by show r.sz+s.sz=_;rw[h.1,k.1],by
 rintro w S e x ⟨c,d,rfl,a,b⟩
 rw[h.2 a,k.2 b]⟩
theorem Oi [cI P] [Inhabited α] {c:tE} {n:Sz} {σ:Fr} {d:Option Tmp} {ty:TypeId} {pos:String} {aft:Array Edge} {g:Option (Nat×Bool)} {T:TypeId} {H q m:Nat} {z:Value} {k:TypeDesc} {x:Operand} {v:Value} {i:Int} {xs:List α} {cs:List Value} {f:α->List Value} (G:ev σ x=some (CS v (i.toNat*q))) (C:aB M L (Sl r v xs)) (l:r.All m f) (e:f (at' xs i)=cs)
  (y:cI.tab P T=some ⟨k,cs.length,H,z⟩) (B:wD k=true) (D:m=q) (h:0<=i∧i<xs.length):Y P c n σ M L ⟨d,.load T x,ty,pos,aft,g⟩ (.agg cs.toArray):=fun a w s t=>by
 obtain⟨o,p⟩:=h
 obtain⟨S,h⟩:=C.st t
 obtain⟨I,E,b⟩:=sl_cell h (iI o p)
 have:=l.2 E
 subst this e
 rw[l.1,D]at b
 have:=Ah (w:=w) (A:=Je v (i.toNat*q)) (cs:=f (at' xs i)) (cI.ok y) B rfl (fun j u F=>by rw[He];exact b j u F)
 simp[execOp,s.eval G,CS,this]
end
end Go.Sx
end
section
namespace Go.Sx
open Go.RowKit
section
section
variable {P:Program} {c:tE} {n:Sz} {σ:Fr} {M L:List aX} {d:Option Tmp} {ty:TypeId} {pos:String} {aft:Array Edge} {g:Option (Nat×Bool)}
def aaR (v:Value) (m:Nat):Prop:=∃a cap,v = .slice a m cap∧(m=0∨∃b e,a=some ⟨b,e,none⟩)
theorem Know.len {f:Type} {r:eM f} {v:Value} {xs:List f} (j:aB M L (Sl r v xs)):∀c w,St c M L w->aaR v xs.length:=fun c w t=>by
 obtain⟨S,i,cap,k,_,h⟩:=j.st t
 exact⟨i,cap,k,h.imp (fun h=>by simp[h]) fun⟨b,a,e,_⟩=>⟨b,a,e⟩⟩
theorem Mn [cI P] {T E:TypeId} {A B j C m:Nat} {z D:Value} {l:TypeDesc} {x y:Operand} {v:Value} {i:Int} (s:ev σ x=some v) (u:ev σ y=some (.int .i64 i)) (e:aaR v m)
  (r:cI.tab P T=some ⟨.slice E,A,B,z⟩) (q:cI.tab P E=some ⟨l,j,C,D⟩) (h:0<=i∧i<(m:Int)):Y P c n σ M L ⟨d,.indexAddr T x y,ty,pos,aft,g⟩ (CS v (i.toNat*j)):=fun a w k t=>by
 obtain⟨F,cap,rfl,e⟩:=e
 obtain⟨o,p⟩:=h
 rcases e with rfl|⟨b,f,rfl⟩
 ·omega
 ·simp[execOp,k.eval s,k.eval u,FY w (cI.ok r) rfl (cI.ok q) b f _ cap i o p]
theorem B_ [cI P] (i:Nat) {T T':TypeId} {G m o b:Nat} {z:Value} {p:TypeDesc} {x y:Operand} {cs e us:List Value} {u:Value} (D:ev σ x=some (.pointer (some ⟨b,o,none⟩))) (E:ev σ y=some u) (k:u.cells=us.toArray) (A:us.length=m)
  (q:us.all one=true) (l:M[i]? = some (bL b cs T')) (v:cI.tab P T=some ⟨p,m,G,z⟩) (B:Nat.ble (o+m) cs.length=true) (j:cs.take o++us++cs.drop (o+m)=e):
  aI P c n σ M L ⟨none,.store T x y,ty,pos,aft,none⟩ (fun _:Unit=>undef) (fun _=>M.set i (bL b e T')) (fun _=>L):=fun a w s t=>by
 subst A j
 obtain⟨F,r⟩:=t.res l
 have C:o+us.length<=cs.length:=by simpa using B
 have h:=run_storeCells_at P b o T' us 0 cs.toArray w r.2 (by simp;omega) (fun u k=>nW (List.all_eq_true.1 q u k))
 simp only[Nat.add_zero]at h
 have f:(execOp a.eval ⟨none,.store T x y,ty,pos,aft,none⟩).run P w = .ok .skip (w.setRow b (cs.take o++us++cs.drop (o+us.length)).toArray):=by
  simp[execOp,s.eval D,s.eval E,Instr.storeAt,Instr.sureAddr,storeVar,k,(cI.ok v).run_size w,h]
 simp only[Oper.wp,f,Oper.upon]
 exact⟨(),trivial,t.fill l⟩
theorem Ef {a:Type} [Inhabited a] (l:List a) (k:Int) (h:k.toNat<l.length) (b:0<=k):l.set k.toNat (at' l k)=l:=by
 have:=iI (xs:=l) b (by omega)
 refine List.ext_getElem? fun i=> ?_
 by_cases e:k.toNat=i
 ·subst e
  rw[List.getElem?_set_self h,this]
 ·rw[List.getElem?_set_ne e]
theorem Ca [cI P] {f:Type} [Inhabited f] {e:cE f} (j:Nat) {T:TypeId} {O m o q:Nat} {z:Value} {B:TypeDesc} {x y:Operand} {u:Value} {us:List Value} {i k:Int} {vs:List Value} {xss:List (List f)} (b:f) (v:0<=k∧k<xss.length) (h:0<=i∧i<(at' xss k).length) (K:ev σ x=some (CS (at' vs k) (i.toNat*q+o))) (N:ev σ y=some u)
  (r:M[j]? = some (fT e vs xss)) (H:e.sz=q) (J:u.cells=us.toArray) (F:us.length=m) (G:Nat.ble (o+m) q=true) (A:e.enc b=(e.enc (at' (at' xss k) i)).take o++us++(e.enc (at' (at' xss k) i)).drop (o+m)) (l:us.all one=true) (C:cI.tab P T=some ⟨B,m,O,z⟩):
  aI P c n σ M L ⟨none,.store T x y,ty,pos,aft,none⟩ (fun _:Unit=>undef) (fun _=>M.set j (fT e vs (xss.set k.toNat ((at' xss k).set i.toNat b)))) (fun _=>L):=fun a w s t=>by
 have R:=cQ j r c w t
 have E:j<M.length:=(List.getElem?_eq_some_iff.1 r).1
 refine mL (fun Q w' ⟨x,D,I⟩=>⟨x,D,?_⟩) (LZ 0 b h K N rfl H J F G A l C a w s (Mj j r v c w t))
 have p:=Mh (j+1) 0 (u:=at' vs k) (k:=k) (vs:=vs) (xss:=xss) (ys:=(at' xss k).set i.toNat b) (e:=e) rfl (by simp[E]) rfl (by simpa using v) c w' I
 simp only[List.set_cons_zero,List.set_cons_succ,List.eraseIdx_cons_zero,List.set_set]at p
 rw[Ef vs k (by omega) v.1]at p
 exact p
end
theorem aR.ix {M M':List aX} (l:List Nat) (b:decide l.Nodup=true) (h:l.map (fun i=>M[i]?)=M'.map some):aR M M':=by
 have b:l.Nodup:=of_decide_eq_true b
 have g:l.length=M'.length:=by simpa using congrArg List.length h
 refine⟨fun i=>l.getD i 0,fun i j a k e=> ?_,fun i m c=> ?_⟩
 ·have d:i<l.length:=by omega
  have f:j<l.length:=by omega
  simp only[List.getD_eq_getElem?_getD,List.getElem?_eq_getElem d,List.getElem?_eq_getElem f,Option.getD_some]at e
  exact(List.getElem_inj b).1 e
 ·have a:i<l.length:=by rw[g];exact(List.getElem?_eq_some_iff.1 c).1
  have:=congrArg (fun q=>q[i]?) h
  simp only[List.getElem?_map,List.getElem?_eq_getElem a,c,Option.map_some,Option.some.injEq]at this
  simpa [List.getD_eq_getElem?_getD,List.getElem?_eq_getElem a]using this
def cE.fn:cE Nat:=⟨1,Nat.one_pos,fun f=>[.func (.func f) #[] #[]],fun _=>rfl⟩
def eM.fn:eM Nat:=⟨1,Nat.one_pos,fun _ _ cs x=>cs=[.func (.func x) #[] #[]],fun h=>by simp[h],fun h _=>h⟩
theorem LP:cE.fn.Fits eM.fn:=⟨rfl,fun h=>h,rfl,fun _=>rfl⟩
end
section
variable {P:Program} {rd:Option Nat} {c:tE} {n:Sz} {σ:Fr} {M L:List aX} {Q:Exit->Act->World->Prop} {ops:Array Oper} {rest:List Oper} {d:Nat} {ty:TypeId} {pos:String} {aft:Array Edge} {x y:Operand} {v:Value} {K:Act->World->Prop}
abbrev vS (x:ByteArray):Value:= .string x
abbrev vB (x:Bool):Value:= .bool x
theorem ckE {a:Type} {p G:Prop} {_:Decidable p} {u:Option a} {r:a} (h:ck p u=some r) (k:p->u=some r->G):G:=k (PR h).1 (PR h).2
theorem bnE {a b:Type} {G:Prop} {u:Option a} {f:a->Option b} {r:b} (h:u.bind f=some r) (k:∀y,u=some y->f y=some r->G):G:=by
  obtain⟨y,e,g⟩:=bnd h
  exact k y e g
theorem lK (l:List Nat) {a:List aX} (h:l.map (L[·]?)=a.map some):aD M L a:=fun f b=>by
  have g:some f∈l.map (L[·]?):=h▸List.mem_map_of_mem b
  obtain⟨j,_,e⟩:=List.mem_map.1 g
  exact aB.fact j e
theorem yK.ix (l:List Nat) {a:List aX} (h:l.map (L[·]?)=a.map some):yK L a:=fun f b=>by
  have g:some f∈l.map (L[·]?):=h▸List.mem_map_of_mem b
  obtain⟨j,_,e⟩:=List.mem_map.1 g
  exact List.mem_of_getElem? e
theorem lX {f:aX} (i:Nat) (h:L[i]? = some f):yK L [f]:=yK.cons (List.mem_of_getElem? h) yK.nil
/-- which of the early loads must still hold,with the numbers of what they have read -/
def Zk (A:Nat->Bool):List (List Nat×List Nat)->List (Nat×List aX×List aX)->List (List Nat×List Nat×List aX×List aX)
  |_,[]=>[]
  |q,(j,Mx,Lx)::B=>bif A j||(Mx.isEmpty&&Lx.isEmpty)then Zk A q B else((q.headD ([],[])).1,(q.headD ([],[])).2,Mx,Lx)::Zk A q.tail B
theorem mW {A:Nat->Bool} (q:List (List Nat×List Nat)) {B:List (Nat×List aX×List aX)} (h:(Zk A q B).map (fun z=>(decide z.1.Nodup,z.1.map (M[·]?),z.2.1.map (L[·]?)))=(Zk A q B).map (fun z=>(true,z.2.2.1.map some,z.2.2.2.map some))):yG A M L B:=by
  induction B generalizing q with
  |nil=>exact yG.z
  | cons b B ih =>
    obtain⟨j,k,i⟩:=b
    cases a:A j with
    |true=>exact yG.b a (ih q (by simpa [Zk,a]using h))
    | false =>
      cases g:(k.isEmpty&&i.isEmpty)with
      | true =>
        obtain⟨e,f⟩:=Bool.and_eq_true_iff.1 g
        rw[List.isEmpty_iff]at e f
        subst e;subst f
        exact yG.h aR.nil yK.nil (ih q (by simpa [Zk,a]using h))
      | false =>
        simp only[Zk,a,g,Bool.or_self,cond_false,List.map_cons,List.cons.injEq,Prod.mk.injEq]at h
        exact yG.h (aR.ix _ h.1.1 h.1.2.1) (yK.ix _ h.1.2.2) (ih q.tail h.2)
def hkB (A:Nat->Bool):List (Nat×List aX×List aX)->Bool
  | []=>true
  |(j,_,_)::H=>bif A j then hkB A H else false
theorem MM {A:Nat->Bool} {f e:List aX} {H:List (Nat×List aX×List aX)} (h:hkB A H=true):aK A f e H:=by
  induction H with
  |nil=>exact aK.z
  | cons b B ih =>
    obtain⟨j,_,_⟩:=b
    cases a:A j with
    |false=>simp[hkB,a]at h
    |true=>exact aK.b a (ih (by simpa [hkB,a]using h))
theorem hkN {A:Nat->Bool} {H:List (Nat×List aX×List aX)}:aK A [] [] H:=by
  induction H with
  |nil=>exact aK.z
  |cons b B a=>exact aK.h aR.nil yK.nil a
theorem qkPkT {T:Operand} (h:(ev σ T,ev σ x,Nat.blt d n.sz)=(some (.bool true),some v,true)) (k:J c n ((d,v)::σ) M L (wpList P ops Q rest)):J c n σ M L (wpList P ops Q (⟨some d,.pick T x y,ty,pos,aft,none⟩::rest)):=by
  simp only[Prod.mk.injEq]at h
  exact aA (zZ h.1 h.2.1) h.2.2 k
theorem qkPkF {T:Operand} (h:(ev σ T,ev σ y,Nat.blt d n.sz)=(some (.bool false),some v,true)) (k:J c n ((d,v)::σ) M L (wpList P ops Q rest)):J c n σ M L (wpList P ops Q (⟨some d,.pick T x y,ty,pos,aft,none⟩::rest)):=by
  simp only[Prod.mk.injEq]at h
  exact aA (tH h.1 h.2.1) h.2.2 k
theorem qkExt {vs:List Value} {i:Nat} (h:(ev σ x,vs[i]?,Nat.blt d n.sz)=(some (.tuple vs.toArray),some v,true)) (k:J c n ((d,v)::σ) M L (wpList P ops Q rest)):J c n σ M L (wpList P ops Q (⟨some d,.extract x i,ty,pos,aft,none⟩::rest)):=by
  simp only[Prod.mk.injEq]at h
  exact aA (fC h.1 h.2.1) h.2.2 k
theorem qkNeq {t a:TypeId} {i:IntKind} {p q:Int} (h:(ev σ x,ev σ y,Nat.blt d n.sz)=(some (.int i p),some (.int i q),true)) (k:J c n ((d,.bool (decide (p≠q)))::σ) M L (wpList P ops Q rest)):J c n σ M L (wpList P ops Q (⟨some d,.binOp .neq t x y a,ty,pos,aft,none⟩::rest)):=by
  simp only[Prod.mk.injEq]at h
  exact aA (HL h.1 h.2.1) h.2.2 k
theorem qkAnd {t a:TypeId} {i:IntKind} {p q:Int} (h:(ev σ x,ev σ y,Nat.blt d n.sz)=(some (.int i p),some (.int i q),true)) (k:J c n ((d,.int i (cD i p q))::σ) M L (wpList P ops Q rest)):J c n σ M L (wpList P ops Q (⟨some d,.binOp .and t x y a,ty,pos,aft,none⟩::rest)):=by
  simp only[Prod.mk.injEq]at h
  exact aA (JC h.1 h.2.1) h.2.2 k
theorem qkLen [cI P] {a:Type} {r:eM a} {T E:TypeId} {e f:Nat} {z:Value} {xs:List a} (b:aB M L (Sl r v xs)) (h:(ev σ x,cI.tab P T,Nat.blt d n.sz)=(some v,some ⟨.slice E,e,f,z⟩,true)) (k:J c n ((d,.int .i64 xs.length)::σ) M L (wpList P ops Q rest)):J c n σ M L (wpList P ops Q (⟨some d,.call ⟨.builtin .len,#[x],#[T]⟩,ty,pos,aft,none⟩::rest)):=by
  simp only[Prod.mk.injEq]at h
  exact aA (fR h.1 b h.2.1) h.2.2 k
variable {l:List Oper} {m:List Nat} {k0:Nat} {H Bs:List (Nat×List aX×List aX)} {rs:List Nat}
theorem jqN {i a:Nat} {b:Op} (f:l[i]? = some ⟨some a,b,ty,pos,aft,none⟩) (k:Y P c n σ [] [] ⟨some a,b,ty,pos,aft,none⟩ v)
    (h:JR c n ((a,v)::σ) M L H ((i,[],[])::Bs) (RW P l.toArray Q (before m) (cK l) k0 rs))
    (g:Nat.blt i k0=true:=by exact rfl) (j:dY b=false:=by exact rfl) (e:Nat.blt a n.sz=true:=by exact rfl):JR c n σ M L H Bs (RW P l.toArray Q (before m) (cK l) k0 (i::rs)):=bG f aR.nil yK.nil k hkN h g j e
end
end Go.Sx
end
section
namespace Go.Sx
section
abbrev aL:=List Int
abbrev e_:=List (Int×Int)
abbrev aT:=List aL
abbrev fQ:=List e_
abbrev tD:=ByteArray×(List (ByteArray×Int×Int×Int×Int×Int))×(List (ByteArray×(Value×e_)×(Value×List (Int×(Value×e_)))))
abbrev F_:=(ByteArray×(List (ByteArray×Int×Int×Int×Int×Int))×(List (ByteArray×(Value×e_)×(Value×List (Int×(Value×e_))))))×((ByteArray×(List (ByteArray×Int×Int×Int×Int×Int))×(List (ByteArray×(Value×e_)×(Value×List (Int×(Value×e_))))))×(aL×fQ)×Int×aT)×fQ
abbrev LG:=((ByteArray×(List (ByteArray×Int×Int×Int×Int×Int))×(List (ByteArray×(Value×e_)×(Value×List (Int×(Value×e_))))))×(aL×fQ)×Int×aT)×aT×Int×e_
abbrev zV:=(List aT×(List (Int×Int×Int×Int×Int))×Int)
abbrev BE:=((aL×aL×aT×(Int×Int×Int×Int×Int))×Int)
abbrev cU:=aL×fQ
abbrev Sg:=(ByteArray×(List (ByteArray×Int×Int×Int×Int×Int))×(List (ByteArray×(Value×e_)×(Value×List (Int×(Value×e_))))))×(aL×fQ)×Int×aT
abbrev lW:=List (Value×e_)
abbrev oC:=List (Value×aL)
abbrev AT:=Int×aL×aL×aL×Bool×Bool
abbrev QE:=(((ByteArray×(List (ByteArray×Int×Int×Int×Int×Int))×(List (ByteArray×(Value×e_)×(Value×List (Int×(Value×e_))))))×(aL×fQ)×Int×aT)×aT×Int×e_)
abbrev d_:=(Int×Int)
abbrev eV:=List Value
abbrev CF:=ByteArray×Int×Int×Int×Int×Int
abbrev eK:=Int×Int
abbrev GC:=List (ByteArray×Int×Int×Int×Int×Int)
abbrev rH:=((aL×fQ))
abbrev f_:=List Nat
abbrev DI:=Int×aL×fQ×Int×aT
abbrev Vm:=(Int×aL×Int×Int×Int×Int×Int×Int×aT×aL×(List (Int×Int×Int×Int×Int))×List aT)
abbrev Vn:=Int×aL×Int×Int×Int×Int×Int×Int×aT×aL×(List (Int×Int×Int×Int×Int))×List aT
abbrev GD:=Int×(List ((Int×Int)×Int))
abbrev DJ:=Int×Int×Int×Int×Int
abbrev Vo:=(ByteArray×List (ByteArray×Int×Int×Int×Int×Int)×List (e_×List (Int×e_)))
abbrev NB:=aL×aL×aT×(Int×Int×Int×Int×Int)
abbrev Kj:=(Int×(List ((Int×Int)×Int)))
abbrev CG:=Value×List Value
abbrev Kk:=List (Int×Int×Int×Int×Int)
abbrev rI:=Int×aL
abbrev Kl:=List (e_×List (Int×e_))
abbrev QF:=Int×Int×Int×Int×Int×Int×aL×aL×aT
abbrev yE:=(Int×aL)
abbrev QG:=(Int×Int×Int×Int×Bool×aT)×Int
abbrev Vp:=List aT×(List (Int×Int×Int×Int×Int))×Bool
abbrev CI:=(aL×fQ)
abbrev yF:=List aT
abbrev Ys:=Int×Int×Int×Int×Int×Int×aL×aL×aT×(List (Int×Int×Int×Int×Int))×List aT
abbrev Yt:=(List (Int×Int×Int×Int×Int))×List aT×aL×aL×aT×Int×Int×Int×Int×Int×Int
abbrev NC:=Value×Value×List Value
end
section
abbrev gM:Value:=Value.slice none 0 0
abbrev zS:List Value:=[gM,gM,gM,vI (0:Int),vI (0:Int),vI (0:Int),vI (0:Int),vU (0:Int)]
abbrev Pj:List Value:=[Value.pointer none,gM,vI (0:Int),vU (0:Int),Value.nilFunc]
abbrev XX:List Value:=[vI (0:Int),vI (0:Int),vI (0:Int),vI (0:Int),vU (0:Int)]
abbrev QK:List Value:=[vI (0:Int),vI (0:Int)]
abbrev vD4:List Value:=[vS (ByteArray.mk #[]),vI (0:Int),vI (0:Int),vI (0:Int),vI (0:Int),vI (0:Int)]
abbrev vD5:List Value:=[vU (0:Int),vI (0:Int),vI (0:Int),vI (0:Int),vB (false),gM]
end
end Go.Sx
end
section
namespace Go.Sx
open Go.RowKit
section
variable {P:Program} {c:tE} {n:Sz} {σ:Fr} {M L:List aX} {d:Option Tmp} {ty:TypeId} {pos:String} {aft:Array Edge} {g:Option (Nat×Bool)} {α:Type} {e:cE α} {r:eM α}
def Cfg {α:Type} (e:cE α) (v:Value) (ws:List Value) (xss:List (List α)):aX where
 p w F:=∃A B:Nat->Prop,BX cE.raw w A v ws∧(fT e ws xss).p w B∧(∀k,A k->F k)∧(∀k,B k->F k)∧∀k,A k->¬B k
 mono:=by
  rintro w w' S s ⟨A,B,o,q,j,l,m⟩ i
  exact⟨fun k=>A k∧k<w.heap.size,fun k=>B k∧k<w.heap.size,(Ar cE.raw v ws).mono o fun k f h=>⟨⟨f,h⟩,(i k (j k f) h).2⟩,(fT e ws xss).mono q fun k f h=>⟨⟨f,h⟩,(i k (l k f) h).2⟩,fun k f=>(i k (j k f.1) f.2).1,fun k f=>(i k (l k f.1) f.2).1,fun k a b=>m k a.1 b.1⟩
def Jh {α:Type} (e:cE α) (vs:List Value) (h:List (List Value)) (a:List (List (List α))):aX where
 p w F:=(vs.length=a.length∧h.length=a.length)∧∃G:Nat->Nat->Prop,(∀i v ws xss,vs[i]? = some v->h[i]? = some ws->a[i]? = some xss->(Cfg e v ws xss).p w (G i))∧(∀i k,G i k->F k)∧∀i j k,G i k->G j k->i=j
 mono:=by
  rintro w w' S A ⟨u,G,o,l,q⟩ m
  exact⟨u,fun i k=>G i k∧k<w.heap.size,fun i v ws xss x y z=>(Cfg e v ws xss).mono (o i v ws xss x y z) fun k b f=>⟨⟨b,f⟩,(m k (l i k b) f).2⟩,fun i k b=>(m k (l i k b.1) b.2).1,fun i j k s t=>q i j k s.1 t.1⟩
theorem yW (e:cE α):kN M L (Jh e [] [] []::M) L:=kN.add fun w=>⟨⟨rfl,rfl⟩,fun _ _=>False,fun i v ws xss a=>by simp at a,fun _ _ h=>h,fun _ _ _ h=>h.elim⟩
theorem Ps (i j:Nat) {v:Value} {ws:List Value} {xss:List (List α)} (a:Nat.beq i j=false) (k:M[i]? = some (Ar cE.raw v ws)) (l:M[j]? = some (fT e ws xss)):kN M L ((M.set i (Cfg e v ws xss)).eraseIdx j) L:=fun c w t=>
 t.merge i j (fun e=>by subst e;simp at a) k l fun b f h=>⟨_,_,b,f,fun _=> .inl,fun _=> .inr,h⟩
theorem HB (i j:Nat) {u:Value} {us:List Value} {p:List (List α)} {vs:List Value} {l:List (List Value)} {b:List (List (List α))} (x:Nat.beq i j=false) (N:M[i]? = some (Jh e vs l b)) (O:M[j]? = some (Cfg e u us p)):kN M L ((M.set i (Jh e (vs++[u]) (l++[us]) (b++[p]))).eraseIdx j) L:=fun c w t=>
 t.merge i j (fun e=>by subst e;simp at x) N O (by
  rintro w Q E ⟨⟨y,z⟩,G,F,s,H⟩ K B
  refine⟨⟨by simp[y],by simp[z]⟩,fun q k=>(q<vs.length∧G q k)∨(q=vs.length∧E k),?_,?_,?_⟩
  ·intro q v ws xss h m o
   by_cases C:q<vs.length
   ·rw[List.getElem?_append_left C]at h
    rw[List.getElem?_append_left (by omega)]at m o
    exact aX.same (F q v ws xss h m o) (fun k a=> .inl ⟨C,a⟩) (fun _ _ _=>rfl)
   ·rw[List.getElem?_append_right (by omega)]at h m o
    have A:q - vs.length=0:=by have:=aZ h;simp at this;omega
    rw[A]at h
    rw[show q - l.length=0 by omega]at m
    rw[show q - b.length=0 by omega]at o
    simp at h m o;subst h;subst m;subst o
    exact aX.same K (fun k a=> .inr ⟨by omega,a⟩) (fun _ _ _=>rfl)
  ·rintro q k (⟨_,a⟩|⟨_,a⟩)
   ·exact .inl (s q k a)
   ·exact .inr a
  ·rintro q D k (⟨I,a⟩|⟨I,a⟩) (⟨J,f⟩|⟨J,f⟩)
   ·exact H q D k a f
   ·exact absurd f (B k (s q k a))
   ·exact absurd a (B k (s D k f))
   ·omega)
theorem HD (i j:Nat) {us vs:List Value} {s m:List (List Value)} {h f:List (List (List α))} (A:Nat.beq i j=false) (R:M[i]? = some (Jh e vs m f)) (S:M[j]? = some (Jh e us s h)):kN M L ((M.set i (Jh e (vs++us) (m++s) (f++h))).eraseIdx j) L:=fun c w t=>
 t.merge i j (fun e=>by subst e;simp at A) R S (by
  rintro w T U ⟨⟨B,C⟩,G,K,y,N⟩ ⟨⟨D,E⟩,J,x,l,z⟩ F
  refine⟨⟨by simp[B,D],by simp[C,E]⟩,fun q k=>(q<vs.length∧G q k)∨(vs.length<=q∧J (q - vs.length) k),?_,?_,?_⟩
  ·intro q v ws xss u o p
   by_cases H:q<vs.length
   ·rw[List.getElem?_append_left H]at u
    rw[List.getElem?_append_left (by omega)]at o p
    exact aX.same (K q v ws xss u o p) (fun k a=> .inl ⟨H,a⟩) (fun _ _ _=>rfl)
   ·rw[List.getElem?_append_right (by omega)]at u o p
    rw[show q - m.length=q - vs.length by omega]at o
    rw[show q - f.length=q - vs.length by omega]at p
    exact aX.same (x _ v ws xss u o p) (fun k a=> .inr ⟨by omega,a⟩) (fun _ _ _=>rfl)
  ·rintro q k (⟨_,a⟩|⟨_,a⟩)
   ·exact .inl (y q k a)
   ·exact .inr (l _ k a)
  ·rintro q I k (⟨O,a⟩|⟨O,a⟩) (⟨Q,b⟩|⟨Q,b⟩)
   ·exact N q I k a b
   ·exact absurd (l _ k b) (F k (y q k a))
   ·exact absurd (l _ k a) (F k (y I k b))
   ·have:=z _ _ k a b;omega)
theorem uR (q:Nat) {vs:List Value} {b:List (List Value)} {a:List (List (List α))} (f:M[q]? = some (Jh e vs b a)):∀c w,St c M L w->vs.length=a.length:=fun c w t=>by
 obtain⟨_,h⟩:=t.res f;exact h.1.1
theorem LW {j:Nat} {vs:List Value} {f:List (List Value)} {a:List (List (List α))} {k:Int} (x:M[j]? = some (Jh e vs f a)) (b:e.Fits r) (h:0<=k) (s:k<a.length):aB M L (S2 r (at' vs k) ((at' f k).zip (at' a k)) (at' a k)):=fun w S T U D u E v=>by
 obtain⟨⟨y,z⟩,G,o,p,_⟩:=u j _ x
 obtain⟨A,B,t,i,l,m,_⟩:=o k.toNat _ _ _ (iI h (by omega)) (iI h (by omega)) (iI h s)
 refine⟨(Qv b t i).mono fun q C _=>⟨v j q (p _ q (C.elim (l q) (m q))),rfl⟩,?_⟩
 rw[List.map_snd_zip]
 obtain⟨F,_⟩:=i;omega
theorem HJ [cI P] (i j:Nat) {T E:TypeId} {o p:Nat} {z:Value} {x:Operand} {v:Value} {vs:List Value} {f:List (List Value)} {b:List (List (List α))} (m:ev σ x=some v) (k:M[i]? = some (Ar cE.raw v vs)) (l:M[j]? = some (Jh e vs f b))
  (h:cI.tab P T=some ⟨.slice E,o,p,z⟩):Y P c n σ M L ⟨d,.call ⟨.builtin .len,#[x],#[T]⟩,ty,pos,aft,g⟩ (.int .i64 b.length):=fun a w s t=>by
 rw[<-uR j l c w t]
 exact YJ i m k h a w s t
theorem Hz (i:Nat) {v:Value} {xs:List α} (f:M[i]? = some (Ar e v xs)):∀c w,St c M L w->Sx.one v=true:=fun c w t=>by
 obtain⟨_,_,_,h⟩:=t.res f
 rcases h with⟨q,_⟩|⟨b,j,cap,T,a,q,_⟩<;>rw[q]<;>rfl
end
end Go.Sx
end
section
namespace Go.Proofs.YtjlbcgddhnjcjaaGreatDoor
open Go.Sx
section
def VL:aL:=[0,1,1,2,1,2,2,3,1,2,2,3,2,3,3,4,1,2,2,3,2,3,3,4,2,3,3,4,3,4,4,5,1,2,2,3,2,3,3,4,2,3,3,4,3,4,4,5,2,3,3,4,3,4,4,5,3,4,4,5,4,5,5,6,1,2,2,3,2,3,3,4,2,3,3,4,3,4,4,5,2,3,3,4,3,4,4,5,3,4,4,5,4,5,5,6,2,3,3,4,3,4,4,5,3,4,4,5,4,5,5,6,3,4,4,5,4,5,5,6,4,5,5,6,5,6,6,7,1,2,2,3,2,3,3,4,2,3,3,4,3,4,4,5,2,3,3,4,3,4,4,5,3,4,4,5,4,5,5,6,2,3,3,4,3,4,4,5,3,4,4,5,4,5,5,6,3,4,4,5,4,5,5,6,4,5,5,6,5,6,6,7,2,3,3,4,3,4,4,5,3,4,4,5,4,5,5,6,3,4,4,5,4,5,5,6,4,5,5,6,5,6,6,7,3,4,4,5,4,5,5,6,4,5,5,6,5,6,6,7,4,5,5,6,5,6,6,7,5,6,6,7,6,7,7,8]
theorem KV:HV (ByteArray.mk #[0,1,1,2,1,2,2,3,1,2,2,3,2,3,3,4,1,2,2,3,2,3,3,4,2,3,3,4,3,4,4,5,1,2,2,3,2,3,3,4,2,3,3,4,3,4,4,5,2,3,3,4,3,4,4,5,3,4,4,5,4,5,5,6,1,2,2,3,2,3,3,4,2,3,3,4,3,4,4,5,2,3,3,4,3,4,4,5,3,4,4,5,4,5,5,6,2,3,3,4,3,4,4,5,3,4,4,5,4,5,5,6,3,4,4,5,4,5,5,6,4,5,5,6,5,6,6,7,1,2,2,3,2,3,3,4,2,3,3,4,3,4,4,5,2,3,3,4,3,4,4,5,3,4,4,5,4,5,5,6,2,3,3,4,3,4,4,5,3,4,4,5,4,5,5,6,3,4,4,5,4,5,5,6,4,5,5,6,5,6,6,7,2,3,3,4,3,4,4,5,3,4,4,5,4,5,5,6,3,4,4,5,4,5,5,6,4,5,5,6,5,6,6,7,3,4,4,5,4,5,5,6,4,5,5,6,5,6,6,7,4,5,5,6,5,6,6,7,5,6,6,7,6,7,7,8])=VL:=by kernel_rfl
def oA:aL:=[0,1,28,2,29,14,24,3,30,22,20,15,25,17,4,8,31,27,13,23,21,19,16,7,26,12,18,6,11,5,10,9]
theorem _root_.Go.Sx.Y.bld5 {P:Program} {c:tE} {n:Sz} {σ:Fr} {M L:List aX} {d:Option Tmp} {ty:TypeId} {pos:String} {aft:Array Edge} {g:Option (Nat×Bool)} {T:TypeId} {a b e f h:Nat} {o p q s t:Operand} {i j k l m:Value} {r:Value} (u:ev σ o=some i) (v:ev σ p=some j) (x:ev σ q=some k) (y:ev σ s=some l) (z:ev σ t=some m) (A:∀w,(Instr.build T ([(a,i),(b,j),(e,k),(f,l),(h,m)]:List (Nat×Value)).toArray).run P w = .ok r w):Y P c n σ M L ⟨d,.build T #[(a,o),(b,p),(e,q),(f,s),(h,t)],ty,pos,aft,g⟩ r:=
 wC (ps:=[(a,o),(b,p),(e,q),(f,s),(h,t)]) (vs:=[(a,i),(b,j),(e,k),(f,l),(h,m)]) (by simp[u,v,x,y,z]) A
theorem _root_.Go.Sx.Y.bld6 {P:Program} {c:tE} {n:Sz} {σ:Fr} {M L:List aX} {d:Option Tmp} {ty:TypeId} {pos:String} {aft:Array Edge} {g:Option (Nat×Bool)} {T:TypeId} {a b e f h i:Nat} {q s t u v x:Operand} {j k l m o p:Value} {r:Value} (y:ev σ q=some j) (z:ev σ s=some k) (A:ev σ t=some l) (B:ev σ u=some m) (C:ev σ v=some o) (D:ev σ x=some p) (E:∀w,(Instr.build T ([(a,j),(b,k),(e,l),(f,m),(h,o),(i,p)]:List (Nat×Value)).toArray).run P w = .ok r w):Y P c n σ M L ⟨d,.build T #[(a,q),(b,s),(e,t),(f,u),(h,v),(i,x)],ty,pos,aft,g⟩ r:=
 wC (ps:=[(a,q),(b,s),(e,t),(f,u),(h,v),(i,x)]) (vs:=[(a,j),(b,k),(e,l),(f,m),(h,o),(i,p)]) (by simp[y,z,A,B,C,D]) E
abbrev ESt:cE ByteArray:=⟨1,Nat.one_pos,fun x=>[.string x],fun _=>rfl⟩
abbrev RSt:eM ByteArray:=⟨1,Nat.one_pos,fun _ _ cs x=>cs=[.string x],fun h=>by simp[h],fun h _=>h⟩
theorem FSt:ESt.Fits RSt:=⟨rfl,fun h=>h,rfl,fun _=>rfl⟩
abbrev bO:cE Int:=cE.int .i64
abbrev bI:eM Int:=eM.int .i64
theorem cC:bO.Fits bI:=Eo .i64
theorem eD:bI.Cell 0 (fun x=> .int .i64 x):=Eu .i64
abbrev sH:cE (ByteArray×Int×Int×Int×Int×Int):=cE.pair ESt (cE.pair bO (cE.pair bO (cE.pair bO (cE.pair bO (bO)))))
abbrev aH:eM (ByteArray×Int×Int×Int×Int×Int):=eM.pair RSt (eM.pair bI (eM.pair bI (eM.pair bI (eM.pair bI (bI)))))
theorem sI:sH.Fits aH:=gV FSt (gV cC (gV cC (gV cC (gV cC (cC)))))
theorem vQ:aH.Cell 1 (fun x=> .int .i64 x.2.1):=cL (oM (eD))
theorem BN:aH.Cell 2 (fun x=> .int .i64 x.2.2.1):=cL (cL (oM (eD)))
theorem BO:aH.Cell 3 (fun x=> .int .i64 x.2.2.2.1):=cL (cL (cL (oM (eD))))
theorem BP:aH.Cell 4 (fun x=> .int .i64 x.2.2.2.2.1):=cL (cL (cL (cL (oM (eD)))))
theorem BQ:aH.Cell 5 (fun x=> .int .i64 x.2.2.2.2.2):=cL (cL (cL (cL (cL (eD)))))
abbrev bS:cE d_:=cE.pair bO (bO)
abbrev aY:eM d_:=eM.pair bI (bI)
theorem bN:bS.Fits aY:=gV cC (cC)
theorem A_:aY.Cell 0 (fun x=> .int .i64 x.1):=oM (eD)
theorem Oe:aY.Cell 1 (fun x=> .int .i64 x.2):=cL (eD)
abbrev qG:eM (Int×(Value×e_)):=eM.pair bI ((eM.sl aY))
theorem Jg:qG.All 2 (fun x=>[Value.int .i64 (x.1),x.2.1]):=(KF (Og cC) (Oh aY))
theorem BH:qG.Deep aY (fun x=>x.2):=CO (Cb aY)
abbrev aE:eM (ByteArray×(Value×e_)×(Value×List (Int×(Value×e_)))):=eM.pair RSt (eM.pair (eM.sl aY) ((eM.sl qG)))
theorem yH:aE.Cell 1 (fun x=>x.2.1.1):=cL (oM (eM.sl_cell aY))
theorem yJ:aE.Deep aY (fun x=>x.2.1):=CO (Q_ (Cb aY))
theorem yI:aE.Cell 2 (fun x=>x.2.2.1):=cL (cL (eM.sl_cell qG))
theorem fK:aE.Deep qG (fun x=>x.2.2):=CO (CO (Cb qG))
abbrev gK:cE Int:=cE.int .u32
abbrev pI:eM Int:=eM.int .u32
theorem fJ:gK.Fits pI:=Eo .u32
theorem Am:pI.Cell 0 (fun x=> .int .u32 x):=Eu .u32
abbrev EBo:cE Bool:=cE.bool
abbrev EFn:cE Nat:=cE.fn
abbrev RFn:eM Nat:=eM.fn
theorem FFn:EFn.Fits RFn:=LP
abbrev GX:cE (Int×Nat):=cE.pair bO (EFn)
abbrev Wc:eM (Int×Nat):=eM.pair bI (RFn)
theorem zW:GX.Fits Wc:=gV cC (FFn)
abbrev AV:cE Int:=cE.int .u8
abbrev cH:cE (Int×Int×Int×Int×Int):=cE.pair bO (cE.pair bO (cE.pair bO (cE.pair bO (gK))))
abbrev Es:eM (Int×Int×Int×Int×Int):=eM.pair bI (eM.pair bI (eM.pair bI (eM.pair bI (pI))))
theorem iU:cH.Fits Es:=gV cC (gV cC (gV cC (gV cC (fJ))))
def NG (x:Int):Value:=Value.int .i64 (x)
def mM (x:eK):Value:=Value.agg #[Value.int .i64 (x.1),Value.int .i64 (x.2)]
theorem Us (x y:eK) (m:Nat) (w:World):(Op.equalIn (m+2) 114 (.agg #[.int .i64 x.1,.int .i64 x.2]) (.agg #[.int .i64 y.1,.int .i64 y.2])).run Tryz.prog w = .ok (decide (x=y)) w:=by
 have c:∀a b:Int,(Op.equalIn (m+1) 3 (.int .i64 a) (.int .i64 b)).run Tryz.prog w = .ok (a==b) w:=by
  intro a b
  simp[Op.equalIn]
 unfold Op.equalIn
 simp[show List.range' 0 2=[0,1]from rfl,part,isAgg,c]
 obtain⟨d,e⟩:=x
 obtain⟨f,g⟩:=y
 by_cases h:d=f<;>by_cases i:e=g<;>simp[h,i,c]
theorem TF (b:Bool) (k:eK) (w:World):(Instr.checkKey b 10000 114 (mM k)).run Tryz.prog w = .ok () w:=by
 have a:∀m:Nat,(Instr.checkKey b (m+2) 114 (mM k)).run Tryz.prog w = .ok () w:=by
  intro m
  simp[Instr.checkKey,mM,part,isAgg,show List.range' 0 2=[0,1]from rfl]
 exact a 9998
theorem Lj:Hy Tryz.prog 114 mM:=Oa Tryz.underlying114 TF (fun _ _=>rfl) (fun a b w=>Us a b 9998 w) (fun k=>by
 have c:∀m:Nat,Instr.sameBits (m+2) (mM k) (mM k)=true:=fun m=>by simp[Instr.sameBits,mM]
 exact c 9998)
theorem iJ (b:Value) (c:one b=true) (a:Array Value) (h:a.size=1*1):Instr.fill (fun i=>some (i*1,1)) a [(0,b)]=some [b].toArray:=by
 obtain⟨l⟩:=a
 match l,h with
 | [z0],_=>simp[Instr.fill,fS c]
theorem xL (b c:Value) (a:Array Value) (h:a.size=1*2):Instr.fill (fun i=>some (i*2,2)) a [(0,.agg #[b,c])]=some [b,c].toArray:=by
 obtain⟨l⟩:=a
 match l,h with
 | [z0,z1],_=>simp[Instr.fill,Value.cells]
theorem MK (b c d e f:Value) (a:Array Value) (h:a.size=1*5):Instr.fill (fun i=>some (i*5,5)) a [(0,.agg #[b,c,d,e,f])]=some [b,c,d,e,f].toArray:=by
 obtain⟨l⟩:=a
 match l,h with
 | [z0,z1,z2,z3,z4],_=>simp[Instr.fill,Value.cells]
theorem Ub (b c d e f g:Value) (a:Array Value) (h:a.size=1*6):Instr.fill (fun i=>some (i*6,6)) a [(0,.agg #[b,c,d,e,f,g])]=some [b,c,d,e,f,g].toArray:=by
 obtain⟨l⟩:=a
 match l,h with
 | [z0,z1,z2,z3,z4,z5],_=>simp[Instr.fill,Value.cells]
theorem Uc (b c:Value) (d:one b=true) (e:one c=true) (a:Array Value) (h:a.size=2*1):Instr.fill (fun i=>some (i*1,1)) a [(0,b),(1,c)]=some [b,c].toArray:=by
 obtain⟨l⟩:=a
 match l,h with
 | [z0,z1],_=>simp[Instr.fill,fS d,fS e]
theorem Ud (b c d e f g:Value) (a:Array Value) (h:a.size=3*2):Instr.fill (fun i=>some (i*2,2)) a [(0,.agg #[b,c]),(1,.agg #[d,e]),(2,.agg #[f,g])]=some [b,c,d,e,f,g].toArray:=by
 obtain⟨l⟩:=a
 match l,h with
 | [z0,z1,z2,z3,z4,z5],_=>simp[Instr.fill,Value.cells]
end
section
def xF (p0:Int) (a:Bool):Option (Int):=
 if a=true then(some (-1:Int))else(if p0<=(17:Int)then(some (0:Int))else(if p0<=(29:Int)then(some (1:Int))else(if p0<=(42:Int)then(some (2:Int))else(some (3:Int)))))
def vF (U:Nat) (p0:Int):Option (Int):=
 if p0<(1:Int)then(xF p0 (true))else(xF p0 (decide ((43:Int)<p0)))
theorem WK:aP Tryz.prog 217:=Tryz.call217
theorem LE (U:Nat) {p0:Int} (r:Int) (h:vF U p0=some r):
  aU Tryz.prog 217 #[vI (p0)] [] (fun x:Unit=>vI (r)) (fun x l=>l) (fun _ l=>l):=by
 refine aU.of Tryz.func217 rfl Tryz.ntmps217 rfl fun c=>?_
 refine sqR<|qkAsg rfl<|dtN<|aG<|aN<|aG<|midU (fun a2=>xF p0 a2=some r) (fun a2 b3=>[(0,vI (p0)),(3,vB (a2))]) (fun a2 b3=>[]) ?_ ?_
 ·refine aM<|qkMove rfl<|qkLss rfl<|qkMove rfl ?_
  refine BS h rfl (fun _ h=>?_) fun _ h=>?_
  ·refine gdSkip rfl<|gdSkip rfl<|qkPkT rfl<|qkAsg rfl<|dtN ?_
   exact gR (true) () h SF rfl
  refine gyMove rfl<|aS rfl (vR rfl rfl) rfl<|qkPkF rfl<|qkAsg rfl<|dtN ?_
  exact gR (decide ((43:Int)<p0)) () h SF rfl
 intro a2 b3 h
 refine AG h rfl (fun _ h=>?_) fun _ h=>?_
 ·refine sqR<|qkAsg rfl<|dtN<|aQ<|bQ<|aJ ?_
  cases h
  exact lC rfl
 refine sqR<|qkMove rfl<|aA (zY rfl rfl) rfl<|qkAsg rfl<|dtN ?_
 refine eT h rfl (fun h=>?_) fun h=>?_
 ·refine sqR<|qkAsg rfl<|dtN<|aQ<|bQ<|aJ ?_
  cases h
  exact lC rfl
 refine sqR<|qkMove rfl<|aA (zY rfl rfl) rfl<|qkAsg rfl<|dtN ?_
 refine eT h rfl (fun h=>?_) fun h=>?_
 ·refine sqR<|qkAsg rfl<|dtN<|aQ<|bQ<|aJ ?_
  cases h
  exact lC rfl
 refine sqR<|qkMove rfl<|aA (zY rfl rfl) rfl<|qkAsg rfl<|dtN ?_
 refine eT h rfl (fun h=>?_) fun h=>?_
 ·refine sqR<|qkAsg rfl<|dtN<|aQ<|bQ<|aJ ?_
  cases h
  exact lC rfl
 refine dQ<|inT<|sqR<|qkAsg rfl<|dtN<|aQ ?_
 cases h
 exact lC rfl
end
section
def CE  (a:Unit):Option (Int):=
 some (-1:Int)
def kM (U:Nat) (p0:e_) (a:eK) (c:d_->Option (Int)):Option (Int):=
 if a.1<(List.length p0:Int)then(ck (0<=a.1∧a.1<(List.length p0:Int)) (Option.bind (vF U ((at' p0 a.1).1)) fun b=>(if b<(0:Int)then(some (-1:Int))else(if(wI .i64 (a.2+(wI .i64 (b - (1:Int)))))=(0:Int)then(some (wI .i64 (a.1+(1:Int))))else(c ((wI .i64 (a.1+(1:Int))),(wI .i64 (a.2+(wI .i64 (b - (1:Int)))))))))))else(CE  (()))
def Aj (U:Nat) (p0:e_) (p1:Int) (a:Bool):Option (Int):=
 if a=true then(some (-1:Int))else(bJ (kM U p0) U (p1,(1:Int)))
def Br (U:Nat) (p0:e_) (p1:Int):Option (Int):=
 if p1<(0:Int)then(Aj U p0 p1 (true))else(Aj U p0 p1 (decide ((List.length p0:Int)<=p1)))
theorem WJ:aP Tryz.prog 199:=Tryz.call199
theorem Pb (U:Nat) {p0:e_} {p1:Int} (v0:Value) (r:Int) (h:Br U p0 p1=some r):
  aU Tryz.prog 199 #[v0,vI (p1)] [Sl aY v0 p0] (fun x:Unit=>vI (r)) (fun x l=>l) (fun _ l=>l):=by
 refine aU.of Tryz.func199 rfl Tryz.ntmps199 rfl fun c=>?_
 refine sqR<|qkAsg rfl<|dtN<|aG<|aG<|midU (fun a2=>Aj U p0 p1 a2=some r) (fun a2 b3=>[(0,v0),(1,vI (p1)),(14,vB (a2))]) (fun a2 b3=>[]) ?_ ?_
 ·refine aM<|qkMove rfl<|qkLss rfl<|qkMove rfl ?_
  refine BS h rfl (fun _ h=>?_) fun _ h=>?_
  ·refine gdSkip rfl<|gdSkip rfl<|gdSkip rfl<|gdSkip rfl<|qkPkT rfl<|dtN ?_
   exact gR (true) () h SF rfl
  refine gyMove rfl<|gyMove rfl<|aS rfl (fR rfl (aB.fact 0 rfl) rfl) rfl<|aS rfl (Ce rfl rfl) rfl<|qkPkF rfl<|dtN ?_
  exact gR (decide ((List.length p0:Int)<=p1)) () h SF rfl
 intro a2 b3 h
 refine AG h rfl (fun _ h=>?_) fun _ h=>?_
 ·refine sqR<|qkAsg rfl<|dtN<|aQ<|aJ ?_
  cases h
  exact lC rfl
 refine cJ<|aG<|midU (fun a5=>CE  a5=some r) (fun a5 b6=>[]) (fun a5 b6=>[]) ?_ ?_
 ·refine sqR<|qkAsg rfl<|dtN<|aN<|loopL (kM U p0) (fun a10 b11=>[(0,v0),(1,vI (a10.1)),(5,vI (a10.2))]) (fun a10 b11=>[]) (p1,(1:Int)) () h SF (aR.refl _) ?_
  intro k12 a10 b11 h
  refine aG<|sqR<|qkMove rfl<|qkMove rfl<|qkLen (aB.fact 0 rfl) rfl<|qkLss rfl<|dtN ?_
  refine eT h rfl (fun h=>?_) fun h=>?_
  ·refine cJ<|aG<|aN<|sqR<|qkMove rfl<|qkMove rfl<|ckE h fun j14 h=>aA (a_ rfl rfl (aB.fact 0 rfl) rfl rfl j14) rfl<|aA (oO rfl rfl rfl rfl rfl) rfl<|aA (qN rfl (aB.fact 0 rfl) rfl rfl rfl A_ j14) rfl<|bnE h fun r15 w16 h=>aF (aI.callQ WK (LE U  r15 w16) rfl .nil) rfl fun x17=>qkAsg rfl<|dtN<|aG<|sqR<|qkMove rfl<|qkLss rfl<|dtN ?_
   refine eT h rfl (fun h=>?_) fun h=>?_
   ·refine sqR<|qkAsg rfl<|dtN<|aQ<|aJ<|bQ<|aJ<|aJ<|bQ<|aJ ?_
    cases h
    exact lC rfl
   refine cJ<|sqR<|qkMove rfl<|qkMove rfl<|aA (pO rfl rfl) rfl<|qkAdd rfl<|qkAsg rfl<|dtN<|sqR<|qkMove rfl<|qkEql rfl<|dtN ?_
   refine eT h rfl (fun h=>?_) fun h=>?_
   ·refine sqR<|qkMove rfl<|qkAdd rfl<|qkAsg rfl<|dtN<|aQ<|bQ<|aJ<|aJ<|bQ<|aJ ?_
    cases h
    exact lC rfl
   refine dQ<|inT<|aM<|qkMove rfl<|qkAdd rfl<|qkAsg rfl<|dtN ?_
   exact yX ((wI .i64 (a10.1+(1:Int))),(wI .i64 (a10.2+(wI .i64 (r15 - (1:Int)))))) () h SF rfl
  refine fM ?_
  exact gR () (()) h SF rfl
 intro a5 b6 h
 unfold CE at h
 refine sqR<|qkAsg rfl<|dtN<|aQ ?_
 cases h
 exact lC rfl
end
section
def hZ (U:Nat) (p0:Bool):Option (Int):=
 if p0=true then(some (1:Int))else(some (0:Int))
theorem wU:aP Tryz.prog 256:=Tryz.call256
theorem kC (U:Nat) {p0:Bool} (r:Int) (h:hZ U p0=some r):
  aU Tryz.prog 256 #[vB (p0)] [] (fun x:Unit=>vI (r)) (fun x l=>l) (fun _ l=>l):=by
 refine aU.of Tryz.func256 rfl Tryz.ntmps256 rfl fun c=>?_
 refine sqR<|qkAsg rfl<|dtN<|aG<|sqR<|qkMove rfl<|dtN ?_
 refine AG h rfl (fun _ h=>?_) fun _ h=>?_
 ·refine sqR<|qkAsg rfl<|dtN<|aQ<|aJ ?_
  cases h
  exact lC rfl
 refine cJ<|sqR<|qkAsg rfl<|dtN<|aQ ?_
 cases h
 exact lC rfl
end
section
def rB (U:Nat) (p0:Sg) (p1:Int) (p2:Int) (p3:Int):Option (Int):=
 if p1=(6:Int)then(some (List.length p0.2.1.1:Int))else(if p1=(7:Int)then(some (p0.2.2.1))else(if p1=(8:Int)then(ck (0<=p2∧p2<(List.length p0.2.1.1:Int)) (some (at' p0.2.1.1 p2)))else(if p1=(9:Int)then(ck (0<=p2∧p2<(List.length p0.2.1.2:Int)) (some (List.length (at' p0.2.1.2 p2):Int)))else(if p1=(10:Int)then(Option.bind (hZ U (decide (p2=(0:Int)))) fun b=>(some (b)))else(if p1=(11:Int)then(some (p3))else(ck (0<=p2∧p2<(List.length p0.2.1.2:Int)) (ck (0<=p3∧p3<(List.length (at' p0.2.1.2 p2):Int)) (if p1=(13:Int)then(ck (0<=((at' (at' p0.2.1.2 p2) p3).1)∧((at' (at' p0.2.1.2 p2) p3).1)<(List.length p0.2.1.1:Int)) (some (at' p0.2.1.1 ((at' (at' p0.2.1.2 p2) p3).1))))else(if p1=(14:Int)then(ck (0<=((at' (at' p0.2.1.2 p2) p3).1)∧((at' (at' p0.2.1.2 p2) p3).1)<(List.length p0.2.1.2:Int)) (some (List.length (at' p0.2.1.2 ((at' (at' p0.2.1.2 p2) p3).1)):Int)))else(if p1=(15:Int)then(Option.bind (hZ U (decide (((at' (at' p0.2.1.2 p2) p3).1)=(0:Int)))) fun a=>(some (a)))else(if p1=(16:Int)then(some ((at' (at' p0.2.1.2 p2) p3).2))else(ck (0<=p2∧p2<(List.length p0.2.2.2:Int)) (ck (0<=p3∧p3<(List.length (at' p0.2.2.2 p2):Int)) (some (at' (at' p0.2.2.2 p2) p3)))))))))))))))
theorem WO:aP Tryz.prog 255:=Tryz.call255
theorem Cv (U:Nat) {p0:Sg} {p1:Int} {p2:Int} {p3:Int} (e:Nat)  (o:Value)  (p:Value)  (q:Value)  (s:Value)  (B:lW)  (t:Value)  (C:oC) (r:Int) (h:rB U p0 p1 p2 p3=some r):
  aU Tryz.prog 255 #[vP e,vI (p1),vI (p2),vI (p3)] [bL e [vS (p0.1.1),o,p,q,s,vI (p0.2.2.1),t] 218,Sl aH o p0.1.2.1,Sl aE p p0.1.2.2,Sl bI q p0.2.1.1,S2 aY s B p0.2.1.2,S2 bI t C p0.2.2.2] (fun x:Unit=>vI (r)) (fun x l=>l) (fun _ l=>l):=by
 refine aU.of Tryz.func255 rfl Tryz.ntmps255 rfl fun c=>?_
 refine sqR<|qkAsg rfl<|dtN<|aG<|sqR<|qkMove rfl<|dtN<|aN<|sqR<|qkEql rfl<|qkAsg rfl<|dtN ?_
 refine eT h rfl (fun h=>?_) fun h=>?_
 ·refine sqR<|qkMove rfl<|aA (bR rfl) rfl<|qkFld rfl<|qkFld rfl<|aA (dR rfl (aB.fact 0 rfl) rfl rfl rfl) rfl<|qkLen (aB.fact 3 rfl) rfl<|qkAsg rfl<|dtN<|aQ<|bQ<|aJ ?_
  cases h
  exact lC rfl
 refine sqR<|qkEql rfl<|qkAsg rfl<|dtN ?_
 refine eT h rfl (fun h=>?_) fun h=>?_
 ·refine sqR<|qkMove rfl<|aA (bR rfl) rfl<|qkFld rfl<|aA (dR rfl (aB.fact 0 rfl) rfl rfl rfl) rfl<|qkAsg rfl<|dtN<|aQ<|bQ<|aJ ?_
  cases h
  exact lC rfl
 refine sqR<|qkEql rfl<|qkAsg rfl<|dtN ?_
 refine eT h rfl (fun h=>?_) fun h=>?_
 ·refine sqR<|qkMove rfl<|aA (bR rfl) rfl<|qkFld rfl<|qkFld rfl<|aA (dR rfl (aB.fact 0 rfl) rfl rfl rfl) rfl<|qkMove rfl<|ckE h fun n h=>aA (a_ rfl rfl (aB.fact 3 rfl) rfl rfl n) rfl<|aA (bV rfl (aB.fact 3 rfl) rfl rfl rfl eD n) rfl<|qkAsg rfl<|dtN<|aQ<|bQ<|aJ ?_
  cases h
  exact lC rfl
 refine sqR<|qkEql rfl<|qkAsg rfl<|dtN ?_
 refine eT h rfl (fun h=>?_) fun h=>?_
 ·refine sqR<|qkMove rfl<|aA (bR rfl) rfl<|qkFld rfl<|qkFld rfl<|aA (dR rfl (aB.fact 0 rfl) rfl rfl rfl) rfl<|qkMove rfl<|ckE h fun j h=>aA (cY rfl rfl (aB.fact 4 rfl) rfl rfl j) rfl<|aA (cW rfl (aB.fact 4 rfl) rfl rfl j) rfl<|aA (fR rfl (aB.el (aB.fact 4 rfl) j.1 j.2) rfl) rfl<|qkAsg rfl<|dtN<|aQ<|bQ<|aJ ?_
  cases h
  exact lC rfl
 refine sqR<|qkEql rfl<|qkAsg rfl<|dtN ?_
 refine eT h rfl (fun h=>?_) fun h=>?_
 ·refine sqR<|qkMove rfl<|qkEql rfl<|bnE h fun v w h=>aF (aI.callQ wU (kC U  v w) rfl .nil) rfl fun y=>qkAsg rfl<|dtN<|aQ<|bQ<|aJ ?_
  cases h
  exact lC rfl
 refine sqR<|qkEql rfl<|qkAsg rfl<|dtN ?_
 refine eT h rfl (fun h=>?_) fun h=>?_
 ·refine sqR<|qkMove rfl<|qkAsg rfl<|dtN<|aQ<|bQ<|aJ ?_
  cases h
  exact lC rfl
 refine dQ<|inT<|sqR<|qkMove rfl<|aA (bR rfl) rfl<|qkFld rfl<|qkFld rfl<|aA (dR rfl (aB.fact 0 rfl) rfl rfl rfl) rfl<|qkMove rfl<|ckE h fun a h=>aA (cY rfl rfl (aB.fact 4 rfl) rfl rfl a) rfl<|aA (cW rfl (aB.fact 4 rfl) rfl rfl a) rfl<|qkMove rfl<|ckE h fun f h=>aA (a_ rfl rfl (aB.el (aB.fact 4 rfl) a.1 a.2) rfl rfl f) rfl<|aA (iA (cs:=[vI ((at' (at' p0.2.1.2 p2) p3).1),vI ((at' (at' p0.2.1.2 p2) p3).2)]) rfl (aB.el (aB.fact 4 rfl) a.1 a.2) bN rfl rfl rfl rfl f) rfl<|aF (aI.alloc (cs:=QK) rfl rfl) rfl fun u=>bE 0 (vs:=[vI ((at' (at' p0.2.1.2 p2) p3).1),vI ((at' (at' p0.2.1.2 p2) p3).2)]) rfl rfl rfl rfl rfl rfl<|dtN<|aG<|sqR<|qkMove rfl<|dtN<|aN<|sqR<|qkEql rfl<|qkAsg rfl<|dtN ?_
 refine eT h rfl (fun h=>?_) fun h=>?_
 ·refine aG ?_
  refine JR.start [0,1,3,7,15,0,32,127,255,511] 7 mixedOrders (by decide +kernel) ?_
  refine JR.open (by exact rfl) ?_
  refine jkMove rfl<|jqN rfl (bR rfl)<|jkFld rfl<|jkFld rfl<|bG rfl .nil (lX 0 rfl) (dR rfl (aB.fact 0 rfl) rfl rfl rfl) aK.z<|jkFld rfl<|jkLd 0 rfl<|bD 7 rfl rfl<|ckE h fun g h=>aA (a_ rfl rfl (aB.fact 3 rfl) rfl rfl g) rfl<|aA (bV rfl (aB.fact 3 rfl) rfl rfl rfl eD g) rfl<|qkAsg rfl<|dtN<|aQ<|bQ<|aJ ?_
  cases h
  exact wN rfl
 refine sqR<|qkEql rfl<|qkAsg rfl<|dtN ?_
 refine eT h rfl (fun h=>?_) fun h=>?_
 ·refine aG ?_
  refine JR.start [0,1,3,7,15,0,32,127,255,511,1023] 7 mixedOrders (by decide +kernel) ?_
  refine JR.open (by exact rfl) ?_
  refine jkMove rfl<|jqN rfl (bR rfl)<|jkFld rfl<|jkFld rfl<|bG rfl .nil (lX 0 rfl) (dR rfl (aB.fact 0 rfl) rfl rfl rfl) aK.z<|jkFld rfl<|jkLd 0 rfl<|bD 7 rfl rfl<|ckE h fun d h=>aA (cY rfl rfl (aB.fact 4 rfl) rfl rfl d) rfl<|aA (cW rfl (aB.fact 4 rfl) rfl rfl d) rfl<|aA (fR rfl (aB.el (aB.fact 4 rfl) d.1 d.2) rfl) rfl<|qkAsg rfl<|dtN<|aQ<|bQ<|aJ ?_
  cases h
  exact wN rfl
 refine sqR<|qkEql rfl<|qkAsg rfl<|dtN ?_
 refine eT h rfl (fun h=>?_) fun h=>?_
 ·refine sqR<|qkFld rfl<|qkLd 0 rfl<|qkEql rfl<|bnE h fun k m h=>aF (aI.callQ wU (kC U  k m) rfl .nil) rfl fun A=>qkAsg rfl<|dtN<|aQ<|bQ<|aJ ?_
  cases h
  exact wN rfl
 refine sqR<|qkEql rfl<|qkAsg rfl<|dtN ?_
 refine eT h rfl (fun h=>?_) fun h=>?_
 ·refine sqR<|qkFld rfl<|qkLd 0 rfl<|qkAsg rfl<|dtN<|aQ<|bQ<|aJ ?_
  cases h
  exact wN rfl
 refine dQ<|inT<|sqR<|qkMove rfl<|aA (bR rfl) rfl<|qkFld rfl<|aA (dR rfl (aB.fact 0 rfl) rfl rfl rfl) rfl<|qkMove rfl<|ckE h fun b h=>aA (cY rfl rfl (aB.fact 5 rfl) rfl rfl b) rfl<|aA (cW rfl (aB.fact 5 rfl) rfl rfl b) rfl<|qkMove rfl<|ckE h fun i h=>aA (a_ rfl rfl (aB.el (aB.fact 5 rfl) b.1 b.2) rfl rfl i) rfl<|aA (bV rfl (aB.el (aB.fact 5 rfl) b.1 b.2) rfl rfl rfl eD i) rfl<|qkAsg rfl<|dtN<|aQ ?_
 cases h
 exact wN rfl
end
section
def lA (U:Nat) (p0:LG) (p1:eK) (p2:Int):Option (Int):=
 if p1.1=(1:Int)then(some (p1.2))else(if p1.1=(2:Int)then(some (1:Int))else(if p1.1=(3:Int)then(some (0:Int))else(if p1.1=(4:Int)then(some (-1:Int))else(if p1.1=(5:Int)then(ck (0<=p0.2.2.1∧p0.2.2.1<(List.length p0.2.1:Int)) (ck (0<=p1.2∧p1.2<(List.length (at' p0.2.1 p0.2.2.1):Int)) (some (at' (at' p0.2.1 p0.2.2.1) p1.2))))else(if p1.1=(12:Int)then(ck (0<=p0.2.2.1∧p0.2.2.1<(List.length p0.1.2.1.2:Int)) (ck (0<=p2∧p2<(List.length (at' p0.1.2.1.2 p0.2.2.1):Int)) (ck (0<=((at' (at' p0.1.2.1.2 p0.2.2.1) p2).1)∧((at' (at' p0.1.2.1.2 p0.2.2.1) p2).1)<(List.length p0.2.1:Int)) (ck (0<=p1.2∧p1.2<(List.length (at' p0.2.1 ((at' (at' p0.1.2.1.2 p0.2.2.1) p2).1)):Int)) (some (at' (at' p0.2.1 ((at' (at' p0.1.2.1.2 p0.2.2.1) p2).1)) p1.2))))))else(Option.bind (rB U ((((p0.1.1.1,p0.1.1.2.1,p0.1.1.2.2)),((p0.1.2.1.1,p0.1.2.1.2)),p0.1.2.2.1,p0.1.2.2.2)) p1.1 p0.2.2.1 p2) fun a=>(some (a))))))))
theorem WL:aP Tryz.prog 233:=Tryz.call233
theorem Dk (U:Nat) {p0:LG} {p1:eK} {p2:Int} (f:Nat)  (d:Nat)  (m:Value)  (n:Value)  (o:Value)  (p:Value)  (w:lW)  (q:Value)  (y:oC)  (v:Value)  (t:oC)  (j:Value) (r:Int) (h:lA U p0 p1 p2=some r):
  aU Tryz.prog 233 #[vP f,Value.agg #[vI (p1.1),vI (p1.2)],vI (p2)] [bL f [vP d,v,vI (p0.2.2.1),j] 262,bL d [vS (p0.1.1.1),m,n,o,p,vI (p0.1.2.2.1),q] 218,Sl aH m p0.1.1.2.1,Sl aE n p0.1.1.2.2,Sl bI o p0.1.2.1.1,S2 aY p w p0.1.2.1.2,S2 bI q y p0.1.2.2.2,S2 bI v t p0.2.1,Sl aY j p0.2.2.2] (fun x:Unit=>vI (r)) (fun x l=>l) (fun _ l=>l):=by
 refine aU.of Tryz.func233 rfl Tryz.ntmps233 rfl fun c=>?_
 refine sqR<|aF (aI.box (cs:=[vI (p1.1),vI (p1.2)]) rfl rfl) rfl fun B=>qkAsg rfl<|dtN<|aG<|sqR<|qkFld rfl<|qkLd 0 rfl<|dtN<|aN<|sqR<|qkEql rfl<|qkAsg rfl<|dtN ?_
 refine eT h rfl (fun h=>?_) fun h=>?_
 ·refine sqR<|qkFld rfl<|qkLd 0 rfl<|qkAsg rfl<|dtN<|aQ<|bQ<|aJ ?_
  cases h
  exact wN rfl
 refine sqR<|qkEql rfl<|qkAsg rfl<|dtN ?_
 refine eT h rfl (fun h=>?_) fun h=>?_
 ·refine sqR<|qkAsg rfl<|dtN<|aQ<|bQ<|aJ ?_
  cases h
  exact wN rfl
 refine sqR<|qkEql rfl<|qkAsg rfl<|dtN ?_
 refine eT h rfl (fun h=>?_) fun h=>?_
 ·refine sqR<|qkAsg rfl<|dtN<|aQ<|bQ<|aJ ?_
  cases h
  exact wN rfl
 refine sqR<|qkEql rfl<|qkAsg rfl<|dtN ?_
 refine eT h rfl (fun h=>?_) fun h=>?_
 ·refine sqR<|qkAsg rfl<|dtN<|aQ<|bQ<|aJ ?_
  cases h
  exact wN rfl
 refine sqR<|qkEql rfl<|qkAsg rfl<|dtN ?_
 refine eT h rfl (fun h=>?_) fun h=>?_
 ·refine aG ?_
  refine JR.start [0,1,3,7,0,16,48,112,255,511,0,1024,4095,8191,16383] 12 mixedOrders (by decide +kernel) ?_
  refine JR.open (by exact rfl) ?_
  refine jkMove rfl<|jqN rfl (bR rfl)<|jkFld rfl<|bG rfl .nil (lX 0 rfl) (dR rfl (aB.fact 0 rfl) rfl rfl rfl) aK.z<|jkMove rfl<|jqN rfl (bR rfl)<|jkFld rfl<|bG rfl .nil (lX 0 rfl) (dR rfl (aB.fact 0 rfl) rfl rfl rfl) aK.z<|ckE h fun e h=>bG rfl .nil (lX 7 rfl) (cY rfl rfl (aB.fact 0 rfl) rfl rfl e) aK.z<|bG rfl .nil (lX 7 rfl) (cW rfl (aB.fact 0 rfl) rfl rfl e) aK.z<|jkFld rfl<|jkLd 0 rfl<|bD 12 rfl rfl<|ckE h fun u h=>aA (a_ rfl rfl (aB.el (aB.fact 7 rfl) e.1 e.2) rfl rfl u) rfl<|aA (bV rfl (aB.el (aB.fact 7 rfl) e.1 e.2) rfl rfl rfl eD u) rfl<|qkAsg rfl<|dtN<|aQ<|bQ<|aJ ?_
  cases h
  exact wN rfl
 refine sqR<|qkEql rfl<|qkAsg rfl<|dtN ?_
 refine eT h rfl (fun h=>?_) fun h=>?_
 ·refine aG ?_
  refine JR.start [0,1,3,7,0,16,48,112,240,496,1008,2032,0,4096,12288,28672,65520,131056,0,524272,1048560,2097136,4194303,8388607,0,16777216,67108863,134217727,268435455] 26 mixedOrders (by decide +kernel) ?_
  refine JR.open (by exact rfl) ?_
  refine jkMove rfl<|jqN rfl (bR rfl)<|jkFld rfl<|bG rfl .nil (lX 0 rfl) (dR rfl (aB.fact 0 rfl) rfl rfl rfl) aK.z<|jkMove rfl<|jqN rfl (bR rfl)<|jkFld rfl<|bG rfl .nil (lX 0 rfl) (dR rfl (aB.fact 0 rfl) rfl rfl rfl) aK.z<|jqN rfl (bR rfl)<|jkFld rfl<|jkFld rfl<|bG rfl .nil (lX 1 rfl) (dR rfl (aB.fact 0 rfl) rfl rfl rfl) aK.z<|jkMove rfl<|jqN rfl (bR rfl)<|jkFld rfl<|bG rfl .nil (lX 0 rfl) (dR rfl (aB.fact 0 rfl) rfl rfl rfl) aK.z<|ckE h fun a h=>bG rfl .nil (lX 5 rfl) (cY rfl rfl (aB.fact 0 rfl) rfl rfl a) aK.z<|bG rfl .nil (lX 5 rfl) (cW rfl (aB.fact 0 rfl) rfl rfl a) aK.z<|jkMove rfl<|ckE h fun g h=>bG rfl .nil (lX 5 rfl) (a_ rfl rfl (aB.el (aB.fact 0 rfl) a.1 a.2) rfl rfl g) aK.z<|jqN rfl (oO rfl rfl rfl rfl rfl)<|bG rfl .nil (lX 5 rfl) (qN rfl (aB.el (aB.fact 0 rfl) a.1 a.2) rfl rfl rfl A_ g) aK.z<|ckE h fun b h=>bG rfl .nil (lX 7 rfl) (cY rfl rfl (aB.fact 0 rfl) rfl rfl b) aK.z<|bG rfl .nil (lX 7 rfl) (cW rfl (aB.fact 0 rfl) rfl rfl b) aK.z<|jkFld rfl<|jkLd 0 rfl<|bD 26 rfl rfl<|ckE h fun i h=>aA (a_ rfl rfl (aB.el (aB.fact 7 rfl) b.1 b.2) rfl rfl i) rfl<|aA (bV rfl (aB.el (aB.fact 7 rfl) b.1 b.2) rfl rfl rfl eD i) rfl<|qkAsg rfl<|dtN<|aQ<|bQ<|aJ ?_
  cases h
  exact wN rfl
 refine dQ<|inT<|aG ?_
 refine JR.start [0,1,3,7,0,16,0,64,192,448,0,2047,4095] 11 mixedOrders (by decide +kernel) ?_
 refine JR.open (by exact rfl) ?_
 refine jkMove rfl<|jqN rfl (bR rfl)<|jkFld rfl<|bG rfl .nil (lX 0 rfl) (dR rfl (aB.fact 0 rfl) rfl rfl rfl) aK.z<|jkFld rfl<|jkLd 0 rfl<|jkMove rfl<|jqN rfl (bR rfl)<|jkFld rfl<|bG rfl .nil (lX 0 rfl) (dR rfl (aB.fact 0 rfl) rfl rfl rfl) aK.z<|jkMove rfl<|bD 11 rfl rfl<|bnE h fun k s h=>aF (aI.callQ WO (Cv U d m n o p w q y k s) rfl (lK [1,2,3,4,5,6] rfl)) rfl fun A=>qkAsg rfl<|dtN<|aQ ?_
 cases h
 exact wN rfl
end
section
def yN (U:Nat) (p0:Int) (p1:Int):Option (Int):=
 if p0=(18:Int)then(some (wI .i64 (0 - p1)))else(Option.bind (hZ U (decide (p1=(0:Int)))) fun a=>(some (a)))
theorem WM:aP Tryz.prog 234:=Tryz.call234
theorem LA (U:Nat) {p0:Int} {p1:Int} (r:Int) (h:yN U p0 p1=some r):
  aU Tryz.prog 234 #[vI (p0),vI (p1)] [] (fun x:Unit=>vI (r)) (fun x l=>l) (fun _ l=>l):=by
 refine aU.of Tryz.func234 rfl Tryz.ntmps234 rfl fun c=>?_
 refine sqR<|qkAsg rfl<|dtN<|aG<|sqR<|qkMove rfl<|qkEql rfl<|dtN ?_
 refine eT h rfl (fun h=>?_) fun h=>?_
 ·refine sqR<|qkMove rfl<|aA (Pt rfl) rfl<|qkAsg rfl<|dtN<|aQ<|aJ ?_
  cases h
  exact lC rfl
 refine cJ<|sqR<|qkMove rfl<|qkEql rfl<|bnE h fun a b h=>aF (aI.callQ wU (kC U  a b) rfl .nil) rfl fun d=>qkAsg rfl<|dtN<|aQ ?_
 cases h
 exact lC rfl
end
section
def iM (U:Nat) (p0:Int):Option (Int):=
 some (max (-1073741824:Int) (min p0 (1073741824:Int)))
theorem CQ:aP Tryz.prog 258:=Tryz.call258
theorem lV (U:Nat) {p0:Int} (r:Int) (h:iM U p0=some r):
  aU Tryz.prog 258 #[vI (p0)] [] (fun x:Unit=>vI (r)) (fun x l=>l) (fun _ l=>l):=by
 refine aU.of Tryz.func258 rfl Tryz.ntmps258 rfl fun c=>?_
 unfold iM at h
 refine sqR<|qkAsg rfl<|dtN<|sqR<|qkMove rfl<|aA (Yf rfl rfl) rfl<|aA (HK rfl rfl) rfl<|qkAsg rfl<|dtN<|aQ ?_
 cases h
 exact lC rfl
end
section
def oW  (a:Int):Option (Int):=
 some (a)
def rU (p0:Int) (p1:Int) (a:Bool):Option (Int):=
 if a=true then(oW  (wI .i64 ((wI .i64 (Int.tdiv p0 p1)) - (1:Int))))else(oW  (wI .i64 (Int.tdiv p0 p1)))
def qB (U:Nat) (p0:Int) (p1:Int):Option (Int):=
 if p1=(0:Int)then(some (0:Int))else(ck (p1≠0) (ck (p1≠0) (if(Int.tmod p0 p1)≠(0:Int)then(rU p0 p1 (((decide (p0<(0:Int))) != (decide (p1<(0:Int))))))else(rU p0 p1 (false)))))
theorem PL:aP Tryz.prog 259:=Tryz.call259
theorem BM (U:Nat) {p0:Int} {p1:Int} (r:Int) (h:qB U p0 p1=some r):
  aU Tryz.prog 259 #[vI (p0),vI (p1)] [] (fun x:Unit=>vI (r)) (fun x l=>l) (fun _ l=>l):=by
 refine aU.of Tryz.func259 rfl Tryz.ntmps259 rfl fun c=>?_
 refine sqR<|qkAsg rfl<|dtN<|aG<|sqR<|qkMove rfl<|qkEql rfl<|dtN ?_
 refine eT h rfl (fun h=>?_) fun h=>?_
 ·refine sqR<|qkAsg rfl<|dtN<|aQ<|aJ ?_
  cases h
  exact lC rfl
 refine cJ<|sqR<|qkMove rfl<|qkMove rfl<|ckE h fun j2 h=>aA (Tc rfl rfl j2) rfl<|qkAsg rfl<|dtN<|aG<|midU (fun a4=>oW  a4=some r) (fun a4 b5=>[(5,vI (a4))]) (fun a4 b5=>[]) ?_ ?_
 ·refine aG<|midU (fun a7=>rU p0 p1 a7=some r) (fun a7 b8=>[(5,vI (wI .i64 (Int.tdiv p0 p1))),(21,vB (a7))]) (fun a7 b8=>[]) ?_ ?_
  ·refine aM<|qkMove rfl<|qkMove rfl<|ckE h fun j10 h=>aA (Ms rfl rfl j10) rfl<|qkNeq rfl<|qkMove rfl ?_
   refine BS h rfl (fun _ h=>?_) fun _ h=>?_
   ·refine gyMove rfl<|aS rfl (Cg rfl rfl) rfl<|gyMove rfl<|aS rfl (Cg rfl rfl) rfl<|aS rfl (Ta rfl rfl rfl) rfl<|qkPkT rfl<|dtN ?_
    exact gR (((decide (p0<(0:Int))) != (decide (p1<(0:Int))))) () h SF rfl
   refine gdSkip rfl<|gdSkip rfl<|gdSkip rfl<|gdSkip rfl<|gdSkip rfl<|qkPkF rfl<|dtN ?_
   exact gR (false) () h SF rfl
  intro a7 b8 h
  refine AG h rfl (fun _ h=>?_) fun _ h=>?_
  ·refine aM<|qkMove rfl<|aA (pO rfl rfl) rfl<|qkAsg rfl<|dtN ?_
   exact gR (wI .i64 ((wI .i64 (Int.tdiv p0 p1)) - (1:Int))) () h SF rfl
  refine cJ ?_
  exact gR (wI .i64 (Int.tdiv p0 p1)) () h SF rfl
 intro a4 b5 h
 unfold oW at h
 refine sqR<|qkMove rfl<|qkAsg rfl<|dtN<|aQ ?_
 cases h
 exact lC rfl
end
section
def tS (U:Nat) (p0:Int) (p1:Int) (p2:Int):Option (Bool):=
 if p0=(35:Int)then(some (decide (p1=p2)))else(if p0=(36:Int)then(some (decide (p1≠p2)))else(if p0=(37:Int)then(some (decide (p1<p2)))else(if p0=(38:Int)then(some (decide (p1<=p2)))else(if p0=(39:Int)then(some (decide (p2<p1)))else(some (decide (p2<=p1)))))))
theorem WQ:aP Tryz.prog 260:=Tryz.call260
theorem GM (U:Nat) {p0:Int} {p1:Int} {p2:Int} (r:Bool) (h:tS U p0 p1 p2=some r):
  aU Tryz.prog 260 #[vI (p0),vI (p1),vI (p2)] [] (fun x:Unit=>vB (r)) (fun x l=>l) (fun _ l=>l):=by
 refine aU.of Tryz.func260 rfl Tryz.ntmps260 rfl fun c=>?_
 refine sqR<|qkAsg rfl<|dtN<|aG<|sqR<|qkMove rfl<|dtN<|aN<|sqR<|qkEql rfl<|qkAsg rfl<|dtN ?_
 refine eT h rfl (fun h=>?_) fun h=>?_
 ·refine sqR<|qkMove rfl<|qkMove rfl<|qkEql rfl<|qkAsg rfl<|dtN<|aQ<|bQ<|aJ ?_
  cases h
  exact lC rfl
 refine sqR<|qkEql rfl<|qkAsg rfl<|dtN ?_
 refine eT h rfl (fun h=>?_) fun h=>?_
 ·refine sqR<|qkMove rfl<|qkMove rfl<|qkNeq rfl<|qkAsg rfl<|dtN<|aQ<|bQ<|aJ ?_
  cases h
  exact lC rfl
 refine sqR<|qkEql rfl<|qkAsg rfl<|dtN ?_
 refine eT h rfl (fun h=>?_) fun h=>?_
 ·refine sqR<|qkMove rfl<|qkMove rfl<|qkLss rfl<|qkAsg rfl<|dtN<|aQ<|bQ<|aJ ?_
  cases h
  exact lC rfl
 refine sqR<|qkEql rfl<|qkAsg rfl<|dtN ?_
 refine eT h rfl (fun h=>?_) fun h=>?_
 ·refine sqR<|qkMove rfl<|qkMove rfl<|aA (zY rfl rfl) rfl<|qkAsg rfl<|dtN<|aQ<|bQ<|aJ ?_
  cases h
  exact lC rfl
 refine sqR<|qkEql rfl<|qkAsg rfl<|dtN ?_
 refine eT h rfl (fun h=>?_) fun h=>?_
 ·refine sqR<|qkMove rfl<|qkMove rfl<|aA (vR rfl rfl) rfl<|qkAsg rfl<|dtN<|aQ<|bQ<|aJ ?_
  cases h
  exact lC rfl
 refine dQ<|inT<|sqR<|qkMove rfl<|qkMove rfl<|aA (Ce rfl rfl) rfl<|qkAsg rfl<|dtN<|aQ ?_
 cases h
 exact lC rfl
end
section
def oU  (a:Int):Option (Int):=
 some (a)
def oV  (a:Int):Option (Int):=
 some (a)
def wY (U:Nat) (p0:Int) (p1:Int) (p2:Int):Option (Int):=
 if p0=(30:Int)then(Option.bind (iM U (wI .i64 (p1*p2))) fun k=>(some (k)))else(if p0=(31:Int)then(Option.bind (qB U p1 p2) fun l=>(Option.bind (iM U l) fun m=>(some (m))))else(if p0=(32:Int)then(if p2=(0:Int)then(some (0:Int))else(Option.bind (qB U p1 p2) fun a=>(Option.bind (iM U (wI .i64 (p1 - (wI .i64 (p2*a))))) fun b=>(some (b)))))else(if p0=(33:Int)then(Option.bind (iM U (wI .i64 (p1+p2))) fun c=>(some (c)))else(if p0=(34:Int)then(Option.bind (iM U (wI .i64 (p1 - p2))) fun d=>(some (d)))else(if p0=(41:Int)then(if p1≠(0:Int)then(Option.bind (hZ U (decide (p2≠(0:Int)))) fun e=>(oU  (e)))else(Option.bind (hZ U false) fun f=>(oU  (f))))else(if p0=(42:Int)then(if p1≠(0:Int)then(Option.bind (hZ U true) fun g=>(oV  (g)))else(Option.bind (hZ U (decide (p2≠(0:Int)))) fun h=>(oV  (h))))else(Option.bind (tS U p0 p1 p2) fun i=>(Option.bind (hZ U i) fun j=>(some (j))))))))))
theorem WN:aP Tryz.prog 236:=Tryz.call236
theorem Jo (U:Nat) {p0:Int} {p1:Int} {p2:Int} (r:Int) (h:wY U p0 p1 p2=some r):
  aU Tryz.prog 236 #[vI (p0),vI (p1),vI (p2)] [] (fun x:Unit=>vI (r)) (fun x l=>l) (fun _ l=>l):=by
 refine aU.of Tryz.func236 rfl Tryz.ntmps236 rfl fun c=>?_
 refine sqR<|qkAsg rfl<|dtN<|aG<|sqR<|qkMove rfl<|dtN<|aN<|sqR<|qkEql rfl<|qkAsg rfl<|dtN ?_
 refine eT h rfl (fun h=>?_) fun h=>?_
 ·refine sqR<|qkMove rfl<|qkMove rfl<|aA (Be rfl rfl) rfl<|bnE h fun r2 w3 h=>aF (aI.callQ CQ (lV U  r2 w3) rfl .nil) rfl fun x4=>qkAsg rfl<|dtN<|aQ<|bQ<|aJ ?_
  cases h
  exact lC rfl
 refine sqR<|qkEql rfl<|qkAsg rfl<|dtN ?_
 refine eT h rfl (fun h=>?_) fun h=>?_
 ·refine sqR<|qkMove rfl<|qkMove rfl<|bnE h fun r6 w7 h=>aF (aI.callQ PL (BM U  r6 w7) rfl .nil) rfl fun x8=>bnE h fun r9 w10 h=>aF (aI.callQ CQ (lV U  r9 w10) rfl .nil) rfl fun x11=>qkAsg rfl<|dtN<|aQ<|bQ<|aJ ?_
  cases h
  exact lC rfl
 refine sqR<|qkEql rfl<|qkAsg rfl<|dtN ?_
 refine eT h rfl (fun h=>?_) fun h=>?_
 ·refine aG<|sqR<|qkMove rfl<|qkEql rfl<|dtN ?_
  refine eT h rfl (fun h=>?_) fun h=>?_
  ·refine sqR<|qkAsg rfl<|dtN<|aQ<|aJ<|bQ<|aJ ?_
   cases h
   exact lC rfl
  refine cJ<|sqR<|qkMove rfl<|qkMove rfl<|qkMove rfl<|qkMove rfl<|bnE h fun r14 w15 h=>aF (aI.callQ PL (BM U  r14 w15) rfl .nil) rfl fun x16=>aA (Be rfl rfl) rfl<|aA (pO rfl rfl) rfl<|bnE h fun r17 w18 h=>aF (aI.callQ CQ (lV U  r17 w18) rfl .nil) rfl fun x19=>qkAsg rfl<|dtN<|aQ<|bQ<|aJ ?_
  cases h
  exact lC rfl
 refine sqR<|qkEql rfl<|qkAsg rfl<|dtN ?_
 refine eT h rfl (fun h=>?_) fun h=>?_
 ·refine sqR<|qkMove rfl<|qkMove rfl<|qkAdd rfl<|bnE h fun r21 w22 h=>aF (aI.callQ CQ (lV U  r21 w22) rfl .nil) rfl fun x23=>qkAsg rfl<|dtN<|aQ<|bQ<|aJ ?_
  cases h
  exact lC rfl
 refine sqR<|qkEql rfl<|qkAsg rfl<|dtN ?_
 refine eT h rfl (fun h=>?_) fun h=>?_
 ·refine sqR<|qkMove rfl<|qkMove rfl<|aA (pO rfl rfl) rfl<|bnE h fun r25 w26 h=>aF (aI.callQ CQ (lV U  r25 w26) rfl .nil) rfl fun x27=>qkAsg rfl<|dtN<|aQ<|bQ<|aJ ?_
  cases h
  exact lC rfl
 refine sqR<|qkEql rfl<|qkAsg rfl<|dtN ?_
 refine eT h rfl (fun h=>?_) fun h=>?_
 ·refine aG<|midU (fun a30=>oU  a30=some r) (fun a30 b31=>[(6,vI (a30))]) (fun a30 b31=>[]) ?_ ?_
  ·refine aM<|qkMove rfl<|qkNeq rfl<|qkMove rfl ?_
   refine BS h rfl (fun _ h=>?_) fun _ h=>?_
   ·refine gyMove rfl<|aS rfl (HL rfl rfl) rfl<|qkPkT rfl<|bnE h fun r33 w34 h=>aF (aI.callQ wU (kC U  r33 w34) rfl .nil) rfl fun x35=>qkAsg rfl<|dtN ?_
    exact gR (r33) () h SF rfl
   refine gdSkip rfl<|gdSkip rfl<|qkPkF rfl<|bnE h fun r36 w37 h=>aF (aI.callQ wU (kC U  r36 w37) rfl .nil) rfl fun x38=>qkAsg rfl<|dtN ?_
   exact gR (r36) () h SF rfl
  intro a30 b31 h
  unfold oU at h
  refine aQ<|bQ<|aJ ?_
  cases h
  exact lC rfl
 refine sqR<|qkEql rfl<|qkAsg rfl<|dtN ?_
 refine eT h rfl (fun h=>?_) fun h=>?_
 ·refine aG<|midU (fun a41=>oV  a41=some r) (fun a41 b42=>[(6,vI (a41))]) (fun a41 b42=>[]) ?_ ?_
  ·refine aM<|qkMove rfl<|qkNeq rfl<|qkMove rfl ?_
   refine BS h rfl (fun _ h=>?_) fun _ h=>?_
   ·refine gdSkip rfl<|gdSkip rfl<|qkPkT rfl<|bnE h fun r44 w45 h=>aF (aI.callQ wU (kC U  r44 w45) rfl .nil) rfl fun x46=>qkAsg rfl<|dtN ?_
    exact gR (r44) () h SF rfl
   refine gyMove rfl<|aS rfl (HL rfl rfl) rfl<|qkPkF rfl<|bnE h fun r47 w48 h=>aF (aI.callQ wU (kC U  r47 w48) rfl .nil) rfl fun x49=>qkAsg rfl<|dtN ?_
   exact gR (r47) () h SF rfl
  intro a41 b42 h
  unfold oV at h
  refine aQ<|bQ<|aJ ?_
  cases h
  exact lC rfl
 refine dQ<|inT<|sqR<|qkMove rfl<|qkMove rfl<|qkMove rfl<|bnE h fun r50 w51 h=>aF (aI.callQ WQ (GM U  r50 w51) rfl .nil) rfl fun x52=>bnE h fun r53 w54 h=>aF (aI.callQ wU (kC U  r53 w54) rfl .nil) rfl fun x55=>qkAsg rfl<|dtN<|aQ ?_
 cases h
 exact lC rfl
end
section
def wV  (a:Int):Option (Int):=
 some (a)
def sR (c:eK) (b:d_->Option (Int)) (a:Int):Option (Int):=
 b (a,(wI .i64 (c.2+(1:Int))))
def qH (p0:aL) (a:eK) (b:d_->Option (Int)):Option (Int):=
 if a.2<(List.length p0:Int)then(ck (0<=a.2∧a.2<(List.length p0:Int)) (if(at' p0 a.2)≠(0:Int)then(sR a b (wI .i64 (a.1+(1:Int))))else(sR a b (a.1))))else(wV  (a.1))
def pQ (U:Nat) (p0:aL):Option (Int):=
 bJ (qH p0) U ((0:Int),(0:Int))
theorem KR:aP Tryz.prog 269:=Tryz.call269
theorem BD (U:Nat) {p0:aL} (v0:Value) (r:Int) (h:pQ U p0=some r):
  aU Tryz.prog 269 #[v0] [Sl bI v0 p0] (fun x:Unit=>vI (r)) (fun x l=>l) (fun _ l=>l):=by
 refine aU.of Tryz.func269 rfl Tryz.ntmps269 rfl fun c=>?_
 unfold pQ at h
 refine sqR<|qkAsg rfl<|dtN<|sqR<|qkAsg rfl<|dtN<|aG<|midU (fun a2=>wV  a2=some r) (fun a2 b3=>[(3,vI (a2))]) (fun a2 b3=>[]) ?_ ?_
 ·refine sqR<|qkMove rfl<|qkLen (aB.fact 0 rfl) rfl<|qkMove rfl<|dtN<|aN<|loopL (qH p0) (fun a7 b8=>[(3,vI (a7.1)),(6,v0),(7,vI (List.length p0:Int)),(8,vI (a7.2))]) (fun a7 b8=>[]) ((0:Int),(0:Int)) () h SF (aR.refl _) ?_
  intro k9 a7 b8 h
  refine sqR<|qkLss rfl<|dtN<|aG ?_
  refine eT h rfl (fun h=>?_) fun h=>?_
  ·refine cJ<|aG<|midU (fun a12=>sR a7 (bJ (qH p0) k9) a12=some r) (fun a12 b13=>[(3,vI (a12)),(6,v0),(7,vI (List.length p0:Int)),(8,vI (a7.2))]) (fun a12 b13=>[]) ?_ ?_
   ·refine aN<|sqR<|ckE h fun j14 h=>aA (a_ rfl rfl (aB.fact 0 rfl) rfl rfl j14) rfl<|aA (bV rfl (aB.fact 0 rfl) rfl rfl rfl eD j14) rfl<|qkAsg rfl<|dtN<|sqR<|qkMove rfl<|qkNeq rfl<|dtN ?_
    refine eT h rfl (fun h=>?_) fun h=>?_
    ·refine aM<|qkMove rfl<|qkAdd rfl<|qkAsg rfl<|dN<|inT ?_
     exact gR (wI .i64 (a7.1+(1:Int))) () h SF rfl
    refine dQ<|inT ?_
    exact gR (a7.1) () h SF rfl
   intro a12 b13 h
   unfold sR at h
   refine aM<|qkAdd rfl<|qkMove rfl<|dtN ?_
   exact yX (a12,(wI .i64 (a7.2+(1:Int)))) () h SF rfl
  refine fM ?_
  exact gR (a7.1) () h SF rfl
 intro a2 b3 h
 unfold wV at h
 refine sqR<|qkMove rfl<|qkAsg rfl<|dtN<|aQ ?_
 cases h
 exact lC rfl
end
section
def oJ  (a:Unit):Option (Int):=
 some (-1:Int)
def fD (p0:aL) (d:Int->Option Bool) (a:Int) (b:(Int)->Option (Int)):Option (Int):=
 if a<(List.length p0:Int)then(ck (0<=a∧a<(List.length p0:Int)) (Option.bind (d (at' p0 a)) fun c=>(if c=true then(some (a))else(b (wI .i64 (a+(1:Int)))))))else(oJ  (()))
def mI (U:Nat) (p0:aL) (a:Int->Option Bool):Option (Int):=
 bJ (fD p0 a) U (0:Int)
theorem WR:aP Tryz.prog 270:=Tryz.call270
theorem Eh (U:Nat) {p0:aL} {g1:Int->Option Bool} (f1:FuncId) (cs1:eV) (Lf:List aX) (hb_g1:aP Tryz.prog f1) (hm_g1:∀(y0:Int) (r:Bool),g1 y0=some r->aU Tryz.prog f1 ([vI (y0)]++cs1).toArray Lf (fun _:Unit=>vB (r)) (fun _ l=>l) (fun _ l=>l)) (v0:Value) (r:Int) (h:mI U p0 g1=some r):
  aU Tryz.prog 270 #[v0,Value.func (.func f1) #[] (cs1).toArray] ([Sl bI v0 p0]++Lf) (fun x:Unit=>vI (r)) (fun x l=>l) (fun _ l=>l):=by
 refine aU.of Tryz.func270 rfl Tryz.ntmps270 rfl fun c=>?_
 unfold mI at h
 refine sqR<|qkAsg rfl<|dtN<|aG<|xQ (B:=Unit) (fun a1=>oJ  a1=some r) (fun a1 b2=>[]) (fun a1 b2=>[]) (fun a1 b2=>([Sl bI v0 p0]++Lf)) ?_ ?_
 ·refine sqR<|qkMove rfl<|qkLen (aB.fact 0 rfl) rfl<|qkMove rfl<|dtN<|aN<|Ep (B:=Unit) (fD p0 g1) (fun a5 b6=>[(0,v0),(1,Value.func (.func f1) #[] (cs1).toArray),(7,vI (List.length p0:Int)),(8,vI (a5))]) (fun a5 b6=>[]) (fun a5 b6=>([Sl bI v0 p0]++Lf)) (0:Int) () h SF (aR.refl _) (aD.refl _ _) ?_
  intro k7 a5 b6 h
  refine sqR<|qkLss rfl<|dtN<|aG ?_
  refine eT h rfl (fun h=>?_) fun h=>?_
  ·refine cJ<|aG<|aN<|sqR<|qkMove rfl<|qkAsg rfl<|dtN<|sqR<|qkMove rfl<|qkMove rfl<|qkMove rfl<|ckE h fun j9 h=>aA (a_ rfl rfl (aB.fact 0 rfl) rfl rfl j9) rfl<|aA (bV rfl (aB.fact 0 rfl) rfl rfl rfl eD j9) rfl<|bnE h fun r10 w11 h=>aF (qU (vs:=[vI (at' p0 a5)]) (cs:=cs1) hb_g1 rfl (hm_g1 (at' p0 a5) r10 w11) rfl (aD.tail _) (fun _ _=>rfl)) rfl fun x12=>dtN ?_
   refine AG h rfl (fun _ h=>?_) fun _ h=>?_
   ·refine sqR<|qkMove rfl<|qkAsg rfl<|dtN<|aQ<|bQ<|aJ<|aJ<|bQ<|aJ ?_
    cases h
    exact lC rfl
   refine dQ<|inT<|aM<|qkAdd rfl<|qkMove rfl<|dtN ?_
   exact yX (wI .i64 (a5+(1:Int))) () h SF rfl
  refine fM ?_
  exact gR () (()) h SF rfl
 intro a1 b2 h
 unfold oJ at h
 refine sqR<|qkAsg rfl<|dtN<|aQ ?_
 cases h
 exact lC rfl
end
section
def n_ (U:Nat) (p0:Int):Option (Bool):=
 some (decide (p0≠(0:Int)))
theorem WS:aP Tryz.prog 271:=Tryz.call271
theorem Jp (U:Nat) {p0:Int} (r:Bool) (h:n_ U p0=some r):
  aU Tryz.prog 271 #[vI (p0)] [] (fun x:Unit=>vB (r)) (fun x l=>l) (fun _ l=>l):=by
 refine aU.of Tryz.func271 rfl Tryz.ntmps271 rfl fun c=>?_
 unfold n_ at h
 refine sqR<|qkAsg rfl<|dtN<|sqR<|qkMove rfl<|qkNeq rfl<|qkAsg rfl<|dtN<|aQ ?_
 cases h
 exact lC rfl
end
section
def sM  (a:eK):Option d_:=
 some (a.1,a.2)
def oI (c:Int×Int×Int) (b:(Int×Int×Int)->Option d_) (a:eK):Option d_:=
 b (a.1,a.2,(wI .i64 (c.2.2+(1:Int))))
def sN (p0:aL) (a:Int×Int×Int) (b:(Int×Int×Int)->Option d_):Option d_:=
 if a.2.2<(List.length p0:Int)then(ck (0<=a.2.2∧a.2.2<(List.length p0:Int)) (if a.1<(at' p0 a.2.2)then(oI a b ((at' p0 a.2.2),a.1))else(oI a b (a.1,(max a.2.1 (at' p0 a.2.2))))))else(sM  (a.1,a.2.1))
def pR (U:Nat) (p0:aL):Option d_:=
 bJ (sN p0) U ((-1073741824:Int),(-1073741824:Int),(0:Int))
theorem PM:aP Tryz.prog 272:=Tryz.call272
theorem zN (U:Nat) {p0:aL} (v0:Value) (r:eK) (h:pR U p0=some r):
  aU Tryz.prog 272 #[v0] [Sl bI v0 p0] (fun x:Unit=>Value.tuple #[vI (r.1),vI (r.2)]) (fun x l=>l) (fun _ l=>l):=by
 refine aU.of Tryz.func272 rfl Tryz.ntmps272 rfl fun c=>?_
 unfold pR at h
 refine sqR<|qkAsg rfl<|qkAsg rfl<|dtN<|sqR<|qkAsg rfl<|qkAsg rfl<|dtN<|aG<|midU (fun a3=>sM  a3=some r) (fun a3 b4=>[(2,vI (a3.1)),(3,vI (a3.2))]) (fun a3 b4=>[]) ?_ ?_
 ·refine sqR<|qkMove rfl<|qkLen (aB.fact 0 rfl) rfl<|qkMove rfl<|dtN<|aN<|loopL (sN p0) (fun a9 b10=>[(2,vI (a9.1)),(3,vI (a9.2.1)),(6,v0),(7,vI (List.length p0:Int)),(8,vI (a9.2.2))]) (fun a9 b10=>[]) ((-1073741824:Int),(-1073741824:Int),(0:Int)) () h SF (aR.refl _) ?_
  intro k11 a9 b10 h
  refine sqR<|qkLss rfl<|dtN<|aG ?_
  refine eT h rfl (fun h=>?_) fun h=>?_
  ·refine cJ<|aG<|midU (fun a15=>oI a9 (bJ (sN p0) k11) a15=some r) (fun a15 b16=>[(2,vI (a15.1)),(3,vI (a15.2)),(6,v0),(7,vI (List.length p0:Int)),(8,vI (a9.2.2))]) (fun a15 b16=>[]) ?_ ?_
   ·refine aN<|sqR<|ckE h fun j17 h=>aA (a_ rfl rfl (aB.fact 0 rfl) rfl rfl j17) rfl<|aA (bV rfl (aB.fact 0 rfl) rfl rfl rfl eD j17) rfl<|qkAsg rfl<|dtN<|sqR<|qkMove rfl<|qkMove rfl<|aA (vR rfl rfl) rfl<|dtN ?_
    refine eT h rfl (fun h=>?_) fun h=>?_
    ·refine aM<|qkMove rfl<|qkMove rfl<|qkAsg rfl<|qkAsg rfl<|dN<|inT ?_
     exact gR ((at' p0 a9.2.2),a9.1) () h SF rfl
    refine aM<|qkMove rfl<|qkMove rfl<|aA (HK rfl rfl) rfl<|qkAsg rfl<|dN<|inT ?_
    exact gR (a9.1,(max a9.2.1 (at' p0 a9.2.2))) () h SF rfl
   intro a15 b16 h
   unfold oI at h
   refine aM<|qkAdd rfl<|qkMove rfl<|dtN ?_
   exact yX (a15.1,a15.2,(wI .i64 (a9.2.2+(1:Int)))) () h SF rfl
  refine fM ?_
  exact gR (a9.1,a9.2.1) () h SF rfl
 intro a3 b4 h
 unfold sM at h
 refine sqR<|qkMove rfl<|qkMove rfl<|qkAsg rfl<|qkAsg rfl<|dtN<|aQ ?_
 cases h
 exact iO () rfl rfl (RV.tmp rfl) (RV.tmp rfl) (aR.refl _) aD.nil
end
section
def tX  (a:Unit):Option (Int):=
 some (-1:Int)
def jH (p0:aL) (p1:Int) (a:Int) (b:(Int)->Option (Int)):Option (Int):=
 if a<(List.length p0:Int)then(ck (0<=a∧a<(List.length p0:Int)) (if p1=(at' p0 a)then(some (a))else(b (wI .i64 (a+(1:Int))))))else(tX  (()))
def pD (U:Nat) (p0:aL) (p1:Int):Option (Int):=
 bJ (jH p0 p1) U (0:Int)
theorem WW:aP Tryz.prog 291:=Tryz.call291
theorem IW (U:Nat) {p0:aL} {p1:Int} (v0:Value) (r:Int) (h:pD U p0 p1=some r):
  aU Tryz.prog 291 #[v0,vI (p1)] [Sl bI v0 p0] (fun x:Unit=>vI (r)) (fun x l=>l) (fun _ l=>l):=by
 refine aU.of Tryz.func291 rfl Tryz.ntmps291 rfl fun c=>?_
 unfold pD at h
 refine sqR<|qkAsg rfl<|dtN<|aG<|midU (fun a1=>tX  a1=some r) (fun a1 b2=>[]) (fun a1 b2=>[]) ?_ ?_
 ·refine sqR<|qkMove rfl<|qkLen (aB.fact 0 rfl) rfl<|qkMove rfl<|dtN<|aN<|loopL (jH p0 p1) (fun a5 b6=>[(0,v0),(1,vI (p1)),(7,vI (List.length p0:Int)),(8,vI (a5))]) (fun a5 b6=>[]) (0:Int) () h SF (aR.refl _) ?_
  intro k7 a5 b6 h
  refine sqR<|qkLss rfl<|dtN<|aG ?_
  refine eT h rfl (fun h=>?_) fun h=>?_
  ·refine cJ<|aG<|aN<|sqR<|qkMove rfl<|qkAsg rfl<|dtN<|sqR<|qkMove rfl<|qkMove rfl<|qkMove rfl<|ckE h fun j9 h=>aA (a_ rfl rfl (aB.fact 0 rfl) rfl rfl j9) rfl<|aA (bV rfl (aB.fact 0 rfl) rfl rfl rfl eD j9) rfl<|qkEql rfl<|dtN ?_
   refine eT h rfl (fun h=>?_) fun h=>?_
   ·refine sqR<|qkMove rfl<|qkAsg rfl<|dtN<|aQ<|bQ<|aJ<|aJ<|bQ<|aJ ?_
    cases h
    exact lC rfl
   refine dQ<|inT<|aM<|qkAdd rfl<|qkMove rfl<|dtN ?_
   exact yX (wI .i64 (a5+(1:Int))) () h SF rfl
  refine fM ?_
  exact gR () (()) h SF rfl
 intro a1 b2 h
 unfold tX at h
 refine sqR<|qkAsg rfl<|dtN<|aQ ?_
 cases h
 exact lC rfl
end
section
def qP (U:Nat) (p0:aL) (p1:Int):Option (Bool):=
 Option.bind (pD U p0 p1) fun a=>(some (decide ((0:Int)<=a)))
theorem WV:aP Tryz.prog 287:=Tryz.call287
theorem Fo (U:Nat) {p0:aL} {p1:Int} (a:Value) (r:Bool) (h:qP U p0 p1=some r):
  aU Tryz.prog 287 #[a,vI (p1)] [Sl bI a p0] (fun x:Unit=>vB (r)) (fun x l=>l) (fun _ l=>l):=by
 refine aU.of Tryz.func287 rfl Tryz.ntmps287 rfl fun c=>?_
 refine sqR<|qkAsg rfl<|dtN<|sqR<|qkMove rfl<|qkMove rfl<|bnE h fun b d h=>aF (aI.callQ WW (IW U a b d) rfl (lK [0] rfl)) rfl fun e=>aA (Ce rfl rfl) rfl<|qkAsg rfl<|dtN<|aQ ?_
 cases h
 exact lC rfl
end
section
def Aa  (a:Int):Option (Int):=
 some (a)
def xK (U:Nat) (p0:aL) (a:Int) (b:(Int)->Option (Int)):Option (Int):=
 Option.bind (qP U p0 a) fun c=>(if c=true then(b (wI .i64 (a+(1:Int))))else(Aa  (a)))
def zB (U:Nat) (p0:aL):Option (Int):=
 bJ (xK U p0) U (0:Int)
theorem WU:aP Tryz.prog 273:=Tryz.call273
theorem Pa (U:Nat) {p0:aL} (v0:Value) (r:Int) (h:zB U p0=some r):
  aU Tryz.prog 273 #[v0] [Sl bI v0 p0] (fun x:Unit=>vI (r)) (fun x l=>l) (fun _ l=>l):=by
 refine aU.of Tryz.func273 rfl Tryz.ntmps273 rfl fun c=>?_
 unfold zB at h
 refine sqR<|qkAsg rfl<|dtN<|sqR<|qkAsg rfl<|dtN<|aG<|midU (fun a2=>Aa  a2=some r) (fun a2 b3=>[(3,vI (a2))]) (fun a2 b3=>[]) ?_ ?_
 ·refine aN<|loopL (xK U p0) (fun a6 b7=>[(0,v0),(3,vI (a6))]) (fun a6 b7=>[]) (0:Int) () h SF (aR.refl _) ?_
  intro k8 a6 b7 h
  refine aG<|sqR<|qkMove rfl<|qkMove rfl<|bnE h fun r9 w10 h=>aF (aI.callQ WV (Fo U v0 r9 w10) rfl (lK [0] rfl)) rfl fun x11=>dtN ?_
  refine AG h rfl (fun _ h=>?_) fun _ h=>?_
  ·refine cJ<|aN<|aM<|qkMove rfl<|qkAdd rfl<|qkAsg rfl<|dN<|inT ?_
   exact yX (wI .i64 (a6+(1:Int))) () h SF rfl
  refine fM ?_
  exact gR (a6) () h SF rfl
 intro a2 b3 h
 unfold Aa at h
 refine sqR<|qkMove rfl<|qkAsg rfl<|dtN<|aQ ?_
 cases h
 exact lC rfl
end
section
def yM  (a:Int):Option (Int):=
 some (a)
def rS (p1:aL) (a:eK) (b:d_->Option (Int)):Option (Int):=
 if a.2<(List.length p1:Int)then(ck (0<=a.2∧a.2<(List.length p1:Int)) (b ((min a.1 (at' p1 a.2)),(wI .i64 (a.2+(1:Int))))))else(yM  (a.1))
def Bl (U:Nat) (a:Int):Option (Int):=
 Option.bind (iM U a) fun b=>(some (b))
def rT (U:Nat) (p1:aL) (a:eK) (b:d_->Option (Int)):Option (Int):=
 if a.2<(List.length p1:Int)then(ck (0<=a.2∧a.2<(List.length p1:Int)) (b ((wI .i64 (a.1+(at' p1 a.2))),(wI .i64 (a.2+(1:Int))))))else(Bl U (a.1))
def Ad (U:Nat) (p0:Int) (p1:aL):Option (Int):=
 if p0=(20:Int)then(Option.bind (pQ U p1) fun g=>(Option.bind (hZ U (decide (g=(List.length p1:Int)))) fun h=>(some (h))))else(if p0=(21:Int)then(Option.bind (pQ U p1) fun i=>(Option.bind (hZ U (decide ((0:Int)<i))) fun a=>(some (a))))else(if p0=(22:Int)then(Option.bind (pQ U p1) fun b=>(some (b)))else(if p0=(23:Int)then(Option.bind (mI U p1 (fun j=>n_ U j)) fun c=>(some (c)))else(if p0=(24:Int)then(bJ (rS p1) U ((1073741824:Int),(0:Int)))else(if p0=(25:Int)then(Option.bind (pR U p1) fun d=>(some (d.1)))else(if p0=(26:Int)then(bJ (rT U p1) U ((0:Int),(0:Int)))else(if p0=(27:Int)then(Option.bind (zB U p1) fun e=>(some (e)))else(if p0=(28:Int)then(Option.bind (pR U p1) fun f=>(some (f.2)))else(if(List.length p1:Int)=(0:Int)then(some (0:Int))else(ck (0<=(0:Int)∧(0:Int)<(List.length p1:Int)) (some (at' p1 (0:Int)))))))))))))
theorem WP:aP Tryz.prog 257:=Tryz.call257
theorem Nv (U:Nat) {p0:Int} {p1:aL} (v0:Value) (r:Int) (h:Ad U p0 p1=some r):
  aU Tryz.prog 257 #[vI (p0),v0] [Sl bI v0 p1] (fun x:Unit=>vI (r)) (fun x l=>l) (fun _ l=>l):=by
 refine aU.of Tryz.func257 rfl Tryz.ntmps257 rfl fun c=>?_
 refine sqR<|qkAsg rfl<|dtN<|aG<|sqR<|qkMove rfl<|dtN<|aN<|sqR<|qkEql rfl<|qkAsg rfl<|dtN ?_
 refine eT h rfl (fun h=>?_) fun h=>?_
 ·refine sqR<|qkMove rfl<|bnE h fun r2 w3 h=>aF (aI.callQ KR (BD U v0 r2 w3) rfl (lK [0] rfl)) rfl fun x4=>qkMove rfl<|qkLen (aB.fact 0 rfl) rfl<|qkEql rfl<|bnE h fun r5 w6 h=>aF (aI.callQ wU (kC U  r5 w6) rfl .nil) rfl fun x7=>qkAsg rfl<|dtN<|aQ<|bQ<|aJ ?_
  cases h
  exact lC rfl
 refine sqR<|qkEql rfl<|qkAsg rfl<|dtN ?_
 refine eT h rfl (fun h=>?_) fun h=>?_
 ·refine sqR<|qkMove rfl<|bnE h fun r9 w10 h=>aF (aI.callQ KR (BD U v0 r9 w10) rfl (lK [0] rfl)) rfl fun x11=>aA (vR rfl rfl) rfl<|bnE h fun r12 w13 h=>aF (aI.callQ wU (kC U  r12 w13) rfl .nil) rfl fun x14=>qkAsg rfl<|dtN<|aQ<|bQ<|aJ ?_
  cases h
  exact lC rfl
 refine sqR<|qkEql rfl<|qkAsg rfl<|dtN ?_
 refine eT h rfl (fun h=>?_) fun h=>?_
 ·refine sqR<|qkMove rfl<|bnE h fun r16 w17 h=>aF (aI.callQ KR (BD U v0 r16 w17) rfl (lK [0] rfl)) rfl fun x18=>qkAsg rfl<|dtN<|aQ<|bQ<|aJ ?_
  cases h
  exact lC rfl
 refine sqR<|qkEql rfl<|qkAsg rfl<|dtN ?_
 refine eT h rfl (fun h=>?_) fun h=>?_
 ·refine sqR<|qkMove rfl<|bnE h fun r20 w21 h=>aF (aI.callQ WR (Eh U 271 [] [] WS (fun y0 r h=>Jp U  r h) v0 r20 w21) rfl (lK [0] rfl)) rfl fun x22=>qkAsg rfl<|dtN<|aQ<|bQ<|aJ ?_
  cases h
  exact lC rfl
 refine sqR<|qkEql rfl<|qkAsg rfl<|dtN ?_
 refine eT h rfl (fun h=>?_) fun h=>?_
 ·refine sqR<|qkAsg rfl<|dtN<|aG<|midU (fun a25=>yM  a25=some r) (fun a25 b26=>[(5,vI (a25))]) (fun a25 b26=>[]) ?_ ?_
  ·refine sqR<|qkMove rfl<|qkLen (aB.fact 0 rfl) rfl<|qkMove rfl<|dtN<|aN<|loopL (rS p1) (fun a30 b31=>[(5,vI (a30.1)),(40,v0),(41,vI (List.length p1:Int)),(42,vI (a30.2))]) (fun a30 b31=>[]) ((1073741824:Int),(0:Int)) () h SF (aR.refl _) ?_
   intro k32 a30 b31 h
   refine sqR<|qkLss rfl<|dtN<|aG ?_
   refine eT h rfl (fun h=>?_) fun h=>?_
   ·refine cJ<|aG<|aN<|sqR<|ckE h fun j34 h=>aA (a_ rfl rfl (aB.fact 0 rfl) rfl rfl j34) rfl<|aA (bV rfl (aB.fact 0 rfl) rfl rfl rfl eD j34) rfl<|qkAsg rfl<|dtN<|aM<|qkMove rfl<|qkMove rfl<|aA (Yf rfl rfl) rfl<|qkAsg rfl<|dN<|inT<|aM<|qkAdd rfl<|qkMove rfl<|dtN ?_
    exact yX ((min a30.1 (at' p1 a30.2)),(wI .i64 (a30.2+(1:Int)))) () h SF rfl
   refine fM ?_
   exact gR (a30.1) () h SF rfl
  intro a25 b26 h
  unfold yM at h
  refine sqR<|qkMove rfl<|qkAsg rfl<|dtN<|aQ<|bQ<|aJ ?_
  cases h
  exact lC rfl
 refine sqR<|qkEql rfl<|qkAsg rfl<|dtN ?_
 refine eT h rfl (fun h=>?_) fun h=>?_
 ·refine sqR<|qkMove rfl<|bnE h fun r36 w37 h=>aF (aI.callQ PM (zN U v0 r36 w37) rfl (lK [0] rfl)) rfl fun x38=>qkMove rfl<|qkExt rfl<|qkExt rfl<|qkAsg rfl<|qkAsg rfl<|dtN<|sqR<|qkMove rfl<|qkAsg rfl<|dtN<|aQ<|bQ<|aJ ?_
  cases h
  exact lC rfl
 refine sqR<|qkEql rfl<|qkAsg rfl<|dtN ?_
 refine eT h rfl (fun h=>?_) fun h=>?_
 ·refine sqR<|qkAsg rfl<|dtN<|aG<|midU (fun a41=>Bl U a41=some r) (fun a41 b42=>[(10,vI (a41))]) (fun a41 b42=>[]) ?_ ?_
  ·refine sqR<|qkMove rfl<|qkLen (aB.fact 0 rfl) rfl<|qkMove rfl<|dtN<|aN<|loopL (rT U p1) (fun a49 b50=>[(10,vI (a49.1)),(61,v0),(62,vI (List.length p1:Int)),(63,vI (a49.2))]) (fun a49 b50=>[]) ((0:Int),(0:Int)) () h SF (aR.refl _) ?_
   intro k51 a49 b50 h
   refine sqR<|qkLss rfl<|dtN<|aG ?_
   refine eT h rfl (fun h=>?_) fun h=>?_
   ·refine cJ<|aG<|aN<|sqR<|ckE h fun j53 h=>aA (a_ rfl rfl (aB.fact 0 rfl) rfl rfl j53) rfl<|aA (bV rfl (aB.fact 0 rfl) rfl rfl rfl eD j53) rfl<|qkAsg rfl<|dtN<|aM<|qkMove rfl<|qkMove rfl<|qkAdd rfl<|qkAsg rfl<|dN<|inT<|aM<|qkAdd rfl<|qkMove rfl<|dtN ?_
    exact yX ((wI .i64 (a49.1+(at' p1 a49.2))),(wI .i64 (a49.2+(1:Int)))) () h SF rfl
   refine fM ?_
   exact gR (a49.1) () h SF rfl
  intro a41 b42 h
  refine sqR<|qkMove rfl<|bnE h fun r43 w44 h=>aF (aI.callQ CQ (lV U  r43 w44) rfl .nil) rfl fun x45=>qkAsg rfl<|dtN<|aQ<|bQ<|aJ ?_
  cases h
  exact lC rfl
 refine sqR<|qkEql rfl<|qkAsg rfl<|dtN ?_
 refine eT h rfl (fun h=>?_) fun h=>?_
 ·refine sqR<|qkMove rfl<|bnE h fun r55 w56 h=>aF (aI.callQ WU (Pa U v0 r55 w56) rfl (lK [0] rfl)) rfl fun x57=>qkAsg rfl<|dtN<|aQ<|bQ<|aJ ?_
  cases h
  exact lC rfl
 refine sqR<|qkEql rfl<|qkAsg rfl<|dtN ?_
 refine eT h rfl (fun h=>?_) fun h=>?_
 ·refine sqR<|qkMove rfl<|bnE h fun r59 w60 h=>aF (aI.callQ PM (zN U v0 r59 w60) rfl (lK [0] rfl)) rfl fun x61=>qkMove rfl<|qkExt rfl<|qkExt rfl<|qkAsg rfl<|qkAsg rfl<|dtN<|sqR<|qkMove rfl<|qkAsg rfl<|dtN<|aQ<|bQ<|aJ ?_
  cases h
  exact lC rfl
 refine dQ<|inT<|aG<|sqR<|qkMove rfl<|qkLen (aB.fact 0 rfl) rfl<|qkEql rfl<|dtN ?_
 refine eT h rfl (fun h=>?_) fun h=>?_
 ·refine sqR<|qkAsg rfl<|dtN<|aQ<|aJ ?_
  cases h
  exact lC rfl
 refine cJ<|sqR<|qkMove rfl<|ckE h fun j63 h=>aA (a_ rfl rfl (aB.fact 0 rfl) rfl rfl j63) rfl<|aA (bV rfl (aB.fact 0 rfl) rfl rfl rfl eD j63) rfl<|qkAsg rfl<|dtN<|aQ ?_
 cases h
 exact lC rfl
end
section
def mN  (a:eK):Option d_:=
 some (a.1,a.2)
def jM (U:Nat) (p0:LG) (p1:Int) (a:rI) (b:Int):Option d_:=
 ck (0<=(List.length (at' p0.1.2.1.2 p0.2.2.1):Int)∧(List.length (at' p0.1.2.1.2 p0.2.2.1):Int)<=((24:Nat):Int)∧(List.length (at' p0.1.2.1.2 p0.2.2.1):Int)<=(List.length a.2:Int)) (Option.bind (Ad U ((at' p0.2.2.2 p1).1) (List.take (Int.toNat (List.length (at' p0.1.2.1.2 p0.2.2.1):Int)) a.2)) fun c=>(mN  (c,b)))
def qL (U:Nat) (p0:LG) (p1:Int) (a:rI):Option d_:=
 if(List.length (at' p0.1.2.1.2 p0.2.2.1):Int)=(0:Int)then(Option.bind (Br U p0.2.2.2 p1) fun b=>(jM U p0 p1 a (b)))else(jM U p0 p1 a (a.1))
def jN (U:Nat) (p0:LG) (p1:Int) (d:QE->Int->Int->Option d_) (a:Int×Int×aL) (b:(Int×Int×aL)->Option d_):Option d_:=
 if a.2.1<(List.length (at' p0.1.2.1.2 p0.2.2.1):Int)then(Option.bind (d ((((((p0.1.1.1,p0.1.1.2.1,p0.1.1.2.2)),((p0.1.2.1.1,p0.1.2.1.2)),p0.1.2.2.1,p0.1.2.2.2)),p0.2.1,p0.2.2.1,p0.2.2.2)) (wI .i64 (p1+(1:Int))) a.2.1) fun c=>(ck ((0<=a.2.1∧a.2.1<((24:Nat):Int))∧List.length a.2.2=24) (b (c.2,(wI .i64 (a.2.1+(1:Int))),(List.set a.2.2 (Int.toNat a.2.1) c.1)))))else(qL U p0 p1 (a.1,a.2.2))
def cR (b:QE->Int->Int->Option d_) (U:Nat) (p0:LG) (p1:Int) (p2:Int):Option d_:=
 ck (0<=p1∧p1<(List.length p0.2.2.2:Int)) (if((at' p0.2.2.2 p1).1)<=(17:Int)then(Option.bind (lA U ((((((p0.1.1.1,p0.1.1.2.1,p0.1.1.2.2)),((p0.1.2.1.1,p0.1.2.1.2)),p0.1.2.2.1,p0.1.2.2.2)),p0.2.1,p0.2.2.1,p0.2.2.2)) ((((at' p0.2.2.2 p1).1),((at' p0.2.2.2 p1).2))) p2) fun j=>(some (j,(wI .i64 (p1+(1:Int))))))else(if((at' p0.2.2.2 p1).1)<=(19:Int)then(Option.bind (b ((((((p0.1.1.1,p0.1.1.2.1,p0.1.1.2.2)),((p0.1.2.1.1,p0.1.2.1.2)),p0.1.2.2.1,p0.1.2.2.2)),p0.2.1,p0.2.2.1,p0.2.2.2)) (wI .i64 (p1+(1:Int))) p2) fun i=>(Option.bind (yN U ((at' p0.2.2.2 p1).1) i.1) fun g=>(some (g,i.2))))else(if((at' p0.2.2.2 p1).1)<=(29:Int)then(ck (0<=p0.2.2.1∧p0.2.2.1<(List.length p0.1.2.1.2:Int)) (bJ (jN U p0 p1 b) U ((0:Int),(0:Int),(List.replicate 24 (0:Int)))))else(if((at' p0.2.2.2 p1).1)<=(42:Int)then(Option.bind (b ((((((p0.1.1.1,p0.1.1.2.1,p0.1.1.2.2)),((p0.1.2.1.1,p0.1.2.1.2)),p0.1.2.2.1,p0.1.2.2.2)),p0.2.1,p0.2.2.1,p0.2.2.2)) (wI .i64 (p1+(1:Int))) p2) fun c=>(Option.bind (b ((((((p0.1.1.1,p0.1.1.2.1,p0.1.1.2.2)),((p0.1.2.1.1,p0.1.2.1.2)),p0.1.2.2.1,p0.1.2.2.2)),p0.2.1,p0.2.2.1,p0.2.2.2)) c.2 p2) fun d=>(Option.bind (wY U ((at' p0.2.2.2 p1).1) c.1 d.1) fun h=>(some (h,d.2)))))else(Option.bind (b ((((((p0.1.1.1,p0.1.1.2.1,p0.1.1.2.2)),((p0.1.2.1.1,p0.1.2.1.2)),p0.1.2.2.1,p0.1.2.2.2)),p0.2.1,p0.2.2.1,p0.2.2.2)) (wI .i64 (p1+(1:Int))) p2) fun e=>(Option.bind (b ((((((p0.1.1.1,p0.1.1.2.1,p0.1.1.2.2)),((p0.1.2.1.1,p0.1.2.1.2)),p0.1.2.2.1,p0.1.2.2.2)),p0.2.1,p0.2.2.1,p0.2.2.2)) e.2 p2) fun f=>(Option.bind (b ((((((p0.1.1.1,p0.1.1.2.1,p0.1.1.2.2)),((p0.1.2.1.1,p0.1.2.1.2)),p0.1.2.2.1,p0.1.2.2.2)),p0.2.1,p0.2.2.1,p0.2.2.2)) f.2 p2) fun a=>(if e.1≠(0:Int)then(some (f.1,a.2))else(some (a.1,a.2))))))))))
def bP:Nat->QE->Int->Int->Option d_
 |0,_,_,_=>none
 |U+1,p0,p1,p2=>cR (bP U) U p0 p1 p2
theorem z_:aP Tryz.prog 209:=Tryz.call209
theorem BC (rc:QE->Int->Int->Option d_) (U:Nat) (hrc:∀{p0:LG} {p1:Int} {p2:Int} (bx0:Nat)  (bx1:Nat)  (v2:Value)  (v3:Value)  (v4:Value)  (v5:Value)  (z6:lW)  (v7:Value)  (z8:oC)  (v9:Value)  (z10:oC)  (v11:Value) (r:eK),rc p0 p1 p2=some r->aU Tryz.prog 209 #[vP bx0,vI (p1),vI (p2)] [bL bx0 [vP bx1,v9,vI (p0.2.2.1),v11] 262,bL bx1 [vS (p0.1.1.1),v2,v3,v4,v5,vI (p0.1.2.2.1),v7] 218,Sl aH v2 p0.1.1.2.1,Sl aE v3 p0.1.1.2.2,Sl bI v4 p0.1.2.1.1,S2 aY v5 z6 p0.1.2.1.2,S2 bI v7 z8 p0.1.2.2.2,S2 bI v9 z10 p0.2.1,Sl aY v11 p0.2.2.2] (fun x:Unit=>Value.tuple #[vI (r.1),vI (r.2)]) (fun x l=>l) (fun _ l=>l)) {p0:LG} {p1:Int} {p2:Int} (bx0:Nat)  (bx1:Nat)  (v2:Value)  (v3:Value)  (v4:Value)  (v5:Value)  (z6:lW)  (v7:Value)  (z8:oC)  (v9:Value)  (z10:oC)  (v11:Value) (r:eK) (h:cR rc U p0 p1 p2=some r):
  aU Tryz.prog 209 #[vP bx0,vI (p1),vI (p2)] [bL bx0 [vP bx1,v9,vI (p0.2.2.1),v11] 262,bL bx1 [vS (p0.1.1.1),v2,v3,v4,v5,vI (p0.1.2.2.1),v7] 218,Sl aH v2 p0.1.1.2.1,Sl aE v3 p0.1.1.2.2,Sl bI v4 p0.1.2.1.1,S2 aY v5 z6 p0.1.2.1.2,S2 bI v7 z8 p0.1.2.2.2,S2 bI v9 z10 p0.2.1,Sl aY v11 p0.2.2.2] (fun x:Unit=>Value.tuple #[vI (r.1),vI (r.2)]) (fun x l=>l) (fun _ l=>l):=by
 refine aU.of Tryz.func209 rfl Tryz.ntmps209 rfl fun c=>?_
 refine sqR<|qkAsg rfl<|qkAsg rfl<|dtN<|sqR<|qkMove rfl<|aA (bR rfl) rfl<|qkFld rfl<|aA (dR rfl (aB.fact 0 rfl) rfl rfl rfl) rfl<|qkMove rfl<|ckE h fun j1 h=>aA (a_ rfl rfl (aB.fact 8 rfl) rfl rfl j1) rfl<|aA (iA (cs:=[vI ((at' p0.2.2.2 p1).1),vI ((at' p0.2.2.2 p1).2)]) rfl (aB.fact 8 rfl) bN rfl rfl rfl rfl j1) rfl<|aF (aI.alloc (cs:=QK) rfl rfl) rfl fun b2=>bE 0 (vs:=[vI ((at' p0.2.2.2 p1).1),vI ((at' p0.2.2.2 p1).2)]) rfl rfl rfl rfl rfl rfl<|dtN<|aG<|aN<|sqR<|qkFld rfl<|qkLd 0 rfl<|aA (zY rfl rfl) rfl<|qkAsg rfl<|dtN ?_
 refine eT h rfl (fun h=>?_) fun h=>?_
 ·refine sqR<|qkMove rfl<|qkLdA 0 rfl<|qkMove rfl<|bnE h fun r4 w5 h=>aF (aI.callQ WL (Dk U bx0 bx1 v2 v3 v4 v5 z6 v7 z8 v9 z10 v11 r4 w5) rfl (lK [0,1,2,3,4,5,6,7,8] rfl)) rfl fun x6=>qkMove rfl<|qkAdd rfl<|qkAsg rfl<|qkAsg rfl<|dtN<|aQ<|bQ<|aJ ?_
  cases h
  exact iO () rfl rfl (RV.tmp rfl) (RV.tmp rfl) .nil aD.nil
 refine sqR<|qkFld rfl<|qkLd 0 rfl<|aA (zY rfl rfl) rfl<|qkAsg rfl<|dtN ?_
 refine eT h rfl (fun h=>?_) fun h=>?_
 ·refine sqR<|qkMove rfl<|qkMove rfl<|qkAdd rfl<|qkMove rfl<|bnE h fun r8 w9 h=>aF (aI.callQ z_ (hrc bx0 bx1 v2 v3 v4 v5 z6 v7 z8 v9 z10 v11 r8 w9) rfl (lK [0,1,2,3,4,5,6,7,8] rfl)) rfl fun x10=>qkMove rfl<|qkExt rfl<|qkExt rfl<|qkAsg rfl<|qkAsg rfl<|dtN<|sqR<|qkFld rfl<|qkLd 0 rfl<|qkMove rfl<|bnE h fun r11 w12 h=>aF (aI.callQ WM (LA U  r11 w12) rfl .nil) rfl fun x13=>qkMove rfl<|qkAsg rfl<|qkAsg rfl<|dtN<|aQ<|bQ<|aJ ?_
  cases h
  exact iO () rfl rfl (RV.tmp rfl) (RV.tmp rfl) .nil aD.nil
 refine sqR<|qkFld rfl<|qkLd 0 rfl<|aA (zY rfl rfl) rfl<|qkAsg rfl<|dtN ?_
 refine eT h rfl (fun h=>?_) fun h=>?_
 ·refine sqR<|qkMove rfl<|qkFld rfl<|qkLd 0 rfl<|qkMove rfl<|uQ (A:=eK) (B:=Unit) (vs:=[vP bx0,vI ((at' p0.2.2.2 p1).1),vI (p1)]) (fun a17=>mN  a17=some r) (fun a17 b18=>Value.tuple #[vI (a17.1),vI (a17.2)]) (fun a17 b18=>[]) (fun a17 b18=>[bL bx0 [vP bx1,v9,vI (p0.2.2.1),v11] 262,bL bx1 [vS (p0.1.1.1),v2,v3,v4,v5,vI (p0.1.2.2.1),v7] 218,Sl aH v2 p0.1.1.2.1,Sl aE v3 p0.1.1.2.2,Sl bI v4 p0.1.2.1.1,S2 aY v5 z6 p0.1.2.1.2,S2 bI v7 z8 p0.1.2.2.2,S2 bI v9 z10 p0.2.1,Sl aY v11 p0.2.2.2]) (pV.fn (show aP Tryz.prog 235 from Tryz.call235) rfl) Tryz.func235 rfl Tryz.ntmps235 rfl rfl ?_ ?_
  ·refine sqR<|qkAsg rfl<|qkAsg rfl<|dtN<|sqR ?_
   refine aF (aI.alloc (cs:=cellsOf bO (List.replicate 24 (0:Int))) rfl (by kernel_rfl)) rfl fun b19=>?_
   refine dtN<|aG ?_
   refine JR.start [0,1,3,7,15,31,63,127,0,256,768,1792,4095,8191,16383,32767] 12 mixedOrders (by decide +kernel) ?_
   refine JR.open (by exact rfl) ?_
   refine jkMove rfl<|jqN rfl (bR rfl)<|jkFld rfl<|bG rfl .nil (lX 0 rfl) (dR rfl (aB.fact 0 rfl) rfl rfl rfl) aK.z<|jqN rfl (bR rfl)<|jkFld rfl<|jkFld rfl<|bG rfl .nil (lX 1 rfl) (dR rfl (aB.fact 0 rfl) rfl rfl rfl) aK.z<|jkMove rfl<|jqN rfl (bR rfl)<|jkFld rfl<|bG rfl .nil (lX 0 rfl) (dR rfl (aB.fact 0 rfl) rfl rfl rfl) aK.z<|bD 12 rfl rfl<|ckE h fun j20 h=>aA (cY rfl rfl (aB.fact 5 rfl) rfl rfl j20) rfl<|aA (cW rfl (aB.fact 5 rfl) rfl rfl j20) rfl<|aA (fR rfl (aB.el (aB.fact 5 rfl) j20.1 j20.2) rfl) rfl<|qkAsg rfl<|dtN<|aG<|midU (fun a23=>qL U p0 p1 a23=some r) (fun a23 b24=>[(0,vP bx0),(1,vI ((at' p0.2.2.2 p1).1)),(2,vI (p1)),(7,vI (a23.1)),(8,vP b19),(9,vI (List.length (at' p0.1.2.1.2 p0.2.2.1):Int))]) (fun a23 b24=>[bL b19 (cellsOf bO a23.2) 144]) ?_ ?_
   ·refine sqR<|qkMove rfl<|qkMove rfl<|dtN<|aN<|loopL (jN U p0 p1 rc) (fun a40 b41=>[(0,vP bx0),(1,vI ((at' p0.2.2.2 p1).1)),(2,vI (p1)),(7,vI (a40.1)),(8,vP b19),(9,vI (List.length (at' p0.1.2.1.2 p0.2.2.1):Int)),(26,vI (List.length (at' p0.1.2.1.2 p0.2.2.1):Int)),(27,vI (a40.2.1))]) (fun a40 b41=>[bL b19 (cellsOf bO a40.2.2) 144]) ((0:Int),(0:Int),(List.replicate 24 (0:Int))) () h SF (aR.ix [0] rfl rfl) ?_
    intro k42 a40 b41 h
    refine sqR<|qkLss rfl<|dtN<|aG ?_
    refine eT h rfl (fun h=>?_) fun h=>?_
    ·refine cJ<|aG<|aN<|sqR<|qkMove rfl<|qkAsg rfl<|dtN<|aM<|qkMove rfl<|qkMove rfl<|qkMove rfl<|qkAdd rfl<|qkMove rfl<|bnE h fun r44 w45 h=>aF (aI.callQ z_ (hrc bx0 bx1 v2 v3 v4 v5 z6 v7 z8 v9 z10 v11 r44 w45) rfl (lK [0,1,2,3,4,5,6,7,8] rfl)) rfl fun x46=>qkMove rfl<|qkExt rfl<|qkExt rfl<|ckE h fun j47 h=>aA (jV rfl rfl rfl rfl rfl j47.1) rfl<|DO 0 (e:=bO) r44.1 j47 rfl rfl rfl rfl rfl rfl rfl<|qkAsg rfl<|dN<|inT<|aM<|qkAdd rfl<|qkMove rfl<|dtN ?_
     exact yX (r44.2,(wI .i64 (a40.2.1+(1:Int))),(List.set a40.2.2 (Int.toNat a40.2.1) r44.1)) () h SF rfl
    refine fM ?_
    exact gR (a40.1,a40.2.2) () h SF rfl
   intro a23 b24 h
   refine aG<|midU (fun a26=>jM U p0 p1 a23 a26=some r) (fun a26 b27=>[(1,vI ((at' p0.2.2.2 p1).1)),(7,vI (a26)),(8,vP b19),(9,vI (List.length (at' p0.1.2.1.2 p0.2.2.1):Int))]) (fun a26 b27=>[bL b19 (cellsOf bO a23.2) 144]) ?_ ?_
   ·refine sqR<|qkMove rfl<|qkEql rfl<|dtN ?_
    refine eT h rfl (fun h=>?_) fun h=>?_
    ·refine aM<|qkMove rfl<|aA (bR rfl) rfl<|qkFld rfl<|aA (dR rfl (aB.fact 0 rfl) rfl rfl rfl) rfl<|qkMove rfl<|bnE h fun r33 w34 h=>aF (aI.callQ WJ (Pb U v11 r33 w34) rfl (lK [8] rfl)) rfl fun x35=>qkAsg rfl<|dtN ?_
     exact gR (r33) () h SF rfl
    refine cJ ?_
    exact gR (a23.1) () h SF rfl
   intro a26 b27 h
   refine sqR<|qkMove rfl<|qkMove rfl<|ckE h fun j28 h=>aA (Oj rfl rfl rfl rfl j28) rfl<|bnE h fun r29 w30 h=>aF (aI.callQ WP (Nv U (Value.slice (some ⟨b19,0,none⟩) (Int.toNat (List.length (at' p0.1.2.1.2 p0.2.2.1):Int)) 24) r29 w30) rfl (aD.cons (SJ (i:=0) rfl cC j28 (by decide)) .nil)) rfl fun x31=>?_
   refine qkMove rfl<|qkAsg rfl<|qkAsg rfl<|dtN<|aQ ?_
   exact oL (r29,a26) () h (.inl rfl) (Df.r2 rfl (RV.tmp rfl) (RV.tmp rfl)) rfl .nil (aD.refl _ _)
  intro a17 b18 h
  unfold mN at h
  refine qkExt rfl<|qkExt rfl<|qkAsg rfl<|qkAsg rfl<|dtN<|aQ<|bQ<|aJ ?_
  cases h
  exact iO () rfl rfl (RV.tmp rfl) (RV.tmp rfl) (aR.refl _) aD.nil
 refine sqR<|qkFld rfl<|qkLd 0 rfl<|aA (zY rfl rfl) rfl<|qkAsg rfl<|dtN ?_
 refine eT h rfl (fun h=>?_) fun h=>?_
 ·refine sqR<|qkMove rfl<|qkMove rfl<|qkAdd rfl<|qkMove rfl<|bnE h fun r49 w50 h=>aF (aI.callQ z_ (hrc bx0 bx1 v2 v3 v4 v5 z6 v7 z8 v9 z10 v11 r49 w50) rfl (lK [0,1,2,3,4,5,6,7,8] rfl)) rfl fun x51=>qkMove rfl<|qkExt rfl<|qkExt rfl<|qkAsg rfl<|qkAsg rfl<|dtN<|sqR<|qkMove rfl<|qkMove rfl<|qkMove rfl<|bnE h fun r52 w53 h=>aF (aI.callQ z_ (hrc bx0 bx1 v2 v3 v4 v5 z6 v7 z8 v9 z10 v11 r52 w53) rfl (lK [0,1,2,3,4,5,6,7,8] rfl)) rfl fun x54=>qkMove rfl<|qkExt rfl<|qkExt rfl<|qkAsg rfl<|qkAsg rfl<|dtN<|sqR<|qkFld rfl<|qkLd 0 rfl<|qkMove rfl<|qkMove rfl<|bnE h fun r55 w56 h=>aF (aI.callQ WN (Jo U  r55 w56) rfl .nil) rfl fun x57=>qkMove rfl<|qkAsg rfl<|qkAsg rfl<|dtN<|aQ<|bQ<|aJ ?_
  cases h
  exact iO () rfl rfl (RV.tmp rfl) (RV.tmp rfl) .nil aD.nil
 refine dQ<|inT<|sqR<|qkMove rfl<|qkMove rfl<|qkAdd rfl<|qkMove rfl<|bnE h fun r58 w59 h=>aF (aI.callQ z_ (hrc bx0 bx1 v2 v3 v4 v5 z6 v7 z8 v9 z10 v11 r58 w59) rfl (lK [0,1,2,3,4,5,6,7,8] rfl)) rfl fun x60=>qkMove rfl<|qkExt rfl<|qkExt rfl<|qkAsg rfl<|qkAsg rfl<|dtN<|sqR<|qkMove rfl<|qkMove rfl<|qkMove rfl<|bnE h fun r61 w62 h=>aF (aI.callQ z_ (hrc bx0 bx1 v2 v3 v4 v5 z6 v7 z8 v9 z10 v11 r61 w62) rfl (lK [0,1,2,3,4,5,6,7,8] rfl)) rfl fun x63=>qkMove rfl<|qkExt rfl<|qkExt rfl<|qkAsg rfl<|qkAsg rfl<|dtN<|sqR<|qkMove rfl<|qkMove rfl<|qkMove rfl<|bnE h fun r64 w65 h=>aF (aI.callQ z_ (hrc bx0 bx1 v2 v3 v4 v5 z6 v7 z8 v9 z10 v11 r64 w65) rfl (lK [0,1,2,3,4,5,6,7,8] rfl)) rfl fun x66=>qkMove rfl<|qkExt rfl<|qkExt rfl<|qkAsg rfl<|qkAsg rfl<|dtN<|aG<|sqR<|qkMove rfl<|qkNeq rfl<|dtN ?_
 refine eT h rfl (fun h=>?_) fun h=>?_
 ·refine sqR<|qkMove rfl<|qkMove rfl<|qkAsg rfl<|qkAsg rfl<|dtN<|aQ<|aJ ?_
  cases h
  exact iO () rfl rfl (RV.tmp rfl) (RV.tmp rfl) .nil aD.nil
 refine cJ<|sqR<|qkMove rfl<|qkMove rfl<|qkAsg rfl<|qkAsg rfl<|dtN<|aQ ?_
 cases h
 exact iO () rfl rfl (RV.tmp rfl) (RV.tmp rfl) .nil aD.nil
theorem Cw (U:Nat):∀{p0:LG} {p1:Int} {p2:Int} (a:Nat)  (b:Nat)  (e:Value)  (f:Value)  (g:Value)  (i:Value)  (m:lW)  (j:Value)  (n:oC)  (k:Value)  (d:oC)  (c:Value) (r:eK),bP U p0 p1 p2=some r->
  aU Tryz.prog 209 #[vP a,vI (p1),vI (p2)] [bL a [vP b,k,vI (p0.2.2.1),c] 262,bL b [vS (p0.1.1.1),e,f,g,i,vI (p0.1.2.2.1),j] 218,Sl aH e p0.1.1.2.1,Sl aE f p0.1.1.2.2,Sl bI g p0.1.2.1.1,S2 aY i m p0.1.2.1.2,S2 bI j n p0.1.2.2.2,S2 bI k d p0.2.1,Sl aY c p0.2.2.2] (fun x:Unit=>Value.tuple #[vI (r.1),vI (r.2)]) (fun x l=>l) (fun _ l=>l):=by
 induction U with
 |zero=>intros;rename_i h;cases h
 |succ U o=>exact fun a b e f g i m j n k d c r h=>BC (bP U) U o a b e f g i m j n k d c r h
end
end Go.Proofs.YtjlbcgddhnjcjaaGreatDoor
end
