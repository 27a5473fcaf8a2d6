/- Models and proofs. Conditions: none. -/
import Derived.Test.YtjlbcgddhnjcjaaGreatDoorZCMe1
import Derived.Maps.RangeRun
set_option linter.unusedVariables false
set_option linter.unusedSimpArgs false
set_option maxHeartbeats 4000000
set_option maxRecDepth 20000
section
namespace Go.Sx
open Go.RowKit
section
def qV (M L M' L':List aU):Prop:=∀c w,St c M L w->St c M' L' w
section
variable {P:Program} {rd:Option Nat} {c:tP} {n:Sz} {σ:Fr} {M L M' L':List aU} {Q:Exit->Act->World->Prop} {ops:Array Oper} {rest:List Oper} {K:Act->World->Prop}
variable {d:Option Tmp} {D:Nat} {ty:TypeId} {pos:String} {aft:Array Edge} {g:Option (Nat×Bool)}
variable {α β:Type} {e:cR α} {r:dZ α}
variable {H Bs:List (Nat×List aU×List aU)} {G:Act->World->Prop} {GR:Act->World->List (Nat×World)->List (Nat×(World->Prop))->Prop}
theorem iR (h:qV M L M' L') (k:J c n σ M' L' G):J c n σ M L G:=fun a w s t=>k a w s (h c w t)
theorem JR.stp (h:qV M L M' L') (k:JR c n σ M' L' H Bs GR):JR c n σ M L H Bs GR:=fun a w X Y s t hX hY=>k a w X Y s (h c w t) hX hY
theorem bY {p:Prop} (h:∀c w,St c M L w->p) (k:p->J c n σ M L G):J c n σ M L G:=fun a w s t=>k (h c w t) a w s t
theorem bX {p:Prop} (h:∀c w,St c M L w->p) (k:p->JR c n σ M L H Bs GR):JR c n σ M L H Bs GR:=fun a w X Y s t hX hY=>k (h c w t) a w X Y s t hX hY
theorem Know.one {v:Value} {xs:List α} (hf:aC M L (Sl r v xs)):∀c w,St c M L w->one v=true:=fun c w t=>by
 obtain⟨S,a',cap,hv,_⟩:=hf.st t
 rw[hv];rfl
theorem cO (q:Nat) {vs:List Value} {xss:List (List α)} (hr:M[q]? = some (gZ e vs xss)):∀c w,St c M L w->vs.length=xss.length:=fun c w t=>by
 obtain⟨_,h⟩:=t.res hr;exact h.1
theorem qV.add {m:aU} (h:∀w,m.p w (fun _=>False)):qV M L (m::M) L:=fun c w t=>by
 obtain⟨ho,F,hF,hL⟩:=t
 refine⟨ho,fun i k=>match i with|0=>False|i+1=>F i k,⟨?_,?_,?_⟩,fun f hf=>aU.same (hL f hf) (fun k hk=>⟨hk.1,fun i hi=>by
   cases i with
   |zero=>exact hi
   |succ i=>exact hk.2 i hi⟩) (fun _ _ _=>rfl)⟩
 ·intro i m' hm
  cases i with
  |zero=>simp at hm;subst hm;exact h w
  |succ i=>exact hF.res i m' (by simpa using hm)
 ·intro i k hk
  cases i with
  |zero=>exact hk.elim
  |succ i=>exact hF.rng i k hk
 ·intro i j k hi hj
  cases i with
  |zero=>exact hi.elim
  |succ i=>
   cases j with
   |zero=>exact hj.elim
   |succ j=>exact congrArg (· + 1) (hF.dis i j k hi hj)
theorem iF (e:cR α):qV M L (Ar e (.slice none 0 0) []::M) L:=qV.add fun _=>⟨by simp,rfl,.inl ⟨rfl,rfl⟩⟩
theorem wL (e:cR α) (k:Nat):qV M L (gZ e (List.replicate k (.slice none 0 0)) (List.replicate k [])::M) L:=qV.add fun w=>by
 refine⟨by simp,fun _ _=>False,fun i v xs hv hx=> ?_,fun _ _ h=>h,fun _ _ _ h=>h.elim⟩
 rw[List.getElem?_replicate]at hv hx
 split at hv
 ·rename_i h;rw[if_pos h]at hx;cases hv;cases hx;exact⟨by simp,rfl,.inl ⟨rfl,rfl⟩⟩
 ·cases hv
theorem tR (e:cR α):qV M L (gZ e [] []::M) L:=wL e 0
theorem Gv (i j:Nat) {u:Value} {vs:List Value} {xss:List (List α)} {ys:List α} (hij:Nat.beq i j=false) (hf:M[i]? = some (gZ e vs xss)) (hg:M[j]? = some (Ar e u ys)):qV M L ((M.set i (gZ e (vs++[u]) (xss++[ys]))).eraseIdx j) L:=fun c w t=>
 t.merge i j (fun e=>by subst e;simp at hij) hf hg (by
  rintro w F1 F2 ⟨hlen,G,g1,g2,g3⟩ hA hd
  refine⟨by simp[hlen],fun q k=>(q<vs.length∧G q k)∨(q=vs.length∧F2 k),?_,?_,?_⟩
  ·intro q v xs hv hx
   by_cases hq:q<vs.length
   ·rw[List.getElem?_append_left hq]at hv
    rw[List.getElem?_append_left (by omega)]at hx
    exact aU.same (f:=Ar e v xs) (g1 q v xs hv hx) (fun k hk=> .inl ⟨hq,hk⟩) (fun _ _ _=>rfl)
   ·rw[List.getElem?_append_right (by omega)]at hv
    rw[List.getElem?_append_right (by omega)]at hx
    have hq0:q - vs.length=0:=by have:=aW hv;simp at this;omega
    rw[hq0]at hv
    rw[show q - xss.length=0 by omega]at hx
    simp at hv hx;subst hv;subst hx
    exact aU.same (f:=Ar e u ys) hA (fun k hk=> .inr ⟨by omega,hk⟩) (fun _ _ _=>rfl)
  ·rintro q k (⟨_,hk⟩|⟨_,hk⟩)
   ·exact .inl (g2 q k hk)
   ·exact .inr hk
  ·rintro q q' k (⟨h1,hk⟩|⟨h1,hk⟩) (⟨h2,hk'⟩|⟨h2,hk'⟩)
   ·exact g3 q q' k hk hk'
   ·exact absurd hk' (hd k (g2 q k hk))
   ·exact absurd hk (hd k (g2 q' k hk'))
   ·omega)
theorem Fl (i j:Nat) {vs us:List Value} {xss yss:List (List α)} (hij:Nat.beq i j=false) (hf:M[i]? = some (gZ e vs xss)) (hg:M[j]? = some (gZ e us yss)):qV M L ((M.set i (gZ e (vs++us) (xss++yss))).eraseIdx j) L:=fun c w t=>
 t.merge i j (fun e=>by subst e;simp at hij) hf hg (by
  rintro w F1 F2 ⟨hlen,G,g1,g2,g3⟩ ⟨hlen',G',g1',g2',g3'⟩ hd
  refine⟨by simp[hlen,hlen'],fun q k=>(q<vs.length∧G q k)∨(vs.length<=q∧G' (q - vs.length) k),?_,?_,?_⟩
  ·intro q v xs hv hx
   by_cases hq:q<vs.length
   ·rw[List.getElem?_append_left hq]at hv
    rw[List.getElem?_append_left (by omega)]at hx
    exact aU.same (f:=Ar e v xs) (g1 q v xs hv hx) (fun k hk=> .inl ⟨hq,hk⟩) (fun _ _ _=>rfl)
   ·rw[List.getElem?_append_right (by omega)]at hv
    rw[List.getElem?_append_right (by omega),<-hlen]at hx
    exact aU.same (f:=Ar e v xs) (g1' _ v xs hv hx) (fun k hk=> .inr ⟨by omega,hk⟩) (fun _ _ _=>rfl)
  ·rintro q k (⟨_,hk⟩|⟨_,hk⟩)
   ·exact .inl (g2 q k hk)
   ·exact .inr (g2' _ k hk)
  ·rintro q q' k (⟨h1,hk⟩|⟨h1,hk⟩) (⟨h2,hk'⟩|⟨h2,hk'⟩)
   ·exact g3 q q' k hk hk'
   ·exact absurd (g2' _ k hk') (hd k (g2 q k hk))
   ·exact absurd (g2' _ k hk) (hd k (g2 q' k hk'))
   ·have:=g3' _ _ k hk hk';omega)
theorem vF (i j:Nat) {u:Value} {k:Int} {vs:List Value} {xss:List (List α)} {ys:List α} (hij:Nat.beq i j=false) (hf:M[i]? = some (gZ e vs xss)) (hg:M[j]? = some (Ar e u ys)) (h:0<=k∧k<xss.length):
  qV M L ((M.set i (gZ e (vs.set k.toNat u) (xss.set k.toNat ys))).eraseIdx j) L:=fun c w t=>by
 have hl:=cO i hf c w t
 exact Rh (n:=⟨0,[]⟩) (σ:=[]) (G:=fun _ w=>St c ((M.set i (gZ e (vs.set k.toNat u) (xss.set k.toNat ys))).eraseIdx j) L w) (k:=k) i j hij hf hg h.1 (by omega) (fun _ _ _ t=>t) ⟨#[],[]⟩ w ⟨rfl,rfl,fun _ _ h=>by simp[lk]at h⟩ t
theorem aD.tail (l:List aU) {Lf:List aU}:aD M (l++Lf) Lf:=fun f hf=>by
 obtain⟨j,hj⟩:=List.getElem?_of_mem (List.mem_append_right l hf)
 exact aC.fact j hj
theorem bH {l:List Oper} {m:List Nat} {k0:Nat} {rs:List Nat} (k:Nat) (hk:rs.all (Nat.ble k0)=true) (he:rs.map (l[·]?)=(l.drop k).map some) (h:J c n σ M L (wpList P l.toArray Q (l.drop k))):JR c n σ M L H Bs (RW P l.toArray Q (before m) (cD l) k0 rs):=JR.tail hk he h


theorem c_ [cB P] {T T':TypeId} {s1 s2:Nat} {z:Value} {dT:TypeDesc} {x:Operand} {b o:Nat} {cs:List Value} {v:Value} (hx:ev σ x=some (.pointer (some ⟨b,o,none⟩)))
  (hM:aC M L (bS b cs T')) (hT:cB.tab P T=some ⟨dT,s1,s2,z⟩) (hd:vG dT=false) (hv:cs[o]? = some v):Y P c n σ M L ⟨d,.load T x,ty,pos,aft,g⟩ v:=fun a w s t=>by
 obtain⟨F,hF⟩:=hM.st t
 simp[execOp,s.eval hx,vV (cB.ok hT) hd (bS.cell hF hv)]


theorem nD [cB P] {T E:TypeId} {k s1 s2 s3 s4:Nat} {z z':Value} {dE:TypeDesc} {x y:Operand} {b:Nat} {i:Int} (hx:ev σ x=some (.pointer (some ⟨b,0,none⟩))) (hy:ev σ y=some (.int .i64 i))
  (hT:cB.tab P T=some ⟨.array k E,s1,s2,z⟩) (hE:cB.tab P E=some ⟨dE,s3,s4,z'⟩) (h3:(s3==0)=false) (h:0<=i∧i<(k:Int)):
  Y P c n σ M L ⟨d,.indexAddr T x y,ty,pos,aft,g⟩ (.pointer (some ⟨b,i.toNat*s3,none⟩)):=fun a w s t=>by
 have hne:s3≠0:=by simpa using h3
 simp[execOp,s.eval hx,s.eval hy,Instr.indexAt,asIntOf,(cB.ok hT).run_und w,h,Instr.sureAddr,(cB.ok hE).run_size w,hne,dO]
end
end
section
section
variable {P:Program} {rd:Option Nat} {c:tP} {n:Sz} {σ:Fr} {M L M' L':List aU} {Q:Exit->Act->World->Prop} {ops:Array Oper} {rest:List Oper} {K:Act->World->Prop}
variable {d:Option Tmp} {D:Nat} {ty:TypeId} {pos:String} {aft:Array Edge} {g:Option (Nat×Bool)}
variable {α β:Type} {e:cR α} {r:dZ α}
theorem aM.b {A:Nat->Bool} {Mx Lx M L:List aU} {j:Nat} {H:List (Nat×List aU×List aU)} (h:A j=true) (k:aM A Mx Lx H):aM A Mx Lx ((j,M,L)::H):=⟨.inl h,k⟩
theorem aM.h {A:Nat->Bool} {Mx Lx M L:List aU} {j:Nat} {H:List (Nat×List aU×List aU)} (h:aV M Mx) (h':xM L Lx) (k:aM A Mx Lx H):aM A Mx Lx ((j,M,L)::H):=⟨.inr ⟨h,h'⟩,k⟩
theorem aM.z {A:Nat->Bool} {Mx Lx:List aU}:aM A Mx Lx []:=trivial
theorem yO.b {A:Nat->Bool} {Mx Lx M L:List aU} {j:Nat} {H:List (Nat×List aU×List aU)} (h:A j=true) (k:yO A M L H):yO A M L ((j,Mx,Lx)::H):=⟨.inl h,k⟩
theorem yO.h {A:Nat->Bool} {Mx Lx M L:List aU} {j:Nat} {H:List (Nat×List aU×List aU)} (h:aV M Mx) (h':xM L Lx) (k:yO A M L H):yO A M L ((j,Mx,Lx)::H):=⟨.inr ⟨h,h'⟩,k⟩
theorem yO.z {A:Nat->Bool} {M L:List aU}:yO A M L []:=trivial
theorem cK {v:Value} {vs:List Value} (h:one v=true) (k:vs.all one=true):(v::vs).all one=true:=by simp[h,k]
theorem eG (k:IntKind) (x:Int):(Value.int k x).cells = #[.int k x]:=rfl
theorem dR (b:Bool):(Value.bool b).cells = #[.bool b]:=rfl
theorem cT (a:Option Addr) (l k:Nat):(Value.slice a l k).cells = #[.slice a l k]:=rfl
theorem eH (a:Option Addr):(Value.pointer a).cells = #[.pointer a]:=rfl
theorem eI (a:ByteArray):(Value.string a).cells = #[.string a]:=rfl
theorem dU (f:Fn) (a b:Array Value):(Value.func f a b).cells = #[.func f a b]:=rfl
theorem yS (q:Nat) {vs:List Value} {xss:List (List α)} {k:Int} {u:Value} (hr:M[q]? = some (gZ e (vs.set k.toNat u) xss)) (h:0<=k∧k<xss.length):∀c w,St c M L w->Go.Sx.one u=true:=fun c w t=>by
 obtain⟨S,hl,G',g1,_⟩:=t.res hr
 have hlt:k.toNat<vs.length:=by simp at hl;omega
 obtain⟨_,_,hh⟩:=g1 k.toNat u _ (by rw[List.getElem?_set_self hlt]) (List.getElem?_eq_getElem (by omega))
 rcases hh with⟨hu,_⟩|⟨b,off,cap,T,cur,hu,_⟩<;>(rw[hu];rfl)
theorem PQ [cB P] [Inhabited α] {T T':TypeId} {s2:Nat} {z:Value} {dT:TypeDesc} {x:Operand} {b k:Nat} {i:Int} {xs:List α} {u:Value} (hx:ev σ x=some (.pointer (some ⟨b,i.toNat*1,none⟩)))
  (hM:aC M L (bS b (cellsOf e xs) T')) (hT:cB.tab P T=some ⟨dT,1,s2,z⟩) (hd:vG dT=false) (hq:e.sz=1) (hu:(e.enc (at' xs i))=[u]) (h:(0<=i∧i<(k:Int))∧xs.length=k):
  Y P c n σ M L ⟨d,.load T x,ty,pos,aft,g⟩ u:=fun a w s t=>by
 obtain⟨F,hF⟩:=hM.st t
 have hg:=tS e xs i.toNat (at' xs i) (jO h.1.1 (by omega)) 0 u (by rw[hu];rfl)
 rw[hq,Nat.add_zero]at hg
 rw[Nat.mul_one]at hx hg
 simp[execOp,s.eval hx,vV (cB.ok hT) hd (bS.cell hF hg)]
theorem Gr [cB P] (q:Nat) {T T':TypeId} {s2:Nat} {z:Value} {dT:TypeDesc} {x y:Operand} {b k:Nat} {i:Int} {xs:List α} {u:Value} (yv:α) (h:(0<=i∧i<(k:Int))∧xs.length=k) (hx:ev σ x=some (.pointer (some ⟨b,i.toNat*1,none⟩))) (hy:ev σ y=some u)
  (hM:M[q]? = some (bS b (cellsOf e xs) T')) (hu:e.enc yv=[u]) (h1u:one u=true) (hT:cB.tab P T=some ⟨dT,1,s2,z⟩) (hq:e.sz=1)
  (hh:J c n σ (M.set q (bS b (cellsOf e (xs.set i.toNat yv)) T')) L (wpList P ops Q rest)):
  J c n σ M L (wpList P ops Q (⟨none,.store T x y,ty,pos,aft,none⟩::rest)):=by
 rw[Nat.mul_one]at hx
 refine iQ q hx hy h1u hM hT ?_ ?_
 ·have:=dA e xs;rw[hq]at this;rw[Nat.blt_eq];omega
 ·rw[<-uC hq hu];exact hh
end
end
end Go.Sx
end
section
namespace Go.Sx
section
abbrev vI (x:Int):Value:= .int .i64 x
abbrev vU (x:Int):Value:= .int .u32 x
abbrev vP (b:Nat):Value:= .pointer (some ⟨b,0,none⟩)
open Go.RowKit
variable {P:Program} {rd:Option Nat} {c:tP} {n:Sz} {σ:Fr} {M L:List aU} {Q:Exit->Act->World->Prop} {ops:Array Oper} {rest:List Oper} {d:Nat} {ty:TypeId} {pos:String} {aft:Array Edge} {x y:Operand} {v:Value} {K:Act->World->Prop}
theorem qkMove (h:(ev σ x,Nat.blt d n.sz)=(some v,true)) (k:J c n ((d,v)::σ) M L (wpList P ops Q rest)):J c n σ M L (wpList P ops Q (⟨some d,.move x,ty,pos,aft,none⟩::rest)):=aB (fO (Prod.mk.inj h).1) (Prod.mk.inj h).2 k
theorem qkAsg (h:(ev σ x,Nat.blt d n.sz)=(some v,true)) (k:J c n ((d,v)::σ) M L (wpList P ops Q rest)):J c n σ M L (wpList P ops Q (⟨some d,.assign x,ty,pos,aft,none⟩::rest)):=aB (nS (Prod.mk.inj h).1) (Prod.mk.inj h).2 k
theorem qkFld [cB P] {T:TypeId} {s1 s2 s3 s4:Nat} {z z':Value} {fs:Array Field} {nm tg pk:String} {em:Bool} {ft off bo:Nat} {dF:TypeDesc} {b o f:Nat} (h:(ev σ x,cB.tab P T,fs[f]?,cB.tab P ft,s3==0,Nat.blt d n.sz)=(some (.pointer (some ⟨b,o,none⟩)),some ⟨.struct fs,s1,s2,z⟩,some ⟨nm,ft,off,em,tg,pk,bo⟩,some ⟨dF,s3,s4,z'⟩,false,true)) (k:J c n ((d,.pointer (some ⟨b,o+off,none⟩))::σ) M L (wpList P ops Q rest)):J c n σ M L (wpList P ops Q (⟨some d,.fieldAddr T x f,ty,pos,aft,none⟩::rest)):=by
  simp only[Prod.mk.injEq]at h
  exact aB (dY h.1 h.2.1 h.2.2.1 h.2.2.2.1 h.2.2.2.2.1) h.2.2.2.2.2 k
theorem qkLd [cB P] (i:Nat) {T T':TypeId} {s1 s2:Nat} {z:Value} {dT:TypeDesc} {b o:Nat} {cs:List Value} (h:(ev σ x,M[i]?,cB.tab P T,vG dT,cs[o]?,Nat.blt d n.sz)=(some (.pointer (some ⟨b,o,none⟩)),some (bS b cs T'),some ⟨dT,s1,s2,z⟩,false,some v,true)) (k:J c n ((d,v)::σ) M L (wpList P ops Q rest)):J c n σ M L (wpList P ops Q (⟨some d,.load T x,ty,pos,aft,none⟩::rest)):=by
  simp only[Prod.mk.injEq]at h
  exact aB (eX i h.1 h.2.1 h.2.2.1 h.2.2.2.1 h.2.2.2.2.1) h.2.2.2.2.2 k
theorem qkLdA [cB P] (i:Nat) {T T':TypeId} {s2:Nat} {z:Value} {dT:TypeDesc} {b:Nat} {cs:List Value} (h:(ev σ x,M[i]?,cB.tab P T,vG dT,Nat.blt d n.sz)=(some (.pointer (some ⟨b,0,none⟩)),some (bS b cs T'),some ⟨dT,cs.length,s2,z⟩,true,true)) (k:J c n ((d,.agg cs.toArray)::σ) M L (wpList P ops Q rest)):J c n σ M L (wpList P ops Q (⟨some d,.load T x,ty,pos,aft,none⟩::rest)):=by
  simp only[Prod.mk.injEq]at h
  exact aB (gH i h.1 h.2.1 h.2.2.1 h.2.2.2.1) h.2.2.2.2 k
theorem gdSkip {op:Op} {j:Nat} {b b':Bool} (h:(gv ops σ j,b'==b,Nat.blt d n.sz)=(some b',false,true)) (k:J c n ((d,undef)::σ) M L (wpList P ops Q rest)):J c n σ M L (wpList P ops Q (⟨some d,op,ty,pos,aft,some (j,b)⟩::rest)):=by
  simp only[Prod.mk.injEq]at h
  exact Rb h.1 h.2.1 h.2.2 k
theorem gyMove {j:Nat} {b:Bool} (h:(gv ops σ j,ev σ x,Nat.blt d n.sz)=(some b,some v,true)) (k:J c n ((d,v)::σ) M L (wpList P ops Q rest)):J c n σ M L (wpList P ops Q (⟨some d,.move x,ty,pos,aft,some (j,b)⟩::rest)):=by
  simp only[Prod.mk.injEq]at h
  exact aN h.1 (fO h.2.1) h.2.2 k
theorem qkLss {t t':TypeId} {i:IntKind} {p q:Int} (h:(ev σ x,ev σ y,Nat.blt d n.sz)=(some (.int i p),some (.int i q),true)) (k:J c n ((d,.bool (decide (p<q)))::σ) M L (wpList P ops Q rest)):J c n σ M L (wpList P ops Q (⟨some d,.binOp .lss t x y t',ty,pos,aft,none⟩::rest)):=by
  simp only[Prod.mk.injEq]at h
  exact aB (Bu h.1 h.2.1) h.2.2 k
theorem qkEql {t t':TypeId} {i:IntKind} {p q:Int} (h:(ev σ x,ev σ y,Nat.blt d n.sz)=(some (.int i p),some (.int i q),true)) (k:J c n ((d,.bool (decide (p=q)))::σ) M L (wpList P ops Q rest)):J c n σ M L (wpList P ops Q (⟨some d,.binOp .eql t x y t',ty,pos,aft,none⟩::rest)):=by
  simp only[Prod.mk.injEq]at h
  exact aB (Iz h.1 h.2.1) h.2.2 k
theorem qkAdd {t t':TypeId} {i:IntKind} {p q:Int} (h:(ev σ x,ev σ y,Nat.blt d n.sz)=(some (.int i p),some (.int i q),true)) (k:J c n ((d,.int i (wI i (p+q)))::σ) M L (wpList P ops Q rest)):J c n σ M L (wpList P ops Q (⟨some d,.binOp .add t x y t',ty,pos,aft,none⟩::rest)):=by
  simp only[Prod.mk.injEq]at h
  exact aB (wW h.1 h.2.1) h.2.2 k
theorem cdI {th el:Code} {p:Prop} {_:Decidable p} {β:Type} {u w:Option β} {r:β} (h:(if p then u else w)=some r) (hx:ev σ x=some (.bool (decide p))) (ht:p->u=some r->J c n σ M L (th.wpr rd P Q)) (hf:¬p->w=some r->J c n σ M L (el.wpr rd P Q)):J c n σ M L ((Code.cond x th el).wpr rd P Q):=UB hx (fun hp=>ht hp (Kw hp h)) (fun hp=>hf hp (Yq hp h))
theorem eF {th el:Code} {p:Prop} {_:Decidable p} {β:Type} {u w:Option β} {r:β} (h:(if p then u else w)=some r) (hx:ev σ x=some (.bool (decide p))) (ht:u=some r->J c n σ M L (th.wpr rd P Q)) (hf:w=some r->J c n σ M L (el.wpr rd P Q)):J c n σ M L ((Code.cond x th el).wpr rd P Q):=cdI h hx (fun _=>ht) (fun _=>hf)
theorem z_ {th el:Code} {b:Bool} {β:Type} {u w:Option β} {r:β} (h:(if b=true then u else w)=some r) (hx:ev σ x=some (.bool b)) (ht:b=true->u=some r->J c n σ M L (th.wpr rd P Q)) (hf:b=false->w=some r->J c n σ M L (el.wpr rd P Q)):J c n σ M L ((Code.cond x th el).wpr rd P Q):=Jv hx (fun hp=>ht hp (Kw hp h)) (fun hp=>hf hp (Hg hp h))
theorem AW {d:Option Tmp} {op:Op} {j dj:Nat} {p:Prop} {_:Decidable p} {b:Bool} {β:Type} {u w:Option β} {r:β} (h:(if p then u else w)=some r) (hd:((ops[j]?).bind (·.dst),lk σ dj)=(some dj,some (.bool (decide p)))) (ht:p->u=some r->J c n ((dj,.bool true)::σ) M L (wpList P ops Q (⟨d,op,ty,pos,aft,some (j,b)⟩::rest))) (hf:¬p->w=some r->J c n ((dj,.bool false)::σ) M L (wpList P ops Q (⟨d,op,ty,pos,aft,some (j,b)⟩::rest))):J c n σ M L (wpList P ops Q (⟨d,op,ty,pos,aft,some (j,b)⟩::rest)):=Ra (Prod.mk.inj hd).1 (Prod.mk.inj hd).2 (fun hp=>ht hp (Kw hp h)) (fun hp=>hf hp (Yq hp h))
theorem dtN {ops:Array Oper} (h:J c n σ M L K):J c n σ M L (wpList P ops (Exit.then K Q) []):=h
theorem sqR {id:Nat} {l:List Oper} {z:Code} (h:J c n σ M L (wpList P l.toArray (Exit.then (z.wpr rd P Q) Q) l)) (hd:l.all gY=true:=by rfl):J c n σ M L ((Code.seq (Code.region id l.toArray false) z).wpr rd P Q):=aG (aK h hd)
variable {A B:Type} {ret:Unit->Value} {MO LO:Unit->List aU->List aU} {fn:Func} {C:A->Prop} {σI:A->B->Fr} {MI LI:A->B->List aU}
theorem kH {t:Tmp} (h:(ret (),fn.results,lk σ t,MO () [],LO () [],n.ds)=(v,#[.tmp t],some v,M,[],[])):J c n σ M L (fT P fn (KN c ret MO LO) .ret):=by
  simp only[Prod.mk.injEq]at h
  exact gC () h.1 h.2.1 (RV.tmp h.2.2.1) (h.2.2.2.1▸aV.refl _) (by rw[h.2.2.2.2.1];exact aD.nil) h.2.2.2.2.2
theorem vT {t:Tmp} (h:(ret (),fn.results,lk σ t,MO () [],LO () [],n.ds)=(v,#[.tmp t],some v,[],[],[])):J c n σ M L (fT P fn (KN c ret MO LO) .ret):=by
  simp only[Prod.mk.injEq]at h
  exact gC () h.1 h.2.1 (RV.tmp h.2.2.1) (by rw[h.2.2.2.1];exact aV.nil) (by rw[h.2.2.2.2.1];exact aD.nil) h.2.2.2.2.2
theorem midL {x:Code} (C:A->Prop) (σI:A->B->Fr) (MI:A->B->List aU) (h1:J c n σ M L (x.wpr rd P (Exit.then (Rq c n C σI MI (fun _ _=>L)) Q))) (h2:∀a b,C a->J c n (σI a b) (MI a b) L K):J c n σ M L (x.wpr rd P (Exit.then K Q)):=tI C σI MI (fun _ _=>L) h1 h2
theorem loopL {R:Type} {body:Code} (step:A->(A->Option R)->Option R) {r:R} {U:Nat} (σI:A->B->Fr) (MI:A->B->List aU) (a0:A) (b0:B) (h:bE step U a0=some r) (hs:wM σ (σI a0 b0)) (hM:aV M (MI a0 b0)) (round:∀k a b,step a (bE step k)=some r->J c n (σI a b) (MI a b) L (body.wpr rd P (Exit.then (Uz c n step r σI MI (fun _ _=>L) k) Q))):J c n σ M L ((Code.loop body).wpr rd P Q):=Ap step σI MI (fun _ _=>L) a0 b0 h hs hM (aD.refl _ _) round
theorem midU {x:Code} (C:A->Prop) (σI:A->Unit->Fr) (MI:A->Unit->List aU) (h1:J c n σ M L (x.wpr rd P (Exit.then (Rq c n C σI MI (fun _ _=>L)) Q))) (h2:∀a b,C a->J c n (σI a b) (MI a b) L K):J c n σ M L (x.wpr rd P (Exit.then K Q)):=midL C σI MI h1 h2
theorem cJ (h:J c n σ M L K):J c n σ M L (Code.skip.wpr rd P (Exit.then K Q)):=dD h
theorem inT {id:Nat} (h:J c n σ M L K):J c n σ M L (Exit.inBlock id (Exit.then K Q) .normal):=h
theorem eZ {id:Nat} {K1 K2:Act->World->Prop} (h:J c n σ M L K):J c n σ M L ((Code.exit id).wpr rd P (Exit.then K1 (Exit.then K2 (Exit.inBlock id (Exit.then K Q))))):=qE (eC (eC (wK (xI h))))
theorem fM (x:A) (y:B) (hC:C x) (hs:wM σ (σI x y)) (h:(MI x y,LI x y)=(M,L)):J c n σ M L (Rq c n C σI MI LI):=bV x y hC hs ((Prod.mk.inj h).1▸aV.refl _) ((Prod.mk.inj h).2▸aD.refl _ _)
theorem xV {R:Type} {step:A->(A->Option R)->Option R} {r:R} {k:Nat} (x:A) (y:B) (h:bE step k x=some r) (hs:wM σ (σI x y)) (e:(MI x y,LI x y)=(M,L)):J c n σ M L (Uz c n step r σI MI LI k):=mO x y h hs ((Prod.mk.inj e).1▸aV.refl _) ((Prod.mk.inj e).2▸aD.refl _ _)
theorem aJ.callQ {A:Type} {ret:A->Value} {MO:A->List aU->List aU} {f:FuncId} {xs:List Operand} {vs:List Value} {ats:Array TypeId} {L0:List aU} {d:Option Tmp} {g:Option (Nat×Bool)} (hb:aQ P f) (hs:aS P f vs.toArray L0 ret MO (fun _ l=>l)) (hx:xs.map (ev σ)=vs.map some) (hL:aD M L L0) (hMO:∀x l,MO x l=MO x []++l:=by exact fun _ _=>rfl):aJ P c n σ M L ⟨d,.call ⟨.value (.func f),xs.toArray,ats⟩,ty,pos,aft,g⟩ ret (fun x=>MO x M) (fun _=>L):=MU hb hs hx hL hMO
variable {l:List Oper} {m:List Nat} {k0:Nat} {Bs:List (Nat×List aU×List aU)} {rs:List Nat} {i:Nat}
theorem jkMove (h:(l[i]?,ev σ x,Nat.blt i k0,Nat.blt d n.sz)=(some ⟨some d,.move x,ty,pos,aft,none⟩,some v,true,true)) (k:JR c n ((d,v)::σ) M L [] ((i,[],[])::Bs) (RW P l.toArray Q (before m) (cD l) k0 rs)):JR c n σ M L [] Bs (RW P l.toArray Q (before m) (cD l) k0 (i::rs)):=by
  simp only[Prod.mk.injEq]at h
  exact bI h.1 aV.nil xM.nil (fO h.2.1) aM.z k h.2.2.1 rfl h.2.2.2
theorem jkFld [cB P] {T:TypeId} {s1 s2 s3 s4:Nat} {z z':Value} {fs:Array Field} {nm tg pk:String} {em:Bool} {ft off bo:Nat} {dF:TypeDesc} {b o f:Nat} (h:(l[i]?,ev σ x,cB.tab P T,fs[f]?,cB.tab P ft,s3==0,Nat.blt i k0,Nat.blt d n.sz)=(some ⟨some d,.fieldAddr T x f,ty,pos,aft,none⟩,some (.pointer (some ⟨b,o,none⟩)),some ⟨.struct fs,s1,s2,z⟩,some ⟨nm,ft,off,em,tg,pk,bo⟩,some ⟨dF,s3,s4,z'⟩,false,true,true)) (k:JR c n ((d,.pointer (some ⟨b,o+off,none⟩))::σ) M L [] ((i,[],[])::Bs) (RW P l.toArray Q (before m) (cD l) k0 rs)):JR c n σ M L [] Bs (RW P l.toArray Q (before m) (cD l) k0 (i::rs)):=by
  simp only[Prod.mk.injEq]at h
  exact bI h.1 aV.nil xM.nil (dY h.2.1 h.2.2.1 h.2.2.2.1 h.2.2.2.2.1 h.2.2.2.2.2.1) aM.z k h.2.2.2.2.2.2.1 rfl h.2.2.2.2.2.2.2
theorem jkLd [cB P] (p:Nat) {T T':TypeId} {s1 s2:Nat} {z:Value} {dT:TypeDesc} {b o:Nat} {cs:List Value} (h:(l[i]?,ev σ x,M[p]?,cB.tab P T,vG dT,cs[o]?,Nat.blt i k0,Nat.blt d n.sz)=(some ⟨some d,.load T x,ty,pos,aft,none⟩,some (.pointer (some ⟨b,o,none⟩)),some (bS b cs T'),some ⟨dT,s1,s2,z⟩,false,some v,true,true)) (k:JR c n ((d,v)::σ) M L [] ((i,[bS b cs T'],[])::Bs) (RW P l.toArray Q (before m) (cD l) k0 rs)):JR c n σ M L [] Bs (RW P l.toArray Q (before m) (cD l) k0 (i::rs)):=by
  simp only[Prod.mk.injEq]at h
  exact bI h.1 (aV.cons p h.2.2.1 aV.nil) xM.nil (eX 0 h.2.1 rfl h.2.2.2.1 h.2.2.2.2.1 h.2.2.2.2.2.1) aM.z k h.2.2.2.2.2.2.1 rfl h.2.2.2.2.2.2.2
theorem jkLdA [cB P] (p:Nat) {T T':TypeId} {s2:Nat} {z:Value} {dT:TypeDesc} {b:Nat} {cs:List Value} (h:(l[i]?,ev σ x,M[p]?,cB.tab P T,vG dT,Nat.blt i k0,Nat.blt d n.sz)=(some ⟨some d,.load T x,ty,pos,aft,none⟩,some (.pointer (some ⟨b,0,none⟩)),some (bS b cs T'),some ⟨dT,cs.length,s2,z⟩,true,true,true)) (k:JR c n ((d,.agg cs.toArray)::σ) M L [] ((i,[bS b cs T'],[])::Bs) (RW P l.toArray Q (before m) (cD l) k0 rs)):JR c n σ M L [] Bs (RW P l.toArray Q (before m) (cD l) k0 (i::rs)):=by
  simp only[Prod.mk.injEq]at h
  exact bI h.1 (aV.cons p h.2.2.1 aV.nil) xM.nil (gH 0 h.2.1 rfl h.2.2.2.1 h.2.2.2.2.1) aM.z k h.2.2.2.2.2.1 rfl h.2.2.2.2.2.2
end
section
theorem DT {X R:Type} {step:X->(X->Option R)->Option R} {r:R} (I:X->Prop) (μ:X->Nat)
  (h:∀x ag,I x->(∀x',I x'->μ x'<μ x->ag x'=some r)->step x ag=some r):∀(fuel:Nat) (x:X),I x->μ x<fuel->bE step fuel x=some r:=by
 intro fuel
 induction fuel with
 |zero=>intro x _ hx;omega
 |succ k ih=>
  intro x hI hx
  exact h x _ hI fun x' hI' hlt=>ih x' hI' (by omega)
def OK {R:Type} (Q:R->Prop) (o:Option R):Prop:=∃r,o=some r∧Q r
theorem uG {X R:Type} {step:X->(X->Option R)->Option R} {Q:R->Prop} (I:X->Prop) (μ:X->Nat)
  (h:∀x ag,I x->(∀x',I x'->μ x'<μ x->OK Q (ag x'))->OK Q (step x ag)):∀(fuel:Nat) (x:X),I x->μ x<fuel->OK Q (bE step fuel x):=by
 intro fuel
 induction fuel with
 |zero=>intro x _ hx;omega
 |succ k ih=>
  intro x hI hx
  exact h x _ hI fun x' hI' hlt=>ih x' hI' (by omega)
theorem cN {β:Type} {p:Prop} [Decidable p] (hp:p) (x:Option β):ck p x=x:=if_pos hp
theorem wr {x:Int} (h1 : -9223372036854775808<=x) (h2:x<=9223372036854775807):wI .i64 x=x:=if_pos ⟨h1,h2⟩
theorem bB {β γ:Type} {x:Option β} {y:β} {f:β->Option γ} (h:x=some y):x.bind f=f y:=by rw[h];rfl
theorem adq {α:Type} (l r:List α) (x y:α) (i:Nat) (h:l.length=i):(l++x::r).set i y=l++y::r:=by
 rw[List.set_append_right _ _ (by omega)];simp[<-h]
theorem PV {α:Type} [Inhabited α] (l r:List α) (x:α) (i:Nat) (h:l.length=i):at' (l++x::r) (i:Int)=x:=by
 rw[h_,List.getD_eq_getElem?_getD,List.getElem?_append_right (by omega)];simp[<-h]
end
section
theorem dJ {X R:Type} {step:X->(X->Option R)->Option R} {K:Option R} (N:Nat) (F:Nat->X) (hstep:∀(k:Nat) ag,k<N->step (F k) ag=ag (F (k+1))) (hend:∀ag,step (F N) ag=K):∀fuel,N<fuel->bE step fuel (F 0)=K:=by
 have key:∀(d a fuel:Nat),a+d=N->d<fuel->bE step fuel (F a)=K:=by
  intro d
  induction d with
  |zero=>
   intro a fuel ha hf
   obtain rfl:a=N:=by omega
   obtain⟨f,rfl⟩:∃f,fuel=f+1:=⟨fuel - 1,by omega⟩
   exact hend _
  |succ d ih=>
   intro a fuel ha hf
   obtain⟨f,rfl⟩:∃f,fuel=f+1:=⟨fuel - 1,by omega⟩
   show step (F a) (bE step f)=K
   rw[hstep a _ (by omega)]
   exact ih (a+1) f (by omega) (by omega)
 exact fun fuel hf=>key N 0 fuel (by omega) hf
theorem Nx {X R:Type} {step:X->(X->Option R)->Option R} {K bad:Option R} (N:Nat) (p:Nat->Prop) (F:Nat->X) (hok:∀(k:Nat) ag,k<N->p k->step (F k) ag=ag (F (k+1))) (hbad:∀(k:Nat) ag,k<N->¬p k->step (F k) ag=bad) (hend:∀ag,step (F N) ag=K):
  ∀fuel,N<fuel->((∀k,k<N->p k)->bE step fuel (F 0)=K)∧(¬(∀k,k<N->p k)->bE step fuel (F 0)=bad):=by
 have key:∀(d a fuel:Nat),a+d=N->d<fuel->((∀k,a<=k->k<N->p k)->bE step fuel (F a)=K)∧(¬(∀k,a<=k->k<N->p k)->bE step fuel (F a)=bad):=by
  intro d
  induction d with
  |zero=>
   intro a fuel ha hf
   obtain rfl:a=N:=by omega
   obtain⟨f,rfl⟩:∃f,fuel=f+1:=⟨fuel - 1,by omega⟩
   exact⟨fun _=>hend _,fun h=>absurd (fun k h1 h2=>by omega) h⟩
  | succ d ih =>
   intro a fuel ha hf
   obtain⟨f,rfl⟩:∃f,fuel=f+1:=⟨fuel - 1,by omega⟩
   obtain⟨i1,i2⟩:=ih (a+1) f (by omega) (by omega)
   have e:bE step (f+1) (F a)=step (F a) (bE step f):=rfl
   rw[e]
   by_cases hp:p a
   ·rw[hok a _ (by omega) hp]
    refine⟨fun h=>i1 fun k h1 h2=>h k (by omega) h2,fun h=>i2 fun h'=>h fun k h1 h2=> ?_⟩
    by_cases hk:k=a
    ·subst hk;exact hp
    ·exact h' k (by omega) h2
   ·exact⟨fun h=>absurd (h a (Nat.le_refl _) (by omega)) hp,fun _=>hbad a _ (by omega) hp⟩
 intro fuel hf
 obtain⟨h1,h2⟩:=key N 0 fuel (by omega) hf
 exact⟨fun h=>h1 fun k _ hk=>h k hk,fun h=>h2 fun h'=>h fun k hk=>h' k (by omega) hk⟩
theorem uF {X R:Type} {step:X->(X->Option R)->Option R} {K:X->Option R} (N:Nat) (I:Nat->X->Prop) (hstep:∀(k:Nat) x ag,k<N->I k x->∃x',I (k+1) x'∧step x ag=ag x') (hend:∀x ag,I N x->step x ag=K x):∀fuel x,I 0 x->N<fuel->∃x',I N x'∧bE step fuel x=K x':=by
 have key:∀(d a fuel:Nat) (x:X),a+d=N->d<fuel->I a x->∃x',I N x'∧bE step fuel x=K x':=by
  intro d
  induction d with
  |zero=>
   intro a fuel x ha hf hI
   obtain rfl:a=N:=by omega
   obtain⟨f,rfl⟩:∃f,fuel=f+1:=⟨fuel - 1,by omega⟩
   exact⟨x,hI,hend _ _ hI⟩
  |succ d ih=>
   intro a fuel x ha hf hI
   obtain⟨f,rfl⟩:∃f,fuel=f+1:=⟨fuel - 1,by omega⟩
   obtain⟨x',hI',hs⟩:=hstep a x (bE step f) (by omega) hI
   obtain⟨x2,h1,h2⟩:=ih (a+1) f x' (by omega) (by omega) hI'
   exact⟨x2,h1,by rw[<-h2];exact hs⟩
 exact fun fuel x hI hf=>key N 0 fuel x (by omega) hf hI
def UP (q:Nat->Bool):Nat->Bool
 |0=>false
 |k+1=>UP q k||q k
theorem RO {q:Nat->Bool}:∀{k:Nat},UP q k=true↔∃i,i<k∧q i=true
 |0=>by simp[UP]
 | k + 1 => by
  simp only[UP,Bool.or_eq_true,RO (k:=k)]
  constructor
  ·rintro(⟨i,h1,h2⟩|h)
   ·exact⟨i,by omega,h2⟩
   ·exact⟨k,by omega,h⟩
  ·rintro⟨i,h1,h2⟩
   by_cases e:i=k
   ·subst e;exact .inr h2
   ·exact .inl ⟨i,by omega,h2⟩
def j_ (p:Nat->Bool):Nat->Nat
 |0=>0
 |k+1=>if p k then j_ p k ||| 2^k else j_ p k
theorem Lz (p:Nat->Bool):∀k,j_ p k<2^k
 |0=>by simp[j_]
 |k+1=>by
  have h:=Lz p k
  simp only[j_]
  split
  ·exact Nat.or_lt_two_pow (by omega) (Nat.pow_lt_pow_right (by omega) (by omega))
  ·omega
theorem vR (p:Nat->Bool) (j:Nat):∀k,(j_ p k).testBit j=(decide (j<k)&&p j)
 |0=>by simp[j_]
 | k + 1 => by
  have h:=vR p j k
  simp only[j_]
  by_cases e:j=k
  ·subst e
   cases hp:p j<;>simp[h,hp]
  ·have e2:decide (j<k+1)=decide (j<k):=decide_eq_decide.2 (by omega)
   have e3:¬k=j:=fun h=>e h.symm
   split
   ·rw[Nat.testBit_or,h,Nat.testBit_two_pow,e2];simp[e3]
   ·rw[h,e2]
end
end Go.Sx
end
section
set_option linter.unusedSectionVars false
namespace Go.Sx
open Go.RowKit
section defs
variable {κ ν:Type} [DecidableEq κ]
def BE (ek:κ->Value) (ev:ν->Value):Nat->List (κ×ν)->List MapEntry
 |_,[]=>[]
 |i,x::xs=>⟨ek x.1,ev x.2,i⟩::BE ek ev (i+1) xs
def lA (k:κ):List (κ×ν)->Option ν
 | []=>none
 |x::xs=>if k=x.1 then some x.2 else lA k xs
def AL (k:κ) (v:ν):List (κ×ν)->List (κ×ν)
 | []=>[(k,v)]
 |x::xs=>if k=x.1 then(k,v)::xs else x::AL k v xs
def Qk (ev:ν->Value) (k:κ):Nat->List (κ×ν)->Option (Nat×Value)
 |_,[]=>none
 |i,x::xs=>if k=x.1 then some (i,ev x.2)else Qk ev k (i+1) xs
theorem JQ (ev:ν->Value) (k:κ):∀(i:Nat) (l:List (κ×ν)),(Qk ev k i l).map (·.2)=(lA k l).map ev
 |_,[]=>rfl
 |i,x::xs=>by
  simp only[Qk,lA]
  split
  ·rfl
  ·exact JQ ev k (i+1) xs
theorem Ht (ek:κ->Value) (ev:ν->Value):∀(i:Nat) (l:List (κ×ν)) (x:κ×ν),BE ek ev i (l++[x])=BE ek ev i l++[⟨ek x.1,ev x.2,i+l.length⟩]
 |i,[],x=>rfl
 |i,y::ys,x=>by
  simp only[List.cons_append,BE,Ht ek ev (i+1) ys x,List.length_cons]
  rw[show i+1+ys.length=i+(ys.length+1) by omega]
theorem EV (k:κ) (v:ν):∀l:List (κ×ν),lA k l=none->AL k v l=l++[(k,v)]
 | [],_=>rfl
 | x :: xs, h => by
  simp only[lA]at h
  split at h
  ·cases h
  ·rename_i hne
   simp only[AL,if_neg hne,EV k v xs h,List.cons_append]
theorem OI (ek:κ->Value) (ev:ν->Value) (k:κ) (v:ν):∀(i0 i:Nat) (l:List (κ×ν)) (j:Nat) (u:Value),Qk ev k i l=some (j,u)->
  i<=j∧((BE ek ev i l)[j - i]?).map (·.key)=some (ek k)∧BE ek ev i (AL k v l)=(BE ek ev i l).modify (j - i) (fun e=>{e with key:=ek k,val:=ev v})∧(AL k v l).length=l.length
 |_,i,[],j,u,h=>by simp[Qk]at h
 | i0, i, x :: xs, j, u, h => by
  simp only[Qk]at h
  split at h
  ·rename_i he
   simp only[Option.some.injEq,Prod.mk.injEq]at h
   obtain⟨rfl,_⟩:=h
   simp[BE,AL,he]
  ·rename_i hne
   obtain⟨h1,h2,h3,h4⟩:=OI ek ev k v i0 (i+1) xs j u h
   have hj:j - i=(j - (i+1))+1:=by omega
   refine⟨by omega,?_,?_,?_⟩
   ·rw[hj];simpa [BE]using h2
   ·simp only[AL,if_neg hne,BE]
    rw[hj,List.modify_succ_cons,h3]
   ·simp[AL,hne,h4]
end defs
structure Gs (P:Program) (kt:TypeId) {κ:Type} [DecidableEq κ] (ek:κ->Value):Prop where
 chk:∀b k w,(Instr.checkKey b 10000 kt (ek k)).run P w = .ok () w
 find:∀{ν:Type} (ev:ν->Value) (k:κ) (l:List (κ×ν)) w,(Instr.findKey kt (ek k) (BE ek ev 0 l)).run P w = .ok (Qk ev k 0 l) w
 same:∀k,Instr.sameBits 10000 (ek k) (ek k)=true
def Mp {κ ν:Type} (ek:κ->Value) (ev:ν->Value) (r:Nat) (l:List (κ×ν)):aU where
 p w F:=F r∧w.heap[r]? = some (.map (BE ek ev 0 l).toArray l.length)
 mono:=fun⟨h1,h2⟩ h=>by
  obtain⟨h3,h4⟩:=h r h1 (Array.getElem?_eq_some_iff.1 h2).1
  exact⟨h3,by rw[h4];exact h2⟩
section
variable {P:Program} {rd:Option Nat} {c:tP} {n:Sz} {σ:Fr} {M L:List aU} {Q:Exit->Act->World->Prop} {ops:Array Oper} {rest:List Oper}
variable {d:Option Tmp} {ty:TypeId} {pos:String} {aft:Array Edge} {g:Option (Nat×Bool)}
theorem St.push {w:World} (t:St c M L w) (o:Obj) {m:aU} (hm:m.p (w.alloc o) (fun k=>k=w.heap.size)):St c (m::M) L (w.alloc o):=by
 have e:Ju w (w.alloc o):=(Below.refl _ _).alloc (Nat.le_refl _) _
 obtain⟨ho,F,hF,hL⟩:=t
 have hb:∀k,k<w.heap.size->(w.alloc o).heap[k]? = w.heap[k]? := e.block
 refine⟨ho.trans e,fun i k=>match i with|0=>k=w.heap.size|i+1=>F i k,⟨?_,?_,?_⟩,fun f hf=> ?_⟩
 ·intro i m' hm'
  cases i with
  |zero=>simp at hm';subst hm';exact hm
  |succ i=>exact aU.same (hF.res i m' (by simpa using hm')) (fun _ h=>h) (fun k _ hl=>hb k hl)
 ·intro i k hk
  cases i with
  |zero=>subst hk;exact⟨.inl ho.size,by simp⟩
  |succ i=>exact⟨(hF.rng i k hk).1,Nat.lt_of_lt_of_le (hF.rng i k hk).2 e.size⟩
 ·intro i j k hi hj
  cases i with
  |zero=>
   cases j with
   |zero=>rfl
   |succ j=>have:=(hF.rng j k hj).2;simp only at hi;omega
  |succ i=>
   cases j with
   |zero=>have:=(hF.rng i k hi).2;simp only at hj;omega
   |succ j=>exact congrArg (· + 1) (hF.dis i j k hi hj)
 ·exact f.mono (hL f hf) fun k hk hl=>⟨⟨hk.1,fun i hi=>by
   cases i with
   |zero=>simp only at hi;omega
   |succ i=>exact hk.2 i hi⟩,hb k hl⟩
variable {κ ν:Type} [DecidableEq κ] {ek:κ->Value} {ev:ν->Value}
theorem aJ.makeMap (ek:κ->Value) (ev:ν->Value) {T:TypeId}:aJ P c n σ M L ⟨d,.makeMap T none,ty,pos,aft,g⟩ (fun r:Nat=> .map (some r)) (fun r=>Mp ek ev r []::M) (fun _=>L):=fun a w s t=>by
 have hrun:(execOp a.eval ⟨d,.makeMap T none,ty,pos,aft,g⟩).run P w = .ok (.value (.map (some w.heap.size))) (w.alloc (.map #[] 0)):=by
  simp[execOp,Instr.makeMap]
 simp only[Oper.wp,hrun,Oper.upon]
 exact⟨w.heap.size,rfl,t.push _ ⟨rfl,heap_alloc_new w _⟩⟩
theorem NO [cB P] {T kt vt:TypeId} {s1 s2 s3 s4:Nat} {z zv:Value} {dv:TypeDesc} {w:World} {r:Nat} {l:List (κ×ν)} {F:Nat->Prop} (hk:Gs P kt ek) (hM:(Mp ek ev r l).p w F)
  (hT:cB.tab P T=some ⟨.map kt vt,s1,s2,z⟩) (hV:cB.tab P vt=some ⟨dv,s3,s4,zv⟩) (k:κ) (b:Bool):
  (Instr.lookup T (.map (some r)) (ek k) b).run P w = .ok (if b then .tuple #[((lA k l).map ev).getD zv,.bool (lA k l).isSome]else((lA k l).map ev).getD zv) w:=by
 have hg:(getObj r).run P w = .ok (.map (BE ek ev 0 l).toArray l.length) w:=by
  simp[getObj,Sem.run,hM.2]
 have hf:=hk.find ev k l w
 have hfg:=JQ ev k 0 l
 simp only[Instr.lookup]
 simp[(cB.ok hT).run_und w,hg,hk.chk,hf]
 cases hfd:Qk ev k 0 l with
 |none=>
  rw[hfd]at hfg
  have:lA k l=none:=by cases h:lA k l<;>simp[h]at hfg ⊢
  simp[this,(cB.ok hV).run_zero w]
 | some x =>
  rw[hfd]at hfg
  obtain⟨v,hv,hx⟩:∃v,lA k l=some v∧ev v=x.2:=by
   cases h:lA k l with
   |none=>simp[h]at hfg
   |some v=>simp[h]at hfg;exact⟨v,rfl,hfg.symm⟩
  simp[hv,hx]
theorem Ld [cB P] (j:Nat) {T kt vt:TypeId} {s1 s2 s3 s4:Nat} {z zv:Value} {dv:TypeDesc} {x y:Operand} {r:Nat} {l:List (κ×ν)} (k:κ) {b:Bool} (hk:Gs P kt ek) (hx:Go.Sx.ev σ x=some (.map (some r))) (hy:Go.Sx.ev σ y=some (ek k)) (hf:M[j]? = some (Mp ek ev r l))
  (hT:cB.tab P T=some ⟨.map kt vt,s1,s2,z⟩) (hV:cB.tab P vt=some ⟨dv,s3,s4,zv⟩) {u:Value} (hu:((lA k l).map ev).getD zv=u):
  Y P c n σ M L ⟨d,.lookup T x y b,ty,pos,aft,g⟩ (if b then .tuple #[u,.bool (lA k l).isSome]else u):=fun a w s t=>by
 obtain⟨F,hF⟩:=t.res hf
 subst hu
 simp[execOp,s.eval hx,s.eval hy,NO hk hF hT hV]
theorem BH {w:World} {r:Nat} {es:Array MapEntry} {k:Nat} (h:w.heap[r]? = some (.map es k)) (o:Obj):(setObj r o).run P w = .ok () {w with heap:=w.heap.setIfInBounds r o}:=by
 simp[setObj,Sem.run,h]
theorem St.setMap {w:World} (t:St c M L w) {j r:Nat} {l l':List (κ×ν)} (hf:M[j]? = some (Mp ek ev r l)) (o:Obj) (ho:o = .map (BE ek ev 0 l').toArray l'.length):
  St c (M.set j (Mp ek ev r l')) L {w with heap:=w.heap.setIfInBounds r o}:=
 t.upd hf rfl rfl rfl (by simp) fun F hF _=>⟨fun k _ hk=>by
   rw[Array.getElem?_setIfInBounds_ne (fun e=>hk (by subst e;exact hF.1))],F,⟨hF.1,by
    rw[Array.getElem?_setIfInBounds_self_of_lt (Array.getElem?_eq_some_iff.1 hF.2).1,ho]⟩,fun _ h=> .inl h⟩
theorem KB [cB P] (j:Nat) {T kt vt:TypeId} {s1 s2:Nat} {z:Value} {x y v:Operand} {r:Nat} {l:List (κ×ν)} (k:κ) (nv:ν) (hk:Gs P kt ek) (hx:Go.Sx.ev σ x=some (.map (some r))) (hy:Go.Sx.ev σ y=some (ek k)) (hv:Go.Sx.ev σ v=some (ev nv)) (hf:M[j]? = some (Mp ek ev r l))
  (hT:cB.tab P T=some ⟨.map kt vt,s1,s2,z⟩) (h:J c n σ (M.set j (Mp ek ev r (AL k nv l))) L (wpList P ops Q rest)):
  J c n σ M L (wpList P ops Q (⟨none,.mapUpdate T x y v,ty,pos,aft,none⟩::rest)):=fun a w s t=>by
 refine kV rfl ?_
 obtain⟨F,hF⟩:=t.res hf
 have hg:(getObj r).run P w = .ok (.map (BE ek ev 0 l).toArray l.length) w:=by
  simp[getObj,Sem.run,hF.2]
 have hfd:=hk.find ev k l w
 have hfg:=JQ ev k 0 l
 have hrun:∃o:Obj,(execOp a.eval ⟨none,.mapUpdate T x y v,ty,pos,aft,none⟩).run P w = .ok .skip {w with heap:=w.heap.setIfInBounds r o}∧o = .map (BE ek ev 0 (AL k nv l)).toArray (AL k nv l).length:=by
  simp only[execOp,s.eval hx,s.eval hy,s.eval hv,Instr.mapUpdate]
  cases hfn:Qk ev k 0 l with
  |none=>
   rw[hfn]at hfg hfd
   have hn:lA k l=none:=by cases h:lA k l<;>simp[h]at hfg ⊢
   refine⟨.map (BE ek ev 0 l++[(⟨ek k,ev nv,l.length⟩:MapEntry)]).toArray (l.length+1),by simp[(cB.ok hT).run_und w,hg,hk.chk,hfd,BH hF.2],?_⟩
   rw[EV k nv l hn,Ht];simp
  | some q =>
   obtain⟨i,u⟩:=q
   rw[hfn]at hfd
   obtain⟨_,h2,h3,h4⟩:=OI ek ev k nv 0 0 l i u hfn
   rw[Nat.sub_zero]at h2 h3
   have hkey:(((BE ek ev 0 l).toArray[i]?).map (·.key)).getD (ek k)=ek k:=by
    rw[List.getElem?_toArray,h2];rfl
   refine⟨.map ((BE ek ev 0 l).toArray.modify i fun e=>{e with key:=ek k,val:=ev nv}) l.length,?_,?_⟩
   ·have hst:(Instr.keyThatStays (ek k) (ek k)).run P w = .ok (ek k) w:=by simp[Instr.keyThatStays,hk.same k]
    have hkey':(Option.map (fun x=>x.key) (BE ek ev 0 l)[i]?).getD (ek k)=ek k:=by rw[h2];rfl
    simp[(cB.ok hT).run_und w,hg,hk.chk,hfd,hkey',hst,BH hF.2]
   ·rw[h3,h4];simp
 obtain⟨o,hr,ho⟩:=hrun
 simp only[Oper.wp,hr,Oper.upon]
 exact h _ _ s (t.setMap hf o ho)
end
end Go.Sx
end
section
set_option linter.unusedSectionVars false
namespace Go.Sx
open Go.RowKit Go.ChangeMaps
def It (b m len:Nat) (seen:List Nat):aU where
 p w F:=F b∧w.heap[b]? = some (.mapIter (some m) len seen.toArray len)
 mono:=fun⟨h1,h2⟩ h=>by
  obtain⟨h3,h4⟩:=h b h1 (Array.getElem?_eq_some_iff.1 h2).1
  exact⟨h3,by rw[h4];exact h2⟩
section
variable {κ ν:Type} [DecidableEq κ] {ek:κ->Value} {ev:ν->Value} {R:Type}
theorem Kc (ek:κ->Value) (ev:ν->Value):∀(k:Nat) (l:List (κ×ν)) (e:MapEntry),e∈BE ek ev k l->∃i kv,l[i]? = some kv∧e=⟨ek kv.1,ev kv.2,k+i⟩
 |_,[],e,h=>by simp[BE]at h
 | k, x :: xs, e, h => by
  rcases List.mem_cons.1 h with rfl|h
  ·exact⟨0,x,rfl,rfl⟩
  ·obtain⟨i,kv,h1,h2⟩:=Kc ek ev (k+1) xs e h
   exact⟨i+1,kv,h1,by rw[h2,show k+1+i=k+(i+1) by omega]⟩
theorem Kb (ek:κ->Value) (ev:ν->Value):∀(k:Nat) (l:List (κ×ν)) (i:Nat) (kv:κ×ν),l[i]? = some kv->(⟨ek kv.1,ev kv.2,k+i⟩:MapEntry)∈BE ek ev k l
 |_,[],i,kv,h=>by simp at h
 |k,x::xs,0,kv,h=>by simp at h;subst h;exact List.mem_cons_self
 |k,x::xs,i+1,kv,h=>by
  have:=Kb ek ev (k+1) xs i kv (by simpa using h)
  rw[show k+1+i=k+(i+1) by omega]at this
  exact List.mem_cons_of_mem _ this
theorem LE (ek:κ->Value) (ev:ν->Value):∀(k:Nat) (l:List (κ×ν)),(BE ek ev k l).map (·.born)=List.range' k l.length
 |_,[]=>rfl
 |k,x::xs=>by simp[BE,LE ek ev (k+1) xs,List.range'_succ]
def If (step:κ×ν->Option R->Option R) (K:Option R) (l:List (κ×ν)):Option R:=l.foldr step K
def rem (l:List (κ×ν)) (seen:List Nat):List (κ×ν):=((List.range l.length).filter (fun i=> !seen.contains i)).filterMap (fun i=>l[i]?)
theorem I_:∀l:List (κ×ν),(List.range l.length).filterMap (fun i=>l[i]?)=l
 | []=>rfl
 |x::xs=>by
  rw[List.length_cons,List.range_succ_eq_map,List.filterMap_cons]
  simp only[List.getElem?_cons_zero,List.filterMap_map]
  congr 1
  have:=I_ xs
  simpa [Function.comp_def]using this
theorem Wq (l:List (κ×ν)):rem l []=l:=by
 unfold rem
 rw[List.filter_eq_self.2 (by simp),I_]
theorem TP {l:List (κ×ν)} {seen:List Nat} {i:Nat} {kv:κ×ν} (hi:l[i]? = some kv) (hs:i∉seen):∃l1 l2,rem l seen=l1++kv::l2∧rem l (seen++[i])=l1++l2:=by
 have hlt:=aW hi
 have hmem:i∈(List.range l.length).filter (fun i=> !seen.contains i):=by simp[hlt,hs]
 obtain⟨A,B,hAB⟩:=List.append_of_mem hmem
 have hnd:((List.range l.length).filter (fun i=> !seen.contains i)).Nodup:=List.Pairwise.filter _ List.nodup_range
 rw[hAB]at hnd
 have hA:i∉A:=fun h=>by
  have:=(List.nodup_append.1 hnd).2.2 i h i List.mem_cons_self
  exact this rfl
 have hB:i∉B:=fun h=>by
  have:=(List.nodup_cons.1 (List.nodup_append.1 hnd).2.1).1
  exact this h
 refine⟨A.filterMap (fun i=>l[i]?),B.filterMap (fun i=>l[i]?),?_,?_⟩
 ·unfold rem
  rw[hAB,List.filterMap_append,List.filterMap_cons,hi]
 ·unfold rem
  have e:(List.range l.length).filter (fun j=> !(seen++[i]).contains j)=((List.range l.length).filter (fun j=> !seen.contains j)).filter (fun j=>decide (j≠i)):=by
   rw[List.filter_filter]
   apply List.filter_congr
   intro j _
   rw[Bool.eq_iff_iff]
   simp[and_comm]
  rw[e,hAB,List.filter_append,List.filter_cons]
  have fA:A.filter (fun j=>decide (j≠i))=A:=List.filter_eq_self.2 (fun j hj=>by simp;rintro rfl;exact hA hj)
  have fB:B.filter (fun j=>decide (j≠i))=B:=List.filter_eq_self.2 (fun j hj=>by simp;rintro rfl;exact hB hj)
  rw[fA,fB,List.filterMap_append.symm]
  simp
theorem IZ {step:κ×ν->Option R->Option R} (hc:∀a b x,step a (step b x)=step b (step a x)) (K:Option R) (kv:κ×ν) (l2:List (κ×ν)):∀l1:List (κ×ν),If step K (l1++kv::l2)=step kv (If step K (l1++l2))
 | []=>rfl
 |x::xs=>by
  have:=IZ hc K kv l2 xs
  unfold If at this ⊢
  rw[List.cons_append,List.cons_append,List.foldr_cons,List.foldr_cons,this,hc]
end
section
variable {P:Program} {rd:Option Nat} {c:tP} {n:Sz} {σ σ':Fr} {M L M' L':List aU} {Q:Exit->Act->World->Prop} {ops:Array Oper} {rest:List Oper}
variable {d:Option Tmp} {ty:TypeId} {pos:String} {aft:Array Edge} {g:Option (Nat×Bool)}
variable {κ ν:Type} [DecidableEq κ] {ek:κ->Value} {ev:ν->Value} {R:Type}
theorem aJ.range [cB P] (j:Nat) {T kt vt:TypeId} {s1 s2:Nat} {z:Value} {x:Operand} {m:Nat} {l:List (κ×ν)} (hx:Go.Sx.ev σ x=some (.map (some m))) (hf:M[j]? = some (Mp ek ev m l)) (hT:cB.tab P T=some ⟨.map kt vt,s1,s2,z⟩):
  aJ P c n σ M L ⟨d,.range T x,ty,pos,aft,g⟩ (fun b:Nat=> .pointer (some ⟨b,0,none⟩)) (fun b=>It b m l.length []::M) (fun _=>L):=fun a w s t=>by
 obtain⟨F,hF⟩:=t.res hf
 have hrun:(execOp a.eval ⟨d,.range T x,ty,pos,aft,g⟩).run P w = .ok (.value (.pointer (some ⟨w.heap.size,0,none⟩))) (w.alloc (.mapIter (some m) l.length #[] l.length)):=by
  simp[execOp,s.eval hx,run_range_map w T kt vt m _ _ (cB.ok hT).und hF.2]
 simp only[Oper.wp,hrun,Oper.upon]
 exact⟨w.heap.size,rfl,t.push _ ⟨rfl,heap_alloc_new w _⟩⟩
def DX (ek:κ->Value) (ev:ν->Value) (l:List (κ×ν)):Option Nat->Value
 |none=> .tuple #[.bool false]
 |some i=>match l[i]? with
  |some kv=> .tuple #[.bool true,ek kv.1,ev kv.2]
  |none=>undef
def YF (len:Nat) (seen:List Nat):Option Nat->Prop
 |none=>∀i,i<len->i∈seen
 |some i=>i<len∧i∉seen
def Pa (M:List aU) (ji b m len:Nat) (seen:List Nat):Option Nat->List aU
 |none=>M
 |some i=>M.set ji (It b m len (seen++[i]))
theorem St.pureL {w:World} {p:Prop} (hp:p) (t:St c M L w):St c M (Xt p::L) w:=by
 obtain⟨ho,F,hF,hL⟩:=t
 refine⟨ho,F,hF,fun f hf=> ?_⟩
 rcases List.mem_cons.1 hf with rfl|hf
 ·exact hp
 ·exact hL f hf
theorem aJ.next (jm ji:Nat) {x:Operand} {b m:Nat} {l:List (κ×ν)} {seen:List Nat} (hx:Go.Sx.ev σ x=some (.pointer (some ⟨b,0,none⟩))) (hf:M[jm]? = some (Mp ek ev m l)) (hi:M[ji]? = some (It b m l.length seen)):
  aJ P c n σ M L ⟨d,.next x false,ty,pos,aft,g⟩ (DX ek ev l) (Pa M ji b m l.length seen) (fun o=>Xt (YF l.length seen o)::L):=fun a w s t=>by
 obtain⟨F,hF⟩:=t.res hf
 obtain⟨G,hG⟩:=t.res hi
 have hold:∀e∈(BE ek ev 0 l).toArray.toList,e.born<l.length:=fun e he=>by
  obtain⟨i,kv,h1,h2⟩:=Kc ek ev 0 l e (by simpa using he)
  rw[h2];have:=aW h1;simp;omega
 rcases run_next_at (P:=P) w ty b m l.length l.length seen.toArray (BE ek ev 0 l).toArray l.length hG.2 hF.2 hold (Nat.le_refl _)with⟨h0,hr⟩|⟨e,he,w1,hw1,hr⟩
 ·have hrun:(execOp a.eval ⟨d,.next x false,ty,pos,aft,g⟩).run P w = .ok (.value (.tuple #[.bool false])) w:=by
   simp[execOp,s.eval hx,hr]
  simp only[Oper.wp,hrun,Oper.upon]
  refine⟨none,rfl,t.pureL fun i hi'=> ?_⟩
  obtain⟨kv,hkv⟩:∃kv,l[i]? = some kv:=⟨_,List.getElem?_eq_getElem hi'⟩
  have:=all_seen _ _ h0 _ (by simpa using Kb ek ev 0 l i kv hkv)
  simpa using this
 ·have hml:=_root_.Go.mem_left he
  obtain⟨i,kv,h1,h2⟩:=Kc ek ev 0 l e (by simpa using hml.1)
  subst h2
  rw[Nat.zero_add]at hr hml
  have hrun:(execOp a.eval ⟨d,.next x false,ty,pos,aft,g⟩).run P w = .ok (.value (.tuple #[.bool true,ek kv.1,ev kv.2])) (setBlock w1 b (.mapIter (some m) l.length (seen.toArray.push i) l.length)):=by
   simp[execOp,s.eval hx,hr]
  simp only[Oper.wp,hrun,Oper.upon]
  have t1:St c M L w1:=by
   rcases hw1 with rfl|rfl
   ·exact t
   ·exact t.ext ((Below.refl _ _).drew)
  refine⟨some i,by simp[DX,h1],St.pureL ⟨aW h1,by simpa using hml.2⟩ ?_⟩
  refine t1.upd hi rfl rfl rfl (by simp[setBlock]) fun F hF _=>⟨fun k _ hk=> ?_,F,⟨hF.1,?_⟩,fun _ h=> .inl h⟩
  ·simp only[setBlock]
   rw[Array.getElem?_setIfInBounds_ne (fun e=>hk (by subst e;exact hF.1))]
  ·simp only[setBlock]
   rw[Array.getElem?_setIfInBounds_self_of_lt (Array.getElem?_eq_some_iff.1 hF.2).1]
   simp
theorem aJ.entry (jm ji:Nat) {x:Operand} {b m i:Nat} {l:List (κ×ν)} {seen:List Nat} {kv:κ×ν} (hkv:l[i]? = some kv) (hx:Go.Sx.ev σ x=some (.pointer (some ⟨b,0,none⟩))) (hf:M[jm]? = some (Mp ek ev m l)) (hi:M[ji]? = some (It b m l.length (seen++[i]))):
  aJ P c n σ M L ⟨d,.entry x,ty,pos,aft,g⟩ (fun _:Unit=> .tuple #[ek kv.1,ev kv.2]) (fun _=>M) (fun _=>L):=fun a w s t=>by
 obtain⟨F,hF⟩:=t.res hf
 obtain⟨G,hG⟩:=t.res hi
 have he:=Kb ek ev 0 l i kv hkv
 rw[Nat.zero_add]at he
 have hn:((BE ek ev 0 l).toArray.toList.map (·.born)).Nodup:=by
  simp only[LE];exact List.nodup_range'
 have hr:=run_entry_at (P:=P) w b m l.length seen.toArray (BE ek ev 0 l).toArray l.length ⟨ek kv.1,ev kv.2,i⟩ (by rw[hG.2];simp) hF.2 (by simpa using he) hn
 have hrun:(execOp a.eval ⟨d,.entry x,ty,pos,aft,g⟩).run P w = .ok (.value (.tuple #[ek kv.1,ev kv.2])) w:=by
  simp[execOp,s.eval hx,hr]
 simp only[Oper.wp,hrun,Oper.upon]
 exact⟨(),by first|rfl|trivial,t⟩
theorem UE {G:Act->World->Prop} (σ':Fr) (M' L':List aU) (hs:wM σ σ') (hM:aV M M') (hL:aD [] L L') (h:J c n σ' M' L' G):J c n σ M L G:=fun a w s t=>h a w (s.weak hs) (t.weakE hM hL)
theorem MS {kt:TypeId} {d:TypeDesc} (hu:P.underlying kt=some d) (chk:∀b k w,(Instr.checkKey b 10000 kt (ek k)).run P w = .ok () w) (now:∀a b,Instr.sameNow d (ek a) (ek b)=none)
  (eq:∀a b w,(Op.equal kt (ek a) (ek b)).run P w = .ok (decide (a=b)) w) (same:∀k,Instr.sameBits 10000 (ek k) (ek k)=true):Gs P kt ek:=by
 refine⟨chk,fun {ν'} ev' k l w=> ?_,same⟩
 have ask:∀(l:List (κ×ν')) (i:Nat),(Instr.findAsking kt (ek k) (BE ek ev' i l) i).run P w = .ok (Qk ev' k i l) w:=by
  intro l
  induction l with
  |nil=>intro i;simp[BE,Qk,Instr.findAsking]
  |cons x xs ih=>
   intro i
   simp only[BE,Qk,Instr.findAsking]
   simp[eq]
   by_cases h:k=x.1
   ·simp[h]
   ·simp[h,ih]
 unfold Instr.findKey
 cases l with
 |nil=>simp[BE,Qk,Instr.findNow,run_underlying hu w]
 |cons x xs=>
  have h1:Instr.findNow d (ek k) (BE ek ev' 0 (x::xs)) 0=none:=by simp[BE,Instr.findNow,now]
  simp[run_underlying hu w,h1,ask]
def Rp {R:Type} (c:tP) (n:Sz) (σ:Fr) (M L:List aU) (x:Option R) (r:R) (a:Act) (w:World):Prop:=x=some r∧CX n σ a∧St c M L w
theorem MQ {R:Type} {x:Option R} {r:R} (h:x=some r) (hs:wM σ' σ) (hM:aV M' M) (hL:aD [] L' L):J c n σ' M' L' (Rp c n σ M L x r):=fun _ _ s t=>⟨h,s.weak hs,t.weakE hM hL⟩
theorem PL (step:κ×ν->Option R->Option R) {K:Option R} {r:R} (jm ji:Nat) {b m:Nat} {l:List (κ×ν)} (hc:∀a b x,step a (step b x)=step b (step a x)) (h:If step K l=some r)
  (hf:M[jm]? = some (Mp ek ev m l)) (hi:M[ji]? = some (It b m l.length [])) (hne:Nat.beq ji jm=false) {t0 t1 t2:Tmp} (hx:lk σ t0=some (.pointer (some ⟨b,0,none⟩))) (hd1:Nat.blt t1 n.sz=true) (hd2:Nat.blt t2 n.sz=true)
  {id ex:Nat} {y1 y2:TypeId} {q1 q2:String} {f1 f2:Array Edge} {body:Code}
  (round:∀(kv:κ×ν) (i:Nat) (seen:List Nat) (x:Option R),l[i]? = some kv->step kv x=some r->
   J c n ((t2,.bool true)::(t1,.tuple #[.bool true,ek kv.1,ev kv.2])::σ) (M.set ji (It b m l.length (seen++[i]))) L (body.wpr rd P (Exit.then (Rp c n σ (M.set ji (It b m l.length (seen++[i]))) L x r) Q)))
  (fin:∀seen,K=some r->J c n ((t2,.bool false)::(t1,.tuple #[.bool false])::σ) (M.set ji (It b m l.length seen)) L (Q (.exit ex))):
  J c n σ M L ((Code.loop (Code.seq (Code.region id [⟨some t1,.next (.tmp t0) false,y1,q1,f1,none⟩,⟨some t2,.extract (.tmp t1) 0,y2,q2,f2,none⟩].toArray false) (Code.seq (Code.cond (.tmp t2) .skip (.exit ex)) body))).wpr rd P Q):=by
 have hjlt:=aW hi
 have hjm:jm≠ji:=fun e=>by subst e;simp at hne
 have hset:M.set ji (It b m l.length [])=M:=by
  apply List.ext_getElem?
  intro q
  by_cases eq:q=ji
  ·subst eq;rw[List.getElem?_set_self hjlt,hi]
  ·rw[List.getElem?_set_ne (Ne.symm eq)]
 refine Re (X:=List Nat) (fun seen=>seen.Nodup∧(∀i∈seen,i<l.length)∧If step K (rem l seen)=some r) (fun _=>σ) (fun seen=>M.set ji (It b m l.length seen)) (fun _=>L) (fun seen=>l.length - seen.length) [] ⟨List.nodup_nil,by simp,by rw[Wq];exact h⟩ (wM.refl _) (by rw[hset];exact aV.refl _) (fun _ h=>h) ?_
 rintro seen ⟨hnd,hlt,hrun⟩
 have hf':(M.set ji (It b m l.length seen))[jm]? = some (Mp ek ev m l):=by rw[List.getElem?_set_ne (Ne.symm hjm)];exact hf
 have hi':(M.set ji (It b m l.length seen))[ji]? = some (It b m l.length seen):=List.getElem?_set_self hjlt
 refine aG (aK (aF (aJ.next jm ji (x:= .tmp t0) hx hf' hi') hd1 fun o=> ?_))
 refine Xq List.mem_cons_self fun ho=> ?_
 refine Xr (M':=Pa (M.set ji (It b m l.length seen)) ji b m l.length seen o) (L':=L) ?_ (wM.refl _) (aV.refl _) (fun f hf=>List.mem_cons_of_mem _ hf)
 cases o with
 | none =>
  refine aB (eP (vs:=[.bool false]) (by simp[DX,lk,Go.Sx.ev]) rfl) hd2 (dK (xI (aG (FS (by simp[lk,Go.Sx.ev]) (qE (eC (eC ?_)))))))
  refine fin seen ?_
  have:rem l seen=[]:=by
   unfold rem
   rw[List.filter_eq_nil_iff.2 (fun i hi=>by simpa using ho i (by simpa using hi))]
   rfl
  rw[this]at hrun
  exact hrun
 | some i =>
  obtain⟨h1,h2⟩:=ho
  obtain⟨kv,hkv⟩:∃kv,l[i]? = some kv:=⟨_,List.getElem?_eq_getElem h1⟩
  have hval:DX ek ev l (some i) = .tuple #[.bool true,ek kv.1,ev kv.2]:=by simp[DX,hkv]
  obtain⟨l1,l2,e1,e2⟩:=TP hkv h2
  have hstep:step kv (If step K (rem l (seen++[i])))=some r:=by
   rw[e2,<-IZ hc K kv l2 l1,<-e1];exact hrun
  have hMs:Pa (M.set ji (It b m l.length seen)) ji b m l.length seen (some i)=M.set ji (It b m l.length (seen++[i])):=by simp[Pa]
  rw[hval,hMs]
  refine aB (eP (vs:=[.bool true,ek kv.1,ev kv.2]) (by simp[lk,Go.Sx.ev]) rfl) hd2 (dK (xI (aG (Ob (by simp[lk,Go.Sx.ev]) (dD (xI ?_))))))
  refine Rf (round kv i seen _ hkv hstep) fun a w hw=>Es (fun e a' w' q=> ?_) hw
  cases e with
  | normal =>
   obtain⟨hx',hs',ht'⟩:=q
   refine⟨seen++[i],⟨?_,?_,hx'⟩,?_,hs',ht'⟩
   ·rw[List.nodup_append];exact⟨hnd,by simp,fun a ha b hb=>by simp at hb;subst hb;rintro rfl;exact h2 ha⟩
   ·intro j hj
    rcases List.mem_append.1 hj with hj|hj
    ·exact hlt j hj
    ·simp at hj;subst hj;exact h1
   ·have:seen.length<l.length:=by
     have hsub:(seen++[i]).length<=(List.range l.length).length:=by
      apply List.Nodup.length_le_of_subset
      ·rw[List.nodup_append];exact⟨hnd,by simp,fun a ha b hb=>by simp at hb;subst hb;rintro rfl;exact h2 ha⟩
      ·intro j hj
       rcases List.mem_append.1 hj with hj|hj
       ·simpa using hlt j hj
       ·simp at hj;subst hj;simpa using h1
     simp at hsub;omega
    simp;omega
  |exit id=>exact q
  |goto l=>exact q
  |ret=>exact q
  |panic ch=>exact q
  |outgrown=>exact q
end
end Go.Sx
end
section
namespace Go.Sx
open Go.RowKit
section
section
variable {P:Program} {rd:Option Nat} {c:tP} {n:Sz} {σ σ':Fr} {M L M' L':List aU} {Q:Exit->Act->World->Prop} {ops:Array Oper} {rest:List Oper} {K:Act->World->Prop} {G:Act->World->Prop}
variable {d:Option Tmp} {D:Nat} {ty:TypeId} {pos:String} {aft:Array Edge} {g:Option (Nat×Bool)}
variable {α β:Type} {e:cR α} {r:dZ α}


def CW (P:Program) (f:FuncId) (args:Array Value) (Min L:List aU) {A:Type} (ret:A->Value) (MO:A->List aU->List aU):Prop:=
 ∀c:tP,St c Min L c.w0->Calls P f args c.w0 fun e w'=>∃x:A,e = .returned (ret x)∧St c (MO x []) [] w'
theorem CW.of {A:Type} {ret:A->Value} {MO:A->List aU->List aU} {f:FuncId} {fn:Func} {code:Code} {vs:List Value} {m:Nat} {Min:List aU}
  (hf:P.funcs[f]? = some fn) (hb:fn.body=some code) (hn:fn.ntmps=m) (hm:Nat.ble vs.length m=true)
  (h:∀c:tP,J c ⟨m,[]⟩ (vM 0 vs) Min L (code.wpr none P (fT P fn (KN c ret MO (fun _ l=>l))))):CW P f vs.toArray Min L ret MO:=fun c t=>by
 have hle:vs.length<=m:=by simpa using hm
 refine qW hf hb (h c _ _ ⟨rfl,by simp[hn,hle],?_⟩ t)
 intro t v hv
 obtain⟨_,h2⟩:=BB vs 0 t v hv
 rw[Nat.sub_zero]at h2
 have hlt:t<vs.length:=by
  rcases Nat.lt_or_ge t vs.length with h'|h'
  ·exact h'
  ·rw[List.getElem?_eq_none h']at h2;cases h2
 rw[Array.getElem?_append_left (by simpa using hlt)]
 simpa using h2
theorem RD {w w':World} {Min Mr M1:List aU} {F:Nat->Nat->Prop} {U:Nat->Prop} (ho:zT c.O c.w0 w) (hF:WM c w (Min++Mr) F) (hL:∀f∈L,f.p w (Cr c F))
  (t:St ⟨w,U,fun k=>∃i,i<Min.length∧F i k⟩ M1 [] w'):St c (M1++Mr) L w':=by
 obtain⟨ho',F',hF',_⟩:=t
 have hsz:=ho'.size
 have hbl:∀k,k<w.heap.size->(∀i,i<Min.length->¬F i k)->w'.heap[k]? = w.heap[k]? := fun k hk hn=>ho'.block k hk (fun⟨i,hi,hF⟩=>hn i hi hF)
 have hmine:∀i k,F' i k->w.heap.size<=k∨∃j,j<Min.length∧F j k:=fun i k hk=>(hF'.rng i k hk).1
 refine⟨⟨ho'.os.trans ho.os,ho'.tape.trans ho.tape,ho'.output.trans ho.output,Nat.le_trans ho.size hsz,fun k hk hO=> ?_⟩,
  fun i k=>(i<M1.length∧F' i k)∨(M1.length<=i∧F (i - M1.length+Min.length) k),⟨?_,?_,?_⟩,fun f hf=> ?_⟩
 ·refine(hbl k (Nat.lt_of_lt_of_le hk ho.size) (fun i _ hFi=> ?_)).trans (ho.block k hk hO)
  rcases(hF.rng i k hFi).1 with h|h
  ·omega
  ·exact hO h
 ·intro i m hm
  by_cases hi:i<M1.length
  ·rw[List.getElem?_append_left hi]at hm
   exact aU.same (hF'.res i m hm) (fun k hk=> .inl ⟨hi,hk⟩) (fun _ _ _=>rfl)
  ·rw[List.getElem?_append_right (by omega)]at hm
   have hm':(Min++Mr)[i - M1.length+Min.length]? = some m:=by
    rw[List.getElem?_append_right (by omega),Nat.add_sub_cancel];exact hm
   exact aU.same (hF.res _ m hm') (fun k hk=> .inr ⟨by omega,hk⟩) (fun k hk hl=>hbl k hl (fun j hj hFj=>by have:=hF.dis _ _ k hFj hk;omega))
 ·rintro i k (⟨_,hk⟩|⟨_,hk⟩)
  ·refine⟨?_,(hF'.rng i k hk).2⟩
   rcases hmine i k hk with h|⟨j,_,h⟩
   ·exact .inl (Nat.le_trans ho.size h)
   ·exact(hF.rng j k h).1
  ·exact⟨(hF.rng _ k hk).1,Nat.lt_of_lt_of_le (hF.rng _ k hk).2 hsz⟩
 ·rintro i j k (⟨hi,h1⟩|⟨hi,h1⟩) (⟨hj,h2⟩|⟨hj,h2⟩)
  ·exact hF'.dis i j k h1 h2
  ·rcases hmine i k h1 with h|⟨q,hq,h⟩
   ·have:=(hF.rng _ k h2).2;omega
   ·have:=hF.dis _ _ k h h2;omega
  ·rcases hmine j k h2 with h|⟨q,hq,h⟩
   ·have:=(hF.rng _ k h1).2;omega
   ·have:=hF.dis _ _ k h h1;omega
  ·have:=hF.dis _ _ k h1 h2;omega
 ·refine f.mono (hL f hf) fun k hk hl=>⟨⟨hk.1,?_⟩,hbl k hl (fun i _=>hk.2 i)⟩
  rintro i (⟨_,h⟩|⟨_,h⟩)
  ·rcases hmine i k h with h'|⟨q,_,h'⟩
   ·omega
   ·exact hk.2 q h'
  ·exact hk.2 _ h
theorem St.enterM {w:World} {Min Mr L0:List aU} {F:Nat->Nat->Prop} (hF:WM c w (Min++Mr) F) (hL:∀f∈L,f.p w (Cr c F)) (hl:aD Mr L L0):
  St ⟨w,fun k=>∀i,i<Min.length->¬F i k,fun k=>∃i,i<Min.length∧F i k⟩ Min L0 w:=by
 refine⟨zT.refl _,fun i k=>i<Min.length∧F i k,⟨fun i m hm=> ?_,fun i k hk=>⟨.inr ⟨i,hk⟩,(hF.rng i k hk.2).2⟩,fun i j k h1 h2=>hF.dis i j k h1.2 h2.2⟩,fun f hf=> ?_⟩
 ·have hi:i<Min.length:=by
   rcases Nat.lt_or_ge i Min.length with h'|h'
   ·exact h'
   ·rw[List.getElem?_eq_none h']at hm;cases hm
  exact aU.same (hF.res i m (by rw[List.getElem?_append_left hi];exact hm)) (fun k hk=>⟨hi,hk⟩) (fun _ _ _=>rfl)
 ·refine hl f hf w (Cr c F) (fun j k=>F (j+Min.length) k) _ hL (fun j m hj=> ?_) (fun k hk=> ?_) (fun j k hk=> ?_)
  ·exact hF.res _ m (by rw[List.getElem?_append_right (by omega),Nat.add_sub_cancel];exact hj)
  ·exact⟨.inl fun i _=>hk.2 i,fun i hi=>hk.2 i hi.2⟩
  ·exact⟨.inl fun i hi h=>by have:=hF.dis _ _ k h hk;omega,fun i hi=>by have:=hF.dis _ _ k hi.2 hk;omega⟩
theorem As {A:Type} {ret:A->Value} {MO:A->List aU->List aU} {f:FuncId} {xs:List Operand} {vs:List Value} {ats:Array TypeId} {L0 Min Mr:List aU} (hb:aQ P f)
  (hs:CW P f vs.toArray Min L0 ret MO) (hx:xs.map (ev σ)=vs.map some) (hM:aV M (Min++Mr)) (hL:aD Mr L L0) (hMO:∀x l,MO x l=MO x []++l):
  aJ P c n σ M L ⟨d,.call ⟨.value (.func f),xs.toArray,ats⟩,ty,pos,aft,g⟩ ret (fun x=>MO x Mr) (fun _=>L):=fun a w s t=>by
 have hrun:(execOp a.eval ⟨d,.call ⟨.value (.func f),xs.toArray,ats⟩,ty,pos,aft,g⟩).run P w = .ok (.enter f vs.toArray) w:=by
  have e:=Yn s hx
  simp[execOp,resolve,Act.eval,Deferred.ofValue,invoke,hb _ w,e]
 simp only[Oper.wp,hrun,Oper.upon]
 obtain⟨ho,F,hF,hLF⟩:=t.weak (L':=L) hM (fun _ h=>h)
 refine(hs _ (St.enterM hF hLF hL)).mono ?_
 rintro e w' ⟨x,rfl,ht⟩
 refine⟨x,rfl,?_⟩
 rw[hMO]
 exact RD ho hF hLF ht

def UG {A B:Type} (c:tP) (C:A->Prop) (val:A->B->Value) (MI LI:A->B->List aU) (e:Ending) (w:World):Prop:=∃x y,C x∧e = .returned (val x y)∧St c (MI x y) (LI x y) w
theorem Hb {fn:Func} {vs:List Value} {m:Nat} (hn:fn.ntmps=m) (hm:Nat.ble vs.length m=true):CX ⟨m,[]⟩ (vM 0 vs) {tmps:=vs.toArray++Array.replicate (fn.ntmps - vs.toArray.size) undef,defers:=[]}:=by
 have hle:vs.length<=m:=by simpa using hm
 refine⟨rfl,by simp[hn,hle],?_⟩
 intro t v hv
 obtain⟨_,h2⟩:=BB vs 0 t v hv
 rw[Nat.sub_zero]at h2
 have hlt:t<vs.length:=by
  rcases Nat.lt_or_ge t vs.length with h'|h'
  ·exact h'
  ·rw[List.getElem?_eq_none h']at h2;cases h2
 rw[Array.getElem?_append_left (by simpa using hlt)]
 simpa using h2
structure xE (P:Program) (c:tP) (n:Sz) (σ:Fr) (M L:List aU) (o:Oper) (f:FuncId) (vs:List Value):Prop where
 run:∀a w,CX n σ a->St c M L w->(execOp a.eval o).run P w = .ok (.enter f vs.toArray) w
theorem xE.fn {f:FuncId} {xs:List Operand} {vs:List Value} {ats:Array TypeId} (hb:aQ P f) (hx:xs.map (ev σ)=vs.map some):xE P c n σ M L ⟨d,.call ⟨.value (.func f),xs.toArray,ats⟩,ty,pos,aft,g⟩ f vs:=⟨fun a w s _=>by
 have e:=Yn s hx
 simp[execOp,resolve,Act.eval,Deferred.ofValue,invoke,hb _ w,e]⟩
theorem PI {f:FuncId} {t:Tmp} {xs:List Operand} {us cs vs:List Value} {ats:Array TypeId} (hb:aQ P f) (ht:lk σ t=some (.func (.func f) #[] cs.toArray)) (hx:xs.map (ev σ)=us.map some) (hv:us++cs=vs):xE P c n σ M L ⟨d,.call ⟨.value (.tmp t),xs.toArray,ats⟩,ty,pos,aft,g⟩ f vs:=⟨fun a w s _=>by
 have e:=Yn s hx
 have e2:a.eval (.tmp t) = .func (.func f) #[] cs.toArray:=s.eval (x:= .tmp t) ht
 subst hv
 simp[execOp,resolve,e2,Deferred.ofValue,invoke,hb _ w,e]⟩

def HX (P:Program) (c:tP) (n:Sz) (σ:Fr) (M L:List aU) (fn:Func) (v:Value):Prop:=∀a w,CX n σ a->St c M L w->(results fn a.tmps).run P w = .ok v w
variable {fn:Func}
theorem HX.r0 (hres:fn.results = #[]):HX P c n σ M L fn (.tuple #[]):=fun a w _ _=>by simp[results,hres]
theorem HX.r1 {r1:ResultVar} {v1:Value} (hres:fn.results = #[r1]) (h1:RV P c n σ M L r1 v1):HX P c n σ M L fn v1:=fun a w s t=>by
 have:=h1 a w s t
 simp only[yB,hres]
 simp[this]
theorem HX.r2 {r1 r2:ResultVar} {v1 v2:Value} (hres:fn.results = #[r1,r2]) (h1:RV P c n σ M L r1 v1) (h2:RV P c n σ M L r2 v2):HX P c n σ M L fn (.tuple #[v1,v2]):=fun a w s t=>by
 have h1:=h1 a w s t
 have h2:=h2 a w s t
 simp only[yB,hres]
 simp[h1,h2]
theorem zD {A B:Type} {m:Sz} {v:Value} {ex:Exit} {C:A->Prop} {val:A->B->Value} {MI LI:A->B->List aU} (x:A) (y:B) (hC:C x) (hex:ex = .ret∨ex = .normal) (hr:HX P c m σ' M L fn v) (hv:v=val x y) (hM:aV M (MI x y)) (hL:aD [] L (LI x y)) (hds:m.ds=[]:=by rfl):
  J c m σ' M L (fT P fn (UG c C val MI LI) ex):=fun a w s t=>by
 exact body_end hex (s.defers.trans hds) (hr a w s t) ⟨x,y,hC,by rw[hv],t.weakE hM hL⟩
end
end
section
section
variable {P:Program} {rd:Option Nat} {c:tP} {n:Sz} {σ σ':Fr} {M L M' L':List aU} {Q:Exit->Act->World->Prop} {ops:Array Oper} {rest:List Oper} {K:Act->World->Prop} {G:Act->World->Prop}
variable {d:Option Tmp} {D:Nat} {ty:TypeId} {pos:String} {aft:Array Edge} {g:Option (Nat×Bool)}
variable {α β:Type} {e:cR α} {r:dZ α}
theorem KY (i:Nat) {k:Int} {vs:List Value} {xss:List (List α)} (hf:M[i]? = some (gZ e vs xss)) (h:0<=k∧k<xss.length):
  qV M L (Ar e (at' vs k) (at' xss k)::M.set i (gZ e (vs.set k.toNat (.slice none 0 0)) (xss.set k.toNat []))) L:=fun c w t=>by
 obtain⟨ho,F,hF,hL⟩:=t
 obtain⟨hlen,G,g1,g2,g3⟩:=hF.res i _ hf
 have hkl:k.toNat<vs.length:=by omega
 have hlt:i<M.length:=(List.getElem?_eq_some_iff.1 hf).1
 have hrow:=g1 k.toNat _ _ (jO h.1 (by omega)) (jO h.1 h.2)
 refine⟨ho,fun j q=>match j with|0=>G k.toNat q|j+1=>(j=i∧∃j',j'≠k.toNat∧G j' q)∨(j≠i∧F j q),⟨?_,?_,?_⟩,fun f hf=> ?_⟩
 ·intro j m hm
  cases j with
  |zero=>simp at hm;subst hm;exact hrow
  | succ j =>
   rw[List.getElem?_cons_succ]at hm
   by_cases ej:j=i
   ·subst ej
    rw[List.getElem?_set_self hlt]at hm
    cases hm
    refine⟨by simp[hlen],fun j' q=>j'≠k.toNat∧G j' q,fun j' v xs hv hx=> ?_,fun j' q hq=> .inl ⟨rfl,j',hq⟩,fun j1 j2 q h1 h2=>g3 _ _ q h1.2 h2.2⟩
    by_cases e2:j'=k.toNat
    ·subst e2
     rw[List.getElem?_set_self hkl]at hv
     rw[List.getElem?_set_self (by omega)]at hx
     cases hv;cases hx
     exact⟨by simp,rfl,.inl ⟨rfl,rfl⟩⟩
    ·rw[List.getElem?_set_ne (Ne.symm e2)]at hv hx
     exact aU.same (f:=Ar e v xs) (g1 j' v xs hv hx) (fun q hq=>⟨e2,hq⟩) (fun _ _ _=>rfl)
   ·rw[List.getElem?_set_ne (Ne.symm ej)]at hm
    exact aU.same (hF.res j m hm) (fun q hq=> .inr ⟨ej,hq⟩) (fun _ _ _=>rfl)
 ·intro j q hq
  cases j with
  |zero=>exact hF.rng i q (g2 _ q hq)
  |succ j=>
   rcases hq with⟨_,j',_,hq⟩|⟨_,hq⟩
   ·exact hF.rng i q (g2 _ q hq)
   ·exact hF.rng j q hq
 ·intro j1 j2 q h1 h2
  cases j1 with
  | zero =>
   cases j2 with
   |zero=>rfl
   |succ j2=>
    rcases h2 with⟨_,j',hne,h2⟩|⟨hne,h2⟩
    ·exact absurd (g3 _ _ q h2 h1) hne
    ·exact absurd (hF.dis _ _ q h2 (g2 _ q h1)) hne
  | succ j1 =>
   cases j2 with
   |zero=>
    rcases h1 with⟨_,j',hne,h1⟩|⟨hne,h1⟩
    ·exact absurd (g3 _ _ q h1 h2) hne
    ·exact absurd (hF.dis _ _ q h1 (g2 _ q h2)) hne
   |succ j2=>
    congr 1
    rcases h1 with⟨e1,j',_,h1⟩|⟨e1,h1⟩<;>rcases h2 with⟨e2,j'',_,h2⟩|⟨e2,h2⟩
    ·rw[e1,e2]
    ·exact absurd (hF.dis _ _ q h2 (g2 _ q h1)) e2
    ·exact absurd (hF.dis _ _ q h1 (g2 _ q h2)) e1
    ·exact hF.dis _ _ q h1 h2
 ·refine aU.same (hL f hf) (fun q hq=>⟨hq.1,fun j hj=> ?_⟩) (fun _ _ _=>rfl)
  cases j with
  |zero=>exact hq.2 i (g2 _ q hj)
  |succ j=>
   rcases hj with⟨_,j',_,hj⟩|⟨_,hj⟩
   ·exact hq.2 i (g2 _ q hj)
   ·exact hq.2 j hj
theorem KV (i j:Nat) {u:Value} {k:Int} {vs:List Value} {xss:List (List α)} {ys:List α} (hij:Nat.beq i j=false) (hf:M[i]? = some (gZ e (vs.set k.toNat (.slice none 0 0)) (xss.set k.toNat []))) (hg:M[j]? = some (Ar e u ys)) (h:0<=k∧k<(xss.set k.toNat []).length):
  qV M L ((M.set i (gZ e (vs.set k.toNat u) (xss.set k.toNat ys))).eraseIdx j) L:=by
 have:=vF (L:=L) i j hij hf hg h
 rwa[List.set_set,List.set_set]at this

theorem IB {α:Type} [Inhabited α] (l:List α) {j k:Int} (y:α) (h:j.toNat≠k.toNat):at' (l.set j.toNat y) k=at' l k:=by
 rw[at',at',List.getD_eq_getElem?_getD,List.getD_eq_getElem?_getD,List.getElem?_set_ne h]
theorem wV [cB P] (i:Nat) {r:dZ α} (hfit:e.Fits r) {x y:Operand} {u u0:Value} {k j:Int} {vs:List Value} {xss:List (List α)} {ys ys0:List α} {T E:TypeId} {s1 s2 s3 s4:Nat} {z z':Value} {dE:TypeDesc} (hx:ev σ x=some (at' vs k)) (hy:ev σ y=some u) (hf:M[i]? = some (gZ e (vs.set j.toNat u0) (xss.set j.toNat ys0))) (hg:aC M L (Sl r u ys))
  (hT:cB.tab P T=some ⟨.slice E,s1,s2,z⟩) (hE:cB.tab P E=some ⟨dE,s3,s4,z'⟩) (h3:e.sz=s3) (h4:Nat.ble s4 1024=true) (h0:0<=k∧k<xss.length) (hl:((at' xss k).length:Int)+ys.length<=1099511627) (hz:z'.cells.size=s3) (hne:j.toNat≠k.toNat):
  aJ P c n σ M L ⟨d,.call ⟨.builtin .append,#[x,y],#[T,T]⟩,ty,pos,aft,g⟩ (fun v':Value=>v') (fun v'=>M.set i (gZ e ((vs.set j.toNat u0).set k.toNat v') ((xss.set j.toNat ys0).set k.toNat (at' xss k++ys)))) (fun _=>L):=by
 have ex:at' (xss.set j.toNat ys0) k=at' xss k:=IB _ _ hne
 have:=oY (P:=P) (c:=c) (n:=n) (σ:=σ) (M:=M) (L:=L) (d:=d) (ty:=ty) (pos:=pos) (aft:=aft) (g:=g) (x:=x) (y:=y) (u:=u) (k:=k) (vs:=vs.set j.toNat u0) (xss:=xss.set j.toNat ys0) (ys:=ys) i hfit (by rw[IB _ _ hne];exact hx) hy hf hg hT hE h3 h4 (by simpa using h0) (by rw[ex];exact hl) hz
 rwa[ex]at this
theorem Aq (q:Nat) {vs:List Value} {xss:List (List α)} {k j:Int} {u u2:Value} (hr:M[q]? = some (gZ e ((vs.set k.toNat u).set j.toNat u2) xss)) (hne:k.toNat≠j.toNat) (h:0<=k∧k<xss.length):∀c w,St c M L w->Go.Sx.one u=true:=fun c w t=>by
 obtain⟨S,hl,G',g1,_⟩:=t.res hr
 have hlt:k.toNat<vs.length:=by simp at hl;omega
 obtain⟨_,_,hh⟩:=g1 k.toNat u _ (by rw[List.getElem?_set_ne (Ne.symm hne),List.getElem?_set_self hlt]) (List.getElem?_eq_getElem (by omega))
 rcases hh with⟨hu,_⟩|⟨b,off,cap,T,cur,hu,_⟩<;>(rw[hu];rfl)
theorem Oc {A:Type} {val:A->Value} {M' L':A->List aU} {op:Op} (ho:aJ P c n σ M L ⟨none,op,ty,pos,aft,none⟩ val M' L') (h:∀x,J c n σ (M' x) (L' x) (wpList P ops Q rest)):
  J c n σ M L (wpList P ops Q (⟨none,op,ty,pos,aft,none⟩::rest)):=fun a w s t=>
 kV rfl (Hv (lR (fun a' w' ⟨x,he,ht⟩=>by subst he;exact h x _ w' s ht) (ho a w s t)))

end
end
section
section
variable {P:Program} {rd:Option Nat} {c:tP} {n:Sz} {σ σ':Fr} {M L M' L':List aU} {Q:Exit->Act->World->Prop} {ops:Array Oper} {rest:List Oper} {K:Act->World->Prop} {G:Act->World->Prop}
variable {d:Option Tmp} {D:Nat} {ty:TypeId} {pos:String} {aft:Array Edge} {g:Option (Nat×Bool)}
variable {α β:Type} {e:cR α} {r:dZ α}
theorem KH [cB P] (j:Nat) {T:TypeId} {s2:Nat} {z:Value} {dT:TypeDesc} {x y:Operand} {v u:Value} {i:Int} {xs:List α} (yv:α) (hx:ev σ x=some (Cb v (i.toNat*1))) (hy:ev σ y=some u) (hu:e.enc yv=[u]) (h1u:one u=true)
  (hf:M[j]? = some (Ar e v xs)) (hT:cB.tab P T=some ⟨dT,1,s2,z⟩) (hq:e.sz=1) (h0:0<=i) (h1:i<xs.length):
  aJ P c n σ M L ⟨none,.store T x y,ty,pos,aft,none⟩ (fun _:Unit=>undef) (fun _=>M.set j (Ar e v (xs.set i.toNat yv))) (fun _=>L):=fun a w s t=>by
 obtain⟨F,hF⟩:=t.res hf
 have hi:i.toNat<xs.length:=by omega
 have hget:xs[i.toNat]? = some xs[i.toNat]:=List.getElem?_eq_getElem hi
 have hne:xs≠[]:=by intro e;subst e;simp at hi
 obtain⟨p,hp⟩:∃p,e.enc xs[i.toNat]=[p]:=List.length_eq_one_iff.1 ((e.len _).trans hq)
 have hcell:=BU.cell hF hget (j:=0) (u:=p) (by rw[hp];rfl)
 rw[hq,Nat.add_zero,Nat.mul_one]at hcell
 rw[Nat.mul_one]at hx
 have hfree:=Kx hF hne i.toNat
 have hrun:(execOp a.eval ⟨none,.store T x y,ty,pos,aft,none⟩).run P w = .ok .skip (w.setCell (HY v i.toNat) u):=by
  simp only[execOp,s.eval hx,s.eval hy,Cb]
  simp[AO (cB.ok hT) rfl h1u hcell hfree]
 simp only[Oper.wp,hrun,Oper.upon]
 refine⟨(),trivial,t.upd hf rfl rfl rfl (by simp[World.setCell]) fun F hF _=> ?_⟩
 obtain⟨hl,h1,hh⟩:=hF
 rcases hh with⟨_,hh⟩|⟨b,off,cap,T',cur,hv,hFb,hb,hk,hc,ht⟩
 ·exact absurd hh hne
 ·subst hv
  have ha:HY (.slice (some ⟨b,off,none⟩) xs.length cap) i.toNat=⟨b,off+i.toNat,none⟩:=by simp[HY,dO]
  rw[ha]
  refine⟨fun k _ hk'=>Below.heap_setCell _ _ _ _ (fun e=>hk' (by simp only at e;subst e;exact hFb)),F,⟨by simpa using hl,?_,.inr ⟨b,off,cap,T',cur.setIfInBounds (off+i.toNat) u,by simp,hFb,?_,by simpa using hk,by simpa using hc,?_⟩⟩,fun _ h=> .inl h⟩
  ·rw[uC hq hu,List.all_eq_true]
   intro q hq'
   rcases List.mem_or_eq_of_mem_set hq' with h'|h'
   ·exact List.all_eq_true.1 h1 q h'
   ·rw[h'];exact h1u
  ·simp[World.setCell,Array.getElem?_modify,hb]
  ·rw[uC hq hu,<-ht,Array.toList_setIfInBounds,List.length_set,<-take_set]
   congr 1
   rw[List.drop_set,if_neg (by omega),Nat.add_sub_cancel_left]
theorem KG [cB P] (i:Nat) {T T':TypeId} {s2:Nat} {z:Value} {dT:TypeDesc} {x y:Operand} {b o:Nat} {cs:List Value} {v:Value} (hx:ev σ x=some (.pointer (some ⟨b,o,none⟩)))
  (hy:ev σ y=some v) (hv:one v=true) (hM:M[i]? = some (bS b cs T')) (hT:cB.tab P T=some ⟨dT,1,s2,z⟩) (ho:Nat.blt o cs.length=true):
  aJ P c n σ M L ⟨none,.store T x y,ty,pos,aft,none⟩ (fun _:Unit=>undef) (fun _=>M.set i (bS b (cs.set o v) T')) (fun _=>L):=fun a w s t=>by
 obtain⟨F,hF⟩:=t.res hM
 have hlt:o<cs.length:=by simpa [Nat.blt_eq]using ho
 have hrun:(execOp a.eval ⟨none,.store T x y,ty,pos,aft,none⟩).run P w = .ok .skip (w.setCell ⟨b,o,none⟩ v):=by
  simp[execOp,s.eval hx,s.eval hy,AO (cB.ok hT) rfl hv (bS.cell hF (List.getElem?_eq_getElem hlt)) (Ky hF o)]
 simp only[Oper.wp,hrun,Oper.upon]
 exact⟨(),trivial,t.store hM v⟩
theorem nC [cB P] (i:Nat) {T T':TypeId} {s2:Nat} {z:Value} {dT:TypeDesc} {x y:Operand} {b:Nat} {cs vs:List Value} (hx:ev σ x=some (.pointer (some ⟨b,0,none⟩)))
  (hy:ev σ y=some (.agg vs.toArray)) (hv:vs.all one=true) (hM:M[i]? = some (bS b cs T')) (hT:cB.tab P T=some ⟨dT,vs.length,s2,z⟩) (hl:Nat.beq vs.length cs.length=true):
  aJ P c n σ M L ⟨none,.store T x y,ty,pos,aft,none⟩ (fun _:Unit=>undef) (fun _=>M.set i (bS b vs T')) (fun _=>L):=fun a w s t=>by
 obtain⟨F,hF⟩:=t.res hM
 have hlen:vs.length=cs.length:=Nat.eq_of_beq_eq_true hl
 have hone:∀v∈vs,v.oneCell'=true:=fun v hvm=>mZ (by simpa using List.all_eq_true.1 hv v hvm)
 obtain⟨iT,hiT,hsz,_,_⟩:=(cB.ok hT).info
 have hst:=run_storeVar_row (P:=P) w b T' T cs.toArray vs.toArray hF.2 (by simp[hiT,hsz]) (by simp[hlen]) (by simpa using hone)
 have hrun:(execOp a.eval ⟨none,.store T x y,ty,pos,aft,none⟩).run P w = .ok .skip (w.setRow b vs.toArray):=by
  simp[execOp,s.eval hx,s.eval hy,Instr.storeAt,Instr.sureAddr,hst]
 simp only[Oper.wp,hrun,Oper.upon]
 exact⟨(),trivial,t.fill hM⟩
theorem zE [cB P] (j q:Nat) {T:TypeId} {s2:Nat} {z:Value} {dT:TypeDesc} {x y:Operand} {v u:Value} {i:Int} {vs vs':List Value} {xss:List (List α)} (h:0<=i∧i<xss.length) (hx:ev σ x=some (Cb v (i.toNat*1))) (hy:ev σ y=some u)
  (hf:M[j]? = some (Ar cR.raw v vs)) (hr:M[q]? = some (gZ e vs' xss)) (hl:vs'.length=vs.length) (h1u:one u=true) (hT:cB.tab P T=some ⟨dT,1,s2,z⟩):
  aJ P c n σ M L ⟨none,.store T x y,ty,pos,aft,none⟩ (fun _:Unit=>undef) (fun _=>M.set j (Ar cR.raw v (vs.set i.toNat u))) (fun _=>L):=fun a w s t=>by
 have hlen:vs'.length=xss.length:=by obtain⟨_,h⟩:=t.res hr;exact h.1
 exact KH j u hx hy rfl h1u hf hT rfl h.1 (by omega) a w s t
section
variable {l:List Oper} {m:List Nat} {k0:Nat} {H Bs:List (Nat×List aU×List aU)} {rs:List Nat}
theorem oW {A:Type} {val:A->Value} {M' L':A->List aU} {i:Nat} {op:Op}
  (hi:l[i]? = some ⟨none,op,ty,pos,aft,none⟩) (hk:Nat.blt i k0=true) (hl:dG op=true) (ho:aJ P c n σ M L ⟨none,op,ty,pos,aft,none⟩ val M' L')
  (hB:∀x,yO (before m i) (M' x) (L' x) Bs) (h:∀x,JR c n σ (M' x) (L' x) ((i,M,L)::H) Bs (RW P l.toArray Q (before m) (cD l) k0 rs)):
  JR c n σ M L H Bs (RW P l.toArray Q (before m) (cD l) k0 (i::rs)):=fun a w X Y s t hX hY=>by
 have hi':l.toArray[i]? = some ⟨none,op,ty,pos,aft,none⟩:=by simpa using hi
 simp only[RW,hi']
 rw[if_pos (by simp[Region.wanted])]
 refine .inr (.inr ⟨by simpa [Nat.blt_eq]using hk,by simp[cD,hi,hl],lR ?_ (ho a w s t)⟩)
 rintro a' w' ⟨x,rfl,ht⟩
 exact⟨(hB x).use ht hY,h x _ w' _ Y s ht ⟨rfl,t,hX⟩ hY⟩
end

theorem Iw {A B:Type} {f:FuncId} {fn:Func} {code:Code} {vs:List Value} {m:Nat} {op:Op} (C:A->Prop) (val:A->B->Value) (MI LI:A->B->List aU) (he:xE P c n σ M L ⟨d,op,ty,pos,aft,g⟩ f vs) (hf:P.funcs[f]? = some fn) (hb:fn.body=some code) (hn:fn.ntmps=m) (hm:Nat.ble vs.length m=true)
  (h1:J c ⟨m,[]⟩ (vM 0 vs) M L (code.wpr none P (fT P fn (UG c C val MI LI)))):
  aJ P c n σ M L ⟨d,op,ty,pos,aft,g⟩ (fun x:{p:A×B // C p.1}=>val x.1.1 x.1.2) (fun x=>MI x.1.1 x.1.2) (fun x=>LI x.1.1 x.1.2):=fun a w s t=>by
 have hrun:=he.run a w s t
 simp only[Oper.wp,hrun,Oper.upon]
 refine(qW hf hb (h1 _ w (Hb hn hm) t)).mono ?_
 rintro e w' ⟨x,y,hC,rfl,ht⟩
 exact⟨⟨(x,y),hC⟩,rfl,ht⟩
theorem CV {A B:Type} {f:FuncId} {fn:Func} {code:Code} {vs:List Value} {m:Nat} {op:Op} (C:A->Prop) (val:A->B->Value) (MI LI:A->B->List aU) (he:xE P c n σ M L ⟨some D,op,ty,pos,aft,none⟩ f vs) (hf:P.funcs[f]? = some fn) (hb:fn.body=some code) (hn:fn.ntmps=m) (hm:Nat.ble vs.length m=true) (hD:Nat.blt D n.sz=true)
  (h1:J c ⟨m,[]⟩ (vM 0 vs) M L (code.wpr none P (fT P fn (UG c C val MI LI)))) (h2:∀a b,C a->J c n ((D,val a b)::σ) (MI a b) (LI a b) (wpList P ops Q rest)):J c n σ M L (wpList P ops Q (⟨some D,op,ty,pos,aft,none⟩::rest)):=
 aF (Iw C val MI LI he hf hb hn hm h1) hD fun⟨⟨a,b⟩,hC⟩=>h2 a b hC
section
variable {l:List Oper} {mm:List Nat} {k0:Nat} {H Bs:List (Nat×List aU×List aU)} {rs:List Nat}
theorem Od {A B:Type} {i:Nat} {f:FuncId} {fn:Func} {code:Code} {vs:List Value} {m:Nat} {op:Op} (C:A->Prop) (val:A->B->Value) (MI LI:A->B->List aU) (hi:l[i]? = some ⟨some D,op,ty,pos,aft,none⟩) (hk:Nat.blt i k0=true) (hl:dG op=true) (he:xE P c n σ M L ⟨some D,op,ty,pos,aft,none⟩ f vs) (hf:P.funcs[f]? = some fn) (hb:fn.body=some code) (hn:fn.ntmps=m) (hm:Nat.ble vs.length m=true) (hD:Nat.blt D n.sz=true)
  (hB:∀a b,yO (before mm i) (MI a b) (LI a b) Bs) (h1:J c ⟨m,[]⟩ (vM 0 vs) M L (code.wpr none P (fT P fn (UG c C val MI LI)))) (h2:∀a b,C a->JR c n ((D,val a b)::σ) (MI a b) (LI a b) ((i,M,L)::H) Bs (RW P l.toArray Q (before mm) (cD l) k0 rs)):
  JR c n σ M L H Bs (RW P l.toArray Q (before mm) (cD l) k0 (i::rs)):=
 JR.loud hi hk hl (Iw C val MI LI he hf hb hn hm h1) hD (fun _=>hB _ _) fun⟨⟨a,b⟩,hC⟩=>h2 a b hC
end

theorem BY [cB P] {T E:TypeId} {k s1 s2 s3 s4:Nat} {z z':Value} {dE:TypeDesc} {x y:Operand} {v:Value} {o:Nat} {i:Int} (hx:ev σ x=some (Cb v o)) (hy:ev σ y=some (.int .i64 i))
  (hT:cB.tab P T=some ⟨.array k E,s1,s2,z⟩) (hE:cB.tab P E=some ⟨dE,s3,s4,z'⟩) (_h3:(s3==0)=false) (h:0<=i∧i<(k:Int)):
  Y P c n σ M L ⟨d,.indexAddr T x y,ty,pos,aft,g⟩ (Cb v (o+i.toNat*s3)):=fun a w s t=>by
 simp[execOp,s.eval hx,s.eval hy,Instr.indexAt,asIntOf,(cB.ok hT).run_und w,h,Instr.sureAddr,Cb,(cB.ok hE).run_size w,FY]
theorem bP {x:Operand} {b o:Nat} (hx:ev σ x=some (.pointer (some ⟨b,o,none⟩))):Y P c n σ M L ⟨d,.nilCheck x,ty,pos,aft,g⟩ (.pointer (some ⟨b,o,none⟩)):=fun a w s t=>by
 simp[execOp,s.eval hx]

theorem KI [cB P] [Inhabited α] (j:Nat) {T:TypeId} {s2 k o q:Nat} {z:Value} {dT:TypeDesc} {x y:Operand} {v u:Value} {us:List Value} {i:Int} {xs:List α} (yv:α) (h:0<=i∧i<xs.length) (hx:ev σ x=some (Cb v (i.toNat*q+o))) (hy:ev σ y=some u)
  (hf:M[j]? = some (Ar e v xs)) (hq:e.sz=q) (hu:u.cells=us.toArray) (hk:us.length=k) (ho:Nat.ble (o+k) q=true) (hyv:e.enc yv=(e.enc (at' xs i)).take o++us++(e.enc (at' xs i)).drop (o+k)) (h1u:us.all one=true) (hT:cB.tab P T=some ⟨dT,k,s2,z⟩):
  aJ P c n σ M L ⟨none,.store T x y,ty,pos,aft,none⟩ (fun _:Unit=>undef) (fun _=>M.set j (Ar e v (xs.set i.toNat yv))) (fun _=>L):=fun a w s t=>by
 subst hq hk
 have hok:o+us.length<=e.sz:=by simpa using ho
 have hi:i.toNat<xs.length:=by omega
 have t0:=t
 obtain⟨hoo,FF,hO,hLL⟩:=t0
 obtain⟨h0,hone,hh⟩:=hO.res j _ hf
 rcases hh with⟨_,rfl⟩|⟨b,off,cap,T',cur,rfl,hFb,hbk,hcp,hc,ht⟩
 ·simp at hi
 -- the parts of the row
 obtain⟨l,x0,tl,hxs,hl⟩:∃l x0 tl,xs=l++x0::tl∧l.length=i.toNat:=⟨xs.take i.toNat,xs[i.toNat],xs.drop (i.toNat+1),by rw[List.getElem_cons_drop,List.take_append_drop],by simp;omega⟩
 have hat:at' xs i=x0:=by
  rw[at',List.getD_eq_getElem?_getD,<-hl,hxs,List.getElem?_append_right (Nat.le_refl _)];simp
 rw[hat]at hyv
 have eE:=e.len x0
 have eA:(cellsOf e l).length=i.toNat*e.sz:=by rw[dA,hl]
 have hcells:cellsOf e xs=cellsOf e l++(e.enc x0++cellsOf e tl):=by rw[hxs];simp[cellsOf]
 have hset:cellsOf e (xs.set i.toNat yv)=cellsOf e l++(e.enc yv++cellsOf e tl):=by
  have:xs.set i.toNat yv=l++yv::tl:=by rw[hxs,<-hl,List.set_append_right _ _ (Nat.le_refl _)];simp
  rw[this];simp[cellsOf]
 have hmul:xs.length*e.sz<=cap*e.sz:=Nat.mul_le_mul_right _ hcp
 obtain⟨Hd,R,hcur,hH⟩:∃Hd R,cur.toList=Hd++(cellsOf e l++(e.enc x0++(cellsOf e tl++R)))∧Hd.length=off:=by
  refine⟨cur.toList.take off,(cur.toList.drop off).drop (xs.length*e.sz),?_,by simp;omega⟩
  have e1:cellsOf e l++(e.enc x0++(cellsOf e tl++(cur.toList.drop off).drop (xs.length*e.sz)))=cur.toList.drop off:=by
   have:cellsOf e l++(e.enc x0++(cellsOf e tl++(cur.toList.drop off).drop (xs.length*e.sz)))=cellsOf e xs++(cur.toList.drop off).drop (xs.length*e.sz):=by rw[hcells];simp
   rw[this,<-ht,List.take_append_drop]
  rw[e1,List.take_append_drop]
 have hsize:cur.size=cur.toList.length:=by simp
 have hp1:cur.toList.take (off+(i.toNat*e.sz+o))=Hd++(cellsOf e l++(e.enc x0).take o):=by
  have:cur.toList=(Hd++(cellsOf e l++(e.enc x0).take o))++((e.enc x0).drop o++(cellsOf e tl++R)):=by
   rw[hcur,List.append_assoc,List.append_assoc,<-List.append_assoc ((e.enc x0).take o),List.take_append_drop]
  rw[this]
  exact List.take_left' (by simp[hH,eA,eE];omega)
 have hp2:cur.toList.drop (off+(i.toNat*e.sz+o)+us.length)=(e.enc x0).drop (o+us.length)++(cellsOf e tl++R):=by
  have:cur.toList=(Hd++(cellsOf e l++(e.enc x0).take (o+us.length)))++((e.enc x0).drop (o+us.length)++(cellsOf e tl++R)):=by
   rw[hcur,List.append_assoc,List.append_assoc,<-List.append_assoc ((e.enc x0).take (o+us.length)),List.take_append_drop]
  rw[this]
  exact List.drop_left' (by simp[hH,eA,eE];omega)
 have hbound:(i.toNat+1)*e.sz<=xs.length*e.sz:=Nat.mul_le_mul_right _ (by omega)
 have hb2:(i.toNat+1)*e.sz=i.toNat*e.sz+e.sz:=by rw[Nat.add_mul,Nat.one_mul]
 have hfit:off+(i.toNat*e.sz+o)+0+us.length<=cur.size:=by omega
 have hst:=run_storeCells_at P b (off+(i.toNat*e.sz+o)) T' us 0 cur w hbk hfit (fun u hu=>mZ (List.all_eq_true.1 h1u u hu))
 simp only[Nat.add_zero]at hst
 have hsz:(cB.ok hT).run_size w=(cB.ok hT).run_size w:=rfl
 have hrun:(execOp a.eval ⟨none,.store T x y,ty,pos,aft,none⟩).run P w = .ok .skip (w.setRow b (cur.toList.take (off+(i.toNat*e.sz+o))++us++cur.toList.drop (off+(i.toNat*e.sz+o)+us.length)).toArray):=by
  simp[execOp,s.eval hx,s.eval hy,Cb,HY,Instr.storeAt,Instr.sureAddr,storeVar,hu,(cB.ok hT).run_size w,dO,hst]
 simp only[Oper.wp,hrun,Oper.upon]
 refine⟨(),trivial,?_⟩
 refine FW hoo hO hLL hf rfl rfl rfl (by simp) (fun k _ hk'=>setRow_other w b k _ (fun e=>hk' (by subst e;exact hFb))) (F':=FF j) ?_ (fun k hk=> .inl hk)
 have hlen2:(e.enc yv).length=e.sz:=e.len yv
 refine⟨by simpa using h0,?_,.inr ⟨b,off,cap,T',_,by simp,hFb,setRow_heap w b _ _ T' _ hbk,by simpa using hcp,?_,?_⟩⟩
 ·rw[hset]
  rw[hcells]at hone
  simp only[List.all_append,Bool.and_eq_true]at hone ⊢
  refine⟨hone.1,?_,hone.2.2⟩
  rw[hyv]
  simp only[List.all_append,Bool.and_eq_true]
  refine⟨⟨List.all_eq_true.2 fun u hu=>List.all_eq_true.1 hone.2.1 u (List.mem_of_mem_take hu),h1u⟩,List.all_eq_true.2 fun u hu=>List.all_eq_true.1 hone.2.1 u (List.mem_of_mem_drop hu)⟩
 ·simp only[List.size_toArray,List.length_append,List.length_take,List.length_drop]
  omega
 ·show((cur.toList.take _++us++cur.toList.drop _).drop off).take ((xs.set i.toNat yv).length*e.sz)=_
  rw[hp1,hp2,hset,hyv,List.length_set]
  have e3:(Hd++(cellsOf e l++(e.enc x0).take o)++us++((e.enc x0).drop (o+us.length)++(cellsOf e tl++R)))=Hd++((cellsOf e l++(((e.enc x0).take o++us++(e.enc x0).drop (o+us.length))++cellsOf e tl))++R):=by simp
  rw[e3,<-hH,List.drop_left]
  refine List.take_left' ?_
  have hT2:(cellsOf e tl).length=tl.length*e.sz:=dA e tl
  have hxl:xs.length=i.toNat+1+tl.length:=by rw[hxs,<-hl];simp;omega
  rw[hyv]at hlen2
  rw[List.length_append,List.length_append,hlen2,eA,hT2,hxl,Nat.add_mul,Nat.add_mul,Nat.one_mul]
  omega
end
end
section
def ZB (D:Nat):aU where
 p w F:=F D∧w.heap[D]? = some (.deferred (some []))
 mono:=fun⟨h1,h2⟩ h=>by
  obtain⟨h3,h4⟩:=h D h1 (Array.getElem?_eq_some_iff.1 h2).1
  exact⟨h3,by rw[h4];exact h2⟩
structure Rx where
 n:Nat
 σ:Fr
 ps:Array Tmp
 assign:Code
 body:Code
 D:Nat
def Lp (l:Nat) (R:Rx) (st:LoopState) (pend:Option Code):aU where
 p w F:=F l∧∃(fn:FuncId) (tmps:Array Value),tmps.size=R.n∧(∀t v,lk R.σ t=some v->tmps[t]? = some v)∧
  w.heap[l]? = some (.loop {state:=st,pending:=pend,fn:=fn,tmps:=tmps,params:=R.ps,assign:=R.assign,body:=R.body,defers:=R.D})
 mono:=fun⟨h1,fn,tmps,h2,h3,h4⟩ h=>by
  obtain⟨h5,h6⟩:=h l h1 (Array.getElem?_eq_some_iff.1 h4).1
  exact⟨h5,fn,tmps,h2,h3,by rw[h6];exact h4⟩
def Tu (D:Nat):Deferred:={target:= .collected D,args:= #[]}
def uW (l:Nat):Value:= .func (.yield l) #[] #[]
section
variable {P:Program} {rd:Option Nat} {c:tP} {n m:Sz} {σ σ':Fr} {M L:List aU} {Q:Exit->Act->World->Prop} {K G:Act->World->Prop}
theorem St.putLp {w:World} {l i:Nat} {R:Rx} {st st':LoopState} {pend pend':Option Code} (t:St c M L w) (hi:M[i]? = some (Lp l R st pend)) {r:Loop} (hr:w.heap[l]? = some (.loop r)):
  St c (M.set i (Lp l R st' pend')) L (w.putObj l (.loop {r with state:=st',pending:=pend'})):=by
 refine t.upd hi rfl rfl rfl (by simp) fun F hF _=>⟨fun k _ hk=> ?_,F,?_,fun _ h=> .inl h⟩
 ·exact World.putObj_heap_other (fun e=>hk (by subst e;exact hF.1))
 ·obtain⟨h1,fn,tmps,h2,h3,h4⟩:=hF
  rw[h4]at hr
  cases hr
  exact⟨h1,fn,tmps,h2,h3,World.putObj_heap_same (Array.getElem?_eq_some_iff.1 h4).1⟩
def Ry (P:Program) (n:Sz) (σ:Fr) (l D:Nat) (Q:Exit->Act->World->Prop) (e:Ending) (w:World):Prop:=
 ∀a,CX ⟨n.sz,Tu D::n.ds⟩ σ a->rangePost (FR none) 0 P l Q a e w
theorem KC {g:Operand} {ps:Array Tmp} {assign body:Code} {f:FuncId} {fn:Func} {code:Code} {cs:List Value} {k:Nat} (hb:aQ P f) (hx:ev σ g=some (.func (.func f) #[] cs.toArray)) (hf:P.funcs[f]? = some fn) (hbd:fn.body=some code) (hn:fn.ntmps=k) (hm:Nat.ble (cs.length+1) k=true)
  (h:∀l D,J c ⟨k,[]⟩ (vM 0 (uW l::cs)) (Lp l ⟨n.sz,σ,ps,assign,body,D⟩ .ready none::ZB D::M) L (code.wpr none P (fT P fn (Ry P n σ l D Q)))):
  J c n σ M L ((Code.rangeFunc g ps assign body).wpr none P Q):=fun a w s t=>by
 refine wpIn_rangeFunc fun fn' _=> ?_
 have hev:a.eval g = .func (.func f) #[] cs.toArray:=s.eval hx
 let W:World:=(w.alloc (.deferred (some []))).alloc (.loop {state:= .ready,pending:=none,fn:=fn',tmps:=a.tmps,params:=ps,assign:=assign,body:=body,defers:=w.heap.size})
 refine⟨_,_,_,{target:= .fn (.func f) cs.toArray,args:= #[uW (w.heap.size+1)]},W,f,(uW (w.heap.size+1)::cs).toArray,W,run_enterLoop_outer fn' a.tmps ps assign body,?_,fun _ _=>trivial,?_,(fun hc=>by cases hc),?_⟩
 ·have hc:∀v,a.eval (.const v)=v:=fun _=>rfl
  simp[resolve,hev,hc,Deferred.ofValue,uW,W]
 ·simp[invoke,hb _ _,uW]
 ·have t1:St c (ZB w.heap.size::M) L (w.alloc (.deferred (some []))):=t.push _ ⟨rfl,heap_alloc_new w _⟩
  have t2:St c (Lp (w.heap.size+1) ⟨n.sz,σ,ps,assign,body,w.heap.size⟩ .ready none::ZB w.heap.size::M) L ((w.alloc (.deferred (some []))).alloc (.loop {state:= .ready,pending:=none,fn:=fn',tmps:=a.tmps,params:=ps,assign:=assign,body:=body,defers:=w.heap.size})):=by
   have:=t1.push (.loop {state:= .ready,pending:=none,fn:=fn',tmps:=a.tmps,params:=ps,assign:=assign,body:=body,defers:=w.heap.size}) (m:=Lp (w.heap.size+1) ⟨n.sz,σ,ps,assign,body,w.heap.size⟩ .ready none)
    ⟨by simp,fn',a.tmps,s.size,s.slot,by rw[<-World.size_alloc w (.deferred (some []))];exact heap_alloc_new _ _⟩
   exact this
  refine Oz ((qW hf hbd (h (w.heap.size+1) w.heap.size _ _ (Hb hn (by simpa using hm)) t2)).mono ?_)
  intro e w' he
  exact he _ ⟨by simp[Tu,s.defers],s.size,s.slot⟩
theorem Ri {fn:Func} {ex:Exit} {v:Value} {l D i:Nat} {R:Rx} (hex:ex = .ret∨ex = .normal) (hi:M[i]? = some (Lp l R .ready none)) (hr:HX P c m σ' M L fn v) (h:J c ⟨n.sz,Tu D::n.ds⟩ σ (M.set i (Lp l R .exhausted none)) L (Q .normal)) (hds:m.ds=[]:=by rfl):
  J c m σ' M L (fT P fn (Ry P n σ l D Q) ex):=fun a w s t=>by
 refine body_end hex (s.defers.trans hds) (hr a w s t) fun a' s'=> ?_
 obtain⟨F,h1,fn',tmps,h2,h3,h4⟩:=t.res hi
 exact⟨none,_,run_endLoop h4 (by simp),h a' _ s' (t.putLp hi h4)⟩
theorem UD {fn:Func} {ex:Exit} {v:Value} {l D i:Nat} {R:Rx} (hex:ex = .ret∨ex = .normal) (hi:M[i]? = some (Lp l R .done (some .ret))) (hr:HX P c m σ' M L fn v) (h:J c ⟨n.sz,Tu D::n.ds⟩ σ (M.set i (Lp l R .exhausted (some .ret))) L (Q .ret)) (hds:m.ds=[]:=by rfl):
  J c m σ' M L (fT P fn (Ry P n σ l D Q) ex):=fun a w s t=>by
 refine body_end hex (s.defers.trans hds) (hr a w s t) fun a' s'=> ?_
 obtain⟨F,h1,fn',tmps,h2,h3,h4⟩:=t.res hi
 exact⟨some .ret,_,run_endLoop h4 (by simp),wpIn_ret (h a' _ s' (t.putLp hi h4))⟩
def QU (P:Program) (l:Nat) (G:Act->World->Prop) (a:Act) (w:World):Prop:=∃w',(Instr.beginRound l).run P w = .ok () w'∧G a w'
theorem Oa {l i:Nat} {R:Rx} {pend:Option Code} (hi:M[i]? = some (Lp l R .ready pend)) (h:J c n σ (M.set i (Lp l R .busy pend)) L G):J c n σ M L (QU P l G):=fun a w s t=>by
 obtain⟨F,h1,fn',tmps,h2,h3,h4⟩:=t.res hi
 exact⟨_,run_beginRound h4 rfl,h a _ s (t.putLp hi h4)⟩
def Rz (n:Sz) (σ:Fr) (d:Nat) (K:Act->World->Prop) (e:Ending) (w:World):Prop:=∃v,e = .returned v∧∀a,CX n ((d,v)::σ) a->K a w
theorem Gq {l i d:Nat} {R:Rx} {pend:Option Code} (hi:M[i]? = some (Lp l R .busy pend)) (h:J c m ((d,.bool true)::σ') (M.set i (Lp l R .ready none)) L K):J c n σ M L (roundPost P l (Rz m σ' d K) .normal):=fun a w s t=>by
 obtain⟨F,h1,fn',tmps,h2,h3,h4⟩:=t.res hi
 exact⟨_,_,run_endRound none h4,_,rfl,fun a' s'=>h a' _ s' (t.putLp hi h4)⟩
theorem Rj {l i d:Nat} {R:Rx} {pend:Option Code} (hi:M[i]? = some (Lp l R .busy pend)) (h:J c m ((d,.bool false)::σ') (M.set i (Lp l R .done (some .ret))) L K):J c n σ M L (roundPost P l (Rz m σ' d K) .ret):=fun a w s t=>by
 obtain⟨F,h1,fn',tmps,h2,h3,h4⟩:=t.res hi
 exact⟨_,_,run_endRound (some .ret) h4,_,rfl,fun a' s'=>h a' _ s' (t.putLp hi h4)⟩
def Dh:List Tmp->List Value->Fr->Fr
 |t::ts,v::vs,σ=>Dh ts vs ((t,v)::σ)
 |_,_,σ=>σ
theorem G_:∀(ps:List Tmp) (vs:List Value) (tmps:Array Value) (σ:Fr) (k:Nat),tmps.size=k->ps.all (fun t=>Nat.blt t k)=true->(∀t v,lk σ t=some v->tmps[t]? = some v)->
  ((ps.zip vs).foldl (fun tmps (x:Tmp×Value)=>tmps.setIfInBounds x.1 x.2) tmps).size=k∧∀t v,lk (Dh ps vs σ) t=some v->((ps.zip vs).foldl (fun tmps (x:Tmp×Value)=>tmps.setIfInBounds x.1 x.2) tmps)[t]? = some v
 | [],_,tmps,σ,k,h1,_,h3=>by simpa [Dh]using ⟨h1,h3⟩
 |_::_,[],tmps,σ,k,h1,_,h3=>by simpa [Dh]using ⟨h1,h3⟩
 | p :: ps, x :: vs, tmps, σ, k, h1, h2, h3 => by
  simp only[List.all_cons,Bool.and_eq_true]at h2
  have hp:p<k:=by simpa [Nat.blt_eq]using h2.1
  simp only[List.zip_cons_cons,List.foldl_cons,Dh]
  refine G_ ps vs _ _ k (by simp[h1]) h2.2 fun t v hv=> ?_
  simp only[lk]at hv
  by_cases e:t=p
  ·subst e
   simp at hv
   subst hv
   simp[h1,hp]
  ·rw[lC e]at hv
   simp only[cond_false]at hv
   rw[Array.getElem?_setIfInBounds_ne (Ne.symm e)]
   exact h3 t v hv
theorem UF {ops:Array Oper} {rest:List Oper} {t:Tmp} {xs:List Operand} {us:List Value} {ats:Array TypeId} {d:Nat} {ty:TypeId} {pos:String} {aft:Array Edge} {l i:Nat} {R:Rx} {ps:List Tmp} (ht:lk σ t=some (uW l)) (hx:xs.map (ev σ)=us.map some) (hi:M[i]? = some (Lp l R .ready none)) (hps:R.ps=ps.toArray) (hlen:us.length=ps.length) (hall:ps.all (fun t=>Nat.blt t R.n)=true) (hd:Nat.blt d n.sz=true)
  (h:J c ⟨R.n,[]⟩ (Dh ps us R.σ) M L (R.assign.wpr (some l) P (Exit.then (QU P l (R.body.wpr (some l) P (roundPost P l (Rz n σ d (wpList P ops Q rest))))) (fun _ _ _=>False)))):
  J c n σ M L (wpList P ops Q (⟨some d,.call ⟨.value (.tmp t),xs.toArray,ats⟩,ty,pos,aft,none⟩::rest)):=fun a w s tt=>by
 obtain⟨F,h1,fn',tmps,h2,h3,h4⟩:=tt.res hi
 have e:=Yn s hx
 have e2:a.eval (.tmp t)=uW l:=s.eval (x:= .tmp t) ht
 have hy:=run_yield (P:=P) (args:=us.toArray) h4 (by simp[hps,hlen])
 have hrun:(execOp a.eval ⟨some d,.call ⟨.value (.tmp t),xs.toArray,ats⟩,ty,pos,aft,none⟩).run P w=(Instr.yield l us.toArray).run P w:=by
  simp[execOp,resolve,e2,uW,Deferred.ofValue,invoke,e]
 unfold wpList
 rw[if_pos (show Region.wanted _ _=true from rfl)]
 refine .inr ⟨_,_,_,_,_,_,hrun.trans hy,?_⟩
 refine RoundIn.mono (R:=Rz n σ d (wpList P ops Q rest)) (roundIn_of_wpIn (F:=FR none) trivial ?_) ?_
 ·obtain⟨f1,f2⟩:=G_ ps us tmps R.σ R.n h2 hall h3
  have:=h {tmps:=(ps.zip us).foldl (fun tmps (x:Tmp×Value)=>tmps.setIfInBounds x.1 x.2) tmps,defers:=[]} w ⟨rfl,f1,f2⟩ tt
  simp only[hps,List.zip_toArray,List.foldl_toArray]
  exact this
 ·rintro e w'' ⟨v,rfl,hv⟩
  exact⟨v,rfl,hv _ (s.put d v hd)⟩
theorem Jw {g:Operand} {ps:Array Tmp} {assign body:Code} {f:FuncId} {fn:Func} {code:Code} {cs:List Value} {k:Nat} (hb:aQ P f) (hx:ev σ g=some (.func (.func f) #[] cs.toArray)) (hf:P.funcs[f]? = some fn) (hbd:fn.body=some code) (hn:fn.ntmps=k) (hm:Nat.ble (cs.length+1) k=true)
  (h:∀(l D:Nat) (R:Rx),R.n=n.sz∧R.σ=σ∧R.ps=ps∧R.assign=assign∧R.body=body->J c ⟨k,[]⟩ (vM 0 (uW l::cs)) (Lp l R .ready none::ZB D::M) L (code.wpr none P (fT P fn (Ry P n σ l D Q)))):
  J c n σ M L ((Code.rangeFunc g ps assign body).wpr none P Q):=KC hb hx hf hbd hn hm fun l D=>h l D _ ⟨rfl,rfl,rfl,rfl,rfl⟩
theorem KE {ops:Array Oper} {rest:List Oper} {t:Tmp} {xs:List Operand} {us:List Value} {ats:Array TypeId} {d:Nat} {ty:TypeId} {pos:String} {aft:Array Edge} {l i k:Nat} {R:Rx} {ps:List Tmp} {σR:Fr} {assign body:Code} (hR:R.n=k∧R.σ=σR∧R.ps=ps.toArray∧R.assign=assign∧R.body=body) (ht:lk σ t=some (uW l)) (hx:xs.map (ev σ)=us.map some) (hi:M[i]? = some (Lp l R .ready none)) (hlen:us.length=ps.length) (hall:ps.all (fun t=>Nat.blt t k)=true) (hd:Nat.blt d n.sz=true)
  (h:J c ⟨k,[]⟩ (Dh ps us σR) M L (assign.wpr (some l) P (Exit.then (QU P l (body.wpr (some l) P (roundPost P l (Rz n σ d (wpList P ops Q rest))))) (fun _ _ _=>False)))):
  J c n σ M L (wpList P ops Q (⟨some d,.call ⟨.value (.tmp t),xs.toArray,ats⟩,ty,pos,aft,none⟩::rest)):=by
 obtain⟨rfl,rfl,h3,rfl,rfl⟩:=hR
 exact UF ht hx hi h3 hlen hall hd h
end
end
section
def Ho (Ds:List Nat):List Deferred:=Ds.map Tu
def Js (Ds:List Nat):aU where
 p w F:=Ds.Nodup∧∀D∈Ds,F D∧w.heap[D]? = some (.deferred (some []))
 mono:=fun⟨h1,h2⟩ h=>⟨h1,fun D hD=>by
  obtain⟨h3,h4⟩:=h D (h2 D hD).1 (Array.getElem?_eq_some_iff.1 (h2 D hD).2).1
  exact⟨h3,by rw[h4];exact(h2 D hD).2⟩⟩
section
variable {P:Program} {rd:Option Nat} {c:tP} {n m:Sz} {σ σ':Fr} {M L:List aU} {Q:Exit->Act->World->Prop} {K G:Act->World->Prop}
theorem KW:qV M L (Js []::M) L:=qV.add fun _=>⟨List.nodup_nil,by simp⟩
theorem KX (i j:Nat) {D:Nat} {Ds:List Nat} (hij:i≠j) (hf:M[i]? = some (Js Ds)) (hg:M[j]? = some (ZB D)):qV M L ((M.set i (Js (D::Ds))).eraseIdx j) L:=fun c w t=>
 t.merge i j hij hf hg (by
  rintro w F1 F2 ⟨h1,h2⟩ ⟨h3,h4⟩ hd
  refine⟨List.nodup_cons.2 ⟨fun hm=>hd D (h2 D hm).1 h3,h1⟩,fun E hE=> ?_⟩
  rcases List.mem_cons.1 hE with rfl|hE
  ·exact⟨.inr h3,h4⟩
  ·exact⟨.inl (h2 E hE).1,(h2 E hE).2⟩)
theorem Dt {g:Operand} {ps:Array Tmp} {assign body:Code} {f:FuncId} {fn:Func} {code:Code} {cs:List Value} {k i s:Nat} (Ds:List Nat) (hi:M[i]? = some (Js Ds)) (hb:aQ P f) (hx:ev σ g=some (.func (.func f) #[] cs.toArray)) (hf:P.funcs[f]? = some fn) (hbd:fn.body=some code) (hn:fn.ntmps=k) (hm:Nat.ble (cs.length+1) k=true)
  (h:∀(l D:Nat) (R:Rx),R.n=s∧R.σ=σ∧R.ps=ps∧R.assign=assign∧R.body=body->J c ⟨k,[]⟩ (vM 0 (uW l::cs)) (Lp l R .ready none::M.set i (Js (D::Ds))) L (code.wpr none P (fT P fn (Ry P ⟨s,Ho Ds⟩ σ l D Q)))):
  J c ⟨s,Ho Ds⟩ σ M L ((Code.rangeFunc g ps assign body).wpr none P Q):=Jw hb hx hf hbd hn hm fun l D R hR=>
 iR (KX (i+2) 1 (by omega) hi rfl) (h l D R hR)
theorem qF {fn:Func} {R:Ending->World->Prop} {ex:Exit} {i k:Nat} (hex:ex = .ret∨ex = .normal):∀{Ds:List Nat} {M:List aU},M[i]? = some (Js Ds)->J c ⟨k,[]⟩ σ (M.set i (Js [])) L (fT P fn R ex)->J c ⟨k,Ho Ds⟩ σ M L (fT P fn R ex)
 | [], M, hi, h => by
  have:M.set i (Js [])=M:=by
   apply List.ext_getElem?
   intro j
   by_cases e:i=j
   ·subst e
    rw[hi]
    simp[(List.getElem?_eq_some_iff.1 hi).1]
   ·simp[List.getElem?_set_ne e]
  rw[this]at h
  exact h
 | D :: Ds, M, hi, h => fun a w s t => by
  obtain⟨F,h1,h2⟩:=t.res hi
  have t':St c (M.set i (Js Ds)) L (w.putObj D (.deferred none)):=by
   refine t.upd hi rfl rfl rfl (by simp) fun F hF _=>⟨fun k _ hk=> ?_,F,?_,fun _ h=> .inl h⟩
   ·exact World.putObj_heap_other (fun e=>hk (e▸(hF.2 D (by simp)).1))
   ·obtain⟨hn,hF⟩:=hF
    refine⟨(List.nodup_cons.1 hn).2,fun E hE=>⟨(hF E (by simp[hE])).1,?_⟩⟩
    rw[World.putObj_heap_other (fun e=>(List.nodup_cons.1 hn).1 (by subst e;exact hE))]
    exact(hF E (by simp[hE])).2
  refine PX hex s.defers (h2 D (by simp)).2 ?_
  have hi':(M.set i (Js Ds))[i]? = some (Js Ds):=by simp[(List.getElem?_eq_some_iff.1 hi).1]
  have:=qF hex hi' (by rw[List.set_set];exact h) {tmps:=a.tmps,defers:=Ho Ds} _ ⟨rfl,s.size,s.slot⟩ t'
  rcases hex with rfl|rfl<;>exact this
def ZE {A B:Type} (c:tP) (nI:A->B->Sz) (C:A->Prop) (σI:A->B->Fr) (MI LI:A->B->List aU) (a:Act) (w:World):Prop:=∃x y,C x∧CX (nI x y) (σI x y) a∧St c (MI x y) (LI x y) w
theorem MR {A B:Type} {x:Code} (nI:A->B->Sz) (C:A->Prop) (σI:A->B->Fr) (MI LI:A->B->List aU) (h1:J c n σ M L (x.wpr rd P (Exit.then (ZE c nI C σI MI LI) Q))) (h2:∀a b,C a->J c (nI a b) (σI a b) (MI a b) (LI a b) K):
  J c n σ M L (x.wpr rd P (Exit.then K Q)):=fun a w s t=>Es (fun e a' w' q=>by
 cases e with
 |normal=>obtain⟨z,y,hC,hs,ht⟩:=q;exact h2 z y hC a' w' hs ht
 |exit id=>exact q
 |goto l=>exact q
 |ret=>exact q
 |panic ch=>exact q
 |outgrown=>exact q) (h1 a w s t)
theorem FU {A B:Type} {nI:A->B->Sz} {C:A->Prop} {σI:A->B->Fr} {MI LI:A->B->List aU} (x:A) (y:B) (hn:n=nI x y) (hC:C x) (hs:wM σ (σI x y)) (hM:aV M (MI x y)) (hL:aD [] L (LI x y)):J c n σ M L (ZE c nI C σI MI LI):=
 fun _ _ s t=>⟨x,y,hC,hn▸s.weak hs,t.weakE hM hL⟩
end
end
section
def Gb (b:Nat) (cs:List Value):aU where
 p w S:=S b∧∃T,w.heap[b]? = some (.cells cs.toArray T (0,0))
 mono:=fun⟨h1,T,h2⟩ h=>by
  obtain⟨h3,h4⟩:=h b h1 (Array.getElem?_eq_some_iff.1 h2).1
  exact⟨h3,T,by rw[h4];exact h2⟩
section
variable {P:Program} {c:tP} {n:Sz} {σ:Fr} {M L:List aU} {d:Option Tmp} {ty:TypeId} {pos:String} {aft:Array Edge} {g:Option (Nat×Bool)} {α:Type} {e:cR α}
theorem Lb [cB P] {T E:TypeId} {ki:IntKind} {k s1 s2 s3 s4:Nat} {z z':Value} {dE:TypeDesc} {x y:Operand} {b:Nat} {i:Int} (hx:ev σ x=some (.pointer (some ⟨b,0,none⟩))) (hy:ev σ y=some (.int ki i))
  (hT:cB.tab P T=some ⟨.array k E,s1,s2,z⟩) (hE:cB.tab P E=some ⟨dE,s3,s4,z'⟩) (h3:(s3==0)=false) (h:0<=i∧i<(k:Int)):
  Y P c n σ M L ⟨d,.indexAddr T x y,ty,pos,aft,g⟩ (.pointer (some ⟨b,i.toNat*s3,none⟩)):=fun a w s t=>by
 have hne:s3≠0:=by simpa using h3
 simp[execOp,s.eval hx,s.eval hy,Instr.indexAt,asIntOf,(cB.ok hT).run_und w,h,Instr.sureAddr,(cB.ok hE).run_size w,hne,dO]
theorem PR [cB P] [Inhabited α] {T:TypeId} {s2:Nat} {z:Value} {dT:TypeDesc} {x:Operand} {b k:Nat} {i:Int} {xs:List α} {u:Value} (hx:ev σ x=some (.pointer (some ⟨b,i.toNat*1,none⟩)))
  (hM:aC M L (Gb b (cellsOf e xs))) (hT:cB.tab P T=some ⟨dT,1,s2,z⟩) (hd:vG dT=false) (hq:e.sz=1) (hu:(e.enc (at' xs i))=[u]) (h:(0<=i∧i<(k:Int))∧xs.length=k):
  Y P c n σ M L ⟨d,.load T x,ty,pos,aft,g⟩ u:=fun a w s t=>by
 obtain⟨F,hF1,T',hF2⟩:=hM.st t
 have hF:(bS b (cellsOf e xs) T').p w F:=⟨hF1,hF2⟩
 have hg:=tS e xs i.toNat (at' xs i) (jO h.1.1 (by omega)) 0 u (by rw[hu];rfl)
 rw[hq,Nat.add_zero]at hg
 rw[Nat.mul_one]at hx hg
 simp[execOp,s.eval hx,vV (cB.ok hT) hd (bS.cell hF hg)]
end
end
end Go.Sx
end
section
namespace Go.Sx
section
variable {P:Program} {M L:List aU} {α β γ:Type} {r:dZ α} {s:dZ γ} {q:dZ β}
def dZ.Deep (r:dZ α) (q:dZ β) (f:α->Value×List β):Prop:=∀{w S es x},r.R w S es x->JA q w S (f x).1 (f x).2
theorem Bo (q:dZ β):(dZ.sl q).Deep q (fun x=>x):=fun h=>h.2
theorem PO {f:α->Value×List β} (h:r.Deep q f):(r.pair s).Deep q (fun x=>f x.1):=by
 rintro w S es x ⟨c1,c2,rfl,h1,_⟩
 exact h h1
theorem BX {f:α->Value×List β} (h:r.Deep q f):(s.pair r).Deep q (fun x=>f x.2):=by
 rintro w S es x ⟨c1,c2,rfl,_,h1⟩
 exact h h1
theorem tQ [Inhabited α] {v:Value} {xs:List α} {i:Int} {f:α->Value×List β} (h:aC M L (Sl r v xs)) (hd:r.Deep q f) (h0:0<=i) (h1:i<xs.length):aC M L (Sl q (f (at' xs i)).1 (f (at' xs i)).2):=h.mono fun {w U} hs=>by
 obtain⟨es,hr,_⟩:=sl_cell hs (jO h0 h1)
 exact hd hr
def GI (s:ByteArray):List Int:=s.data.toList.map fun b=>(b.toNat:Int)
theorem Ax [cB P] {c:tP} {n:Sz} {σ:Fr} {d:Option Tmp} {ty:TypeId} {pos:String} {aft:Array Edge} {g:Option (Nat×Bool)} {T:TypeId} {s1 s2:Nat} {z:Value} {x y:Operand} {s:ByteArray} {xs:List Int} {k:IntKind} {i:Int} (hx:ev σ x=some (.string s)) (hy:ev σ y=some (.int k i)) (hT:cB.tab P T=some ⟨.string,s1,s2,z⟩) (hb:GI s=xs) (h:0<=i∧i<xs.length):
  Y P c n σ M L ⟨d,.index T x y,ty,pos,aft,g⟩ (.int .u8 (at' xs i)):=fun a w st t=>by
 subst hb
 obtain⟨h0,h1⟩:=h
 obtain⟨j,rfl⟩:∃j:Nat,i=(j:Int):=⟨i.toNat,by omega⟩
 have hl:j<s.data.toList.length:=by unfold GI at h1;simp at h1 ⊢;omega
 have hj:j<s.size:=by have:=Lib.size_eq s;simp at hl;omega
 have hg:s[j]? = some (s.data.toList[j]):=by
  rw[getElem?_pos s j hj];rfl
 have ha:at' (GI s) (j:Int)=((s.data.toList[j]).toNat:Int):=by
  unfold at' GI
  simp[List.getD_eq_getElem?_getD,List.getElem?_eq_getElem hl]
 rw[ha]
 simp[execOp,st.eval hx,st.eval hy,Instr.index,asIntOf,(cB.ok hT).run_und w,hg]
theorem Nb [cB P] {c:tP} {n:Sz} {σ:Fr} {d:Option Tmp} {ty:TypeId} {pos:String} {aft:Array Edge} {g:Option (Nat×Bool)} {T E:TypeId} {s1 s2 s3 s4 m b:Nat} {z z':Value} {dE:TypeDesc} {x hi:Operand} {k:Int} (hx:ev σ x=some (.pointer (some ⟨b,0,none⟩))) (hhi:ev σ hi=some (.int .i64 k))
  (hT:cB.tab P T=some ⟨.array m E,s1,s2,z⟩) (hE:cB.tab P E=some ⟨dE,s3,s4,z'⟩) {q:Int} (h:0<=k∧k<=((m:Nat):Int)∧k<=q):Y P c n σ M L ⟨d,.slice T x none (some hi) none,ty,pos,aft,g⟩ (.slice (some ⟨b,0,none⟩) k.toNat m):=fun a w s t=>by
 have h1:0<=k∧k<=(m:Int):=⟨h.1,h.2.1⟩
 simp[execOp,s.eval hx,s.eval hhi,Instr.sliceAt,Instr.slice,(cB.ok hT).run_und w,Instr.sliceBounds,Instr.sliceBound,asIntOf,(cB.ok hE).run_size w,h1,asAddr,Addr.add,Instr.sureAddr]
theorem Rn {e:cR α} {i b T m:Nat} {k:Int} {xs:List α} (hM:M[i]? = some (bS b (cellsOf e xs) T)) (hfit:e.Fits r) (h:0<=k∧k<=((m:Nat):Int)∧k<=(xs.length:Int)) (hmax:m<=9223372036854775807):aC M L (Sl r (.slice (some ⟨b,0,none⟩) k.toNat m) (xs.take k.toNat)):=fun w S T U hL hM' hS hT=>by
 have hB:=hM' i _ hM
 have hl:(xs.take k.toNat).length=k.toNat:=by simp;omega
 refine⟨some ⟨b,0,none⟩,m,by rw[hl],by rw[hl];omega,.inr ⟨b,0,rfl,hT _ _ hB.1,fun j x hx=> ?_⟩⟩
 have hx':xs[j]? = some x:=by
  rw[List.getElem?_take]at hx
  split at hx
  ·exact hx
  ·cases hx
 obtain⟨hsz,he,hr,_⟩:=hfit
 refine⟨e.enc x,fun q u hu=> ?_,hr⟩
 have hc:=tS e xs _ _ hx' _ _ hu
 rw[hsz,Nat.zero_add]
 exact bS.cell hB hc
def dZ.All (r:dZ α) (n:Nat) (g:α->List Value):Prop:=r.sz=n∧∀{w S es x},r.R w S es x->es=g x
theorem MZ {e:cR α} (h:e.Fits r):r.All e.sz e.enc:=⟨h.1,h.2.1⟩
theorem M_ (q:dZ β):(dZ.sl q).All 1 (fun x=>[x.1]):=⟨rfl,fun h=>h.1⟩
theorem Jz {n m:Nat} {f:α->List Value} {g:γ->List Value} (h:r.All n f) (k:s.All m g):(r.pair s).All (n+m) (fun x=>f x.1++g x.2):=⟨by show r.sz+s.sz=_;rw[h.1,k.1],by
 rintro w S es x ⟨c1,c2,rfl,h1,h2⟩
 rw[h.2 h1,k.2 h2]⟩
theorem Na [cB P] [Inhabited α] {c:tP} {n:Sz} {σ:Fr} {d:Option Tmp} {ty:TypeId} {pos:String} {aft:Array Edge} {g:Option (Nat×Bool)} {T:TypeId} {s2 q m:Nat} {z:Value} {dT:TypeDesc} {x:Operand} {v:Value} {i:Int} {xs:List α} {cs:List Value} {f:α->List Value} (hx:ev σ x=some (Cb v (i.toNat*q))) (hf:aC M L (Sl r v xs)) (hD:r.All m f) (hcs:f (at' xs i)=cs)
  (hT:cB.tab P T=some ⟨dT,cs.length,s2,z⟩) (hd:vG dT=true) (hq:m=q) (h:0<=i∧i<xs.length):Y P c n σ M L ⟨d,.load T x,ty,pos,aft,g⟩ (.agg cs.toArray):=fun a w s t=>by
 obtain⟨h0,h1⟩:=h
 obtain⟨S,h⟩:=hf.st t
 obtain⟨es,hr,hes⟩:=sl_cell h (jO h0 h1)
 have:=hD.2 hr
 subst this hcs
 rw[hD.1,hq]at hes
 have:=zA (w:=w) (A:=HY v (i.toNat*q)) (cs:=f (at' xs i)) (cB.ok hT) hd rfl (fun j u hu=>by rw[FY];exact hes j u hu)
 simp[execOp,s.eval hx,Cb,this]
end
end Go.Sx
end
section
namespace Go.Sx
open Go.RowKit
section
section
variable {P:Program} {c:tP} {n:Sz} {σ:Fr} {M L:List aU} {d:Option Tmp} {ty:TypeId} {pos:String} {aft:Array Edge} {g:Option (Nat×Bool)}
def ZH (v:Value) (m:Nat):Prop:=∃a cap,v = .slice a m cap∧(m=0∨∃b off,a=some ⟨b,off,none⟩)
theorem Know.len {α:Type} {r:dZ α} {v:Value} {xs:List α} (hf:aC M L (Sl r v xs)):∀c w,St c M L w->ZH v xs.length:=fun c w t=>by
 obtain⟨S,a',cap,hv,_,h⟩:=hf.st t
 exact⟨a',cap,hv,h.imp (fun h=>by simp[h]) fun⟨b,off,e,_⟩=>⟨b,off,e⟩⟩
theorem Lc [cB P] {T E:TypeId} {s1 s2 s3 s4 m:Nat} {z z':Value} {dE:TypeDesc} {x y:Operand} {v:Value} {i:Int} (hx:ev σ x=some v) (hy:ev σ y=some (.int .i64 i)) (hv:ZH v m)
  (hT:cB.tab P T=some ⟨.slice E,s1,s2,z⟩) (hE:cB.tab P E=some ⟨dE,s3,s4,z'⟩) (h:0<=i∧i<(m:Int)):Y P c n σ M L ⟨d,.indexAddr T x y,ty,pos,aft,g⟩ (Cb v (i.toNat*s3)):=fun a w st t=>by
 obtain⟨a',cap,rfl,hv⟩:=hv
 obtain⟨h0,h1⟩:=h
 rcases hv with rfl|⟨b,off,rfl⟩
 ·omega
 ·simp[execOp,st.eval hx,st.eval hy,Fa w (cB.ok hT) rfl (cB.ok hE) b off _ cap i h0 h1]
theorem Gu [cB P] (i:Nat) {T T':TypeId} {s2 m o b:Nat} {z:Value} {dT:TypeDesc} {x y:Operand} {cs cs' us:List Value} {u:Value} (hx:ev σ x=some (.pointer (some ⟨b,o,none⟩))) (hy:ev σ y=some u) (hu:u.cells=us.toArray) (hm:us.length=m)
  (h1:us.all one=true) (hM:M[i]? = some (bS b cs T')) (hT:cB.tab P T=some ⟨dT,m,s2,z⟩) (ho:Nat.ble (o+m) cs.length=true) (hcs:cs.take o++us++cs.drop (o+m)=cs'):
  aJ P c n σ M L ⟨none,.store T x y,ty,pos,aft,none⟩ (fun _:Unit=>undef) (fun _=>M.set i (bS b cs' T')) (fun _=>L):=fun a w s t=>by
 subst hm hcs
 obtain⟨F,hF⟩:=t.res hM
 have ho':o+us.length<=cs.length:=by simpa using ho
 have hst:=run_storeCells_at P b o T' us 0 cs.toArray w hF.2 (by simp;omega) (fun u hu=>mZ (List.all_eq_true.1 h1 u hu))
 simp only[Nat.add_zero]at hst
 have hrun:(execOp a.eval ⟨none,.store T x y,ty,pos,aft,none⟩).run P w = .ok .skip (w.setRow b (cs.take o++us++cs.drop (o+us.length)).toArray):=by
  simp[execOp,s.eval hx,s.eval hy,Instr.storeAt,Instr.sureAddr,storeVar,hu,(cB.ok hT).run_size w,hst]
 simp only[Oper.wp,hrun,Oper.upon]
 exact⟨(),trivial,t.fill hM⟩
theorem Di {α:Type} [Inhabited α] (l:List α) (k:Int) (h:k.toNat<l.length) (h0:0<=k):l.set k.toNat (at' l k)=l:=by
 have:=jO (xs:=l) h0 (by omega)
 refine List.ext_getElem? fun i=> ?_
 by_cases e:k.toNat=i
 ·subst e
  rw[List.getElem?_set_self h,this]
 ·rw[List.getElem?_set_ne e]
theorem Bm [cB P] {α:Type} [Inhabited α] {e:cR α} (j:Nat) {T:TypeId} {s2 m o q:Nat} {z:Value} {dT:TypeDesc} {x y:Operand} {u:Value} {us:List Value} {i k:Int} {vs:List Value} {xss:List (List α)} (yv:α) (hk:0<=k∧k<xss.length) (h:0<=i∧i<(at' xss k).length) (hx:ev σ x=some (Cb (at' vs k) (i.toNat*q+o))) (hy:ev σ y=some u)
  (hf:M[j]? = some (gZ e vs xss)) (hq:e.sz=q) (hu:u.cells=us.toArray) (hm:us.length=m) (ho:Nat.ble (o+m) q=true) (hyv:e.enc yv=(e.enc (at' (at' xss k) i)).take o++us++(e.enc (at' (at' xss k) i)).drop (o+m)) (h1u:us.all one=true) (hT:cB.tab P T=some ⟨dT,m,s2,z⟩):
  aJ P c n σ M L ⟨none,.store T x y,ty,pos,aft,none⟩ (fun _:Unit=>undef) (fun _=>M.set j (gZ e vs (xss.set k.toNat ((at' xss k).set i.toNat yv)))) (fun _=>L):=fun a w s t=>by
 have hl:=cO j hf c w t
 have hj:j<M.length:=(List.getElem?_eq_some_iff.1 hf).1
 refine lR (fun a' w' ⟨x,he,ht⟩=>⟨x,he,?_⟩) (KI 0 yv h hx hy rfl hq hu hm ho hyv h1u hT a w s (KY j hf hk c w t))
 have hb:=KV (j+1) 0 (u:=at' vs k) (k:=k) (vs:=vs) (xss:=xss) (ys:=(at' xss k).set i.toNat yv) (e:=e) rfl (by simp[hj]) rfl (by simpa using hk) c w' ht
 simp only[List.set_cons_zero,List.set_cons_succ,List.eraseIdx_cons_zero,List.set_set]at hb
 rw[Di vs k (by omega) hk.1]at hb
 exact hb
end
theorem aV.ix {M M':List aU} (l:List Nat) (hn:decide l.Nodup=true) (h:l.map (fun i=>M[i]?)=M'.map some):aV M M':=by
 have hn:l.Nodup:=of_decide_eq_true hn
 have hl:l.length=M'.length:=by simpa using congrArg List.length h
 refine⟨fun i=>l.getD i 0,fun i j hi hj e=> ?_,fun i m hm=> ?_⟩
 ·have h1:i<l.length:=by omega
  have h2:j<l.length:=by omega
  simp only[List.getD_eq_getElem?_getD,List.getElem?_eq_getElem h1,List.getElem?_eq_getElem h2,Option.getD_some]at e
  exact(List.getElem_inj hn).1 e
 ·have hi:i<l.length:=by rw[hl];exact(List.getElem?_eq_some_iff.1 hm).1
  have:=congrArg (fun q=>q[i]?) h
  simp only[List.getElem?_map,List.getElem?_eq_getElem hi,hm,Option.map_some,Option.some.injEq]at this
  simpa [List.getD_eq_getElem?_getD,List.getElem?_eq_getElem hi]using this
def cR.fn:cR Nat:=⟨1,Nat.one_pos,fun f=>[.func (.func f) #[] #[]],fun _=>rfl⟩
def dZ.fn:dZ Nat:=⟨1,Nat.one_pos,fun _ _ cs x=>cs=[.func (.func x) #[] #[]],fun h=>by simp[h],fun h _=>h⟩
theorem Kz:cR.fn.Fits dZ.fn:=⟨rfl,fun h=>h,rfl,fun _=>rfl⟩
end
section
variable {P:Program} {rd:Option Nat} {c:tP} {n:Sz} {σ:Fr} {M L:List aU} {Q:Exit->Act->World->Prop} {ops:Array Oper} {rest:List Oper} {d:Nat} {ty:TypeId} {pos:String} {aft:Array Edge} {x y:Operand} {v:Value} {K:Act->World->Prop}
abbrev vS (x:ByteArray):Value:= .string x
abbrev vB (x:Bool):Value:= .bool x
theorem ckE {β:Type} {p G:Prop} {_:Decidable p} {u:Option β} {r:β} (h:ck p u=some r) (k:p->u=some r->G):G:=k (OB h).1 (OB h).2
theorem bnE {β γ:Type} {G:Prop} {u:Option β} {f:β->Option γ} {r:γ} (h:u.bind f=some r) (k:∀y,u=some y->f y=some r->G):G:=by
  obtain⟨y,h1,h2⟩:=bnd h
  exact k y h1 h2
theorem lH (l:List Nat) {L0:List aU} (h:l.map (L[·]?)=L0.map some):aD M L L0:=fun f hf=>by
  have hm:some f∈l.map (L[·]?):=h▸List.mem_map_of_mem hf
  obtain⟨j,_,hj⟩:=List.mem_map.1 hm
  exact aC.fact j hj
theorem xM.ix (l:List Nat) {L0:List aU} (h:l.map (L[·]?)=L0.map some):xM L L0:=fun f hf=>by
  have hm:some f∈l.map (L[·]?):=h▸List.mem_map_of_mem hf
  obtain⟨j,_,hj⟩:=List.mem_map.1 hm
  exact List.mem_of_getElem? hj
theorem oK {f:aU} (i:Nat) (h:L[i]? = some f):xM L [f]:=xM.cons (List.mem_of_getElem? h) xM.nil
/-- which of the early loads must still hold,with the numbers of what they have read -/
def XX (A:Nat->Bool):List (List Nat×List Nat)->List (Nat×List aU×List aU)->List (List Nat×List Nat×List aU×List aU)
  |_,[]=>[]
  |q,(j,Mx,Lx)::B=>bif A j||(Mx.isEmpty&&Lx.isEmpty)then XX A q B else((q.headD ([],[])).1,(q.headD ([],[])).2,Mx,Lx)::XX A q.tail B
theorem m_ {A:Nat->Bool} (q:List (List Nat×List Nat)) {B:List (Nat×List aU×List aU)} (h:(XX A q B).map (fun z=>(decide z.1.Nodup,z.1.map (M[·]?),z.2.1.map (L[·]?)))=(XX A q B).map (fun z=>(true,z.2.2.1.map some,z.2.2.2.map some))):yO A M L B:=by
  induction B generalizing q with
  |nil=>exact yO.z
  | cons b B ih =>
    obtain⟨j,Mx,Lx⟩:=b
    cases ha:A j with
    |true=>exact yO.b ha (ih q (by simpa [XX,ha]using h))
    | false =>
      cases he:(Mx.isEmpty&&Lx.isEmpty)with
      | true =>
        obtain⟨e1,e2⟩:=Bool.and_eq_true_iff.1 he
        rw[List.isEmpty_iff]at e1 e2
        subst e1;subst e2
        exact yO.h aV.nil xM.nil (ih q (by simpa [XX,ha]using h))
      | false =>
        simp only[XX,ha,he,Bool.or_self,cond_false,List.map_cons,List.cons.injEq,Prod.mk.injEq]at h
        exact yO.h (aV.ix _ h.1.1 h.1.2.1) (xM.ix _ h.1.2.2) (ih q.tail h.2)
def hkB (A:Nat->Bool):List (Nat×List aU×List aU)->Bool
  | []=>true
  |(j,_,_)::H=>bif A j then hkB A H else false
theorem hkI {A:Nat->Bool} {Mx Lx:List aU} {H:List (Nat×List aU×List aU)} (h:hkB A H=true):aM A Mx Lx H:=by
  induction H with
  |nil=>exact aM.z
  | cons b B ih =>
    obtain⟨j,_,_⟩:=b
    cases ha:A j with
    |false=>simp[hkB,ha]at h
    |true=>exact aM.b ha (ih (by simpa [hkB,ha]using h))
theorem hkN {A:Nat->Bool} {H:List (Nat×List aU×List aU)}:aM A [] [] H:=by
  induction H with
  |nil=>exact aM.z
  |cons b B ih=>exact aM.h aV.nil xM.nil ih
theorem qkPkT {T:Operand} (h:(ev σ T,ev σ x,Nat.blt d n.sz)=(some (.bool true),some v,true)) (k:J c n ((d,v)::σ) M L (wpList P ops Q rest)):J c n σ M L (wpList P ops Q (⟨some d,.pick T x y,ty,pos,aft,none⟩::rest)):=by
  simp only[Prod.mk.injEq]at h
  exact aB (yT h.1 h.2.1) h.2.2 k
theorem qkPkF {T:Operand} (h:(ev σ T,ev σ y,Nat.blt d n.sz)=(some (.bool false),some v,true)) (k:J c n ((d,v)::σ) M L (wpList P ops Q rest)):J c n σ M L (wpList P ops Q (⟨some d,.pick T x y,ty,pos,aft,none⟩::rest)):=by
  simp only[Prod.mk.injEq]at h
  exact aB (xN h.1 h.2.1) h.2.2 k
theorem qkExt {vs:List Value} {i:Nat} (h:(ev σ x,vs[i]?,Nat.blt d n.sz)=(some (.tuple vs.toArray),some v,true)) (k:J c n ((d,v)::σ) M L (wpList P ops Q rest)):J c n σ M L (wpList P ops Q (⟨some d,.extract x i,ty,pos,aft,none⟩::rest)):=by
  simp only[Prod.mk.injEq]at h
  exact aB (eP h.1 h.2.1) h.2.2 k
theorem qkNeq {t t':TypeId} {i:IntKind} {p q:Int} (h:(ev σ x,ev σ y,Nat.blt d n.sz)=(some (.int i p),some (.int i q),true)) (k:J c n ((d,.bool (decide (p≠q)))::σ) M L (wpList P ops Q rest)):J c n σ M L (wpList P ops Q (⟨some d,.binOp .neq t x y t',ty,pos,aft,none⟩::rest)):=by
  simp only[Prod.mk.injEq]at h
  exact aB (IA h.1 h.2.1) h.2.2 k
theorem qkAnd {t t':TypeId} {i:IntKind} {p q:Int} (h:(ev σ x,ev σ y,Nat.blt d n.sz)=(some (.int i p),some (.int i q),true)) (k:J c n ((d,.int i (cY i p q))::σ) M L (wpList P ops Q rest)):J c n σ M L (wpList P ops Q (⟨some d,.binOp .and t x y t',ty,pos,aft,none⟩::rest)):=by
  simp only[Prod.mk.injEq]at h
  exact aB (La h.1 h.2.1) h.2.2 k
theorem qkLen [cB P] {α:Type} {r:dZ α} {T E:TypeId} {s1 s2:Nat} {z:Value} {xs:List α} (hf:aC M L (Sl r v xs)) (h:(ev σ x,cB.tab P T,Nat.blt d n.sz)=(some v,some ⟨.slice E,s1,s2,z⟩,true)) (k:J c n ((d,.int .i64 xs.length)::σ) M L (wpList P ops Q rest)):J c n σ M L (wpList P ops Q (⟨some d,.call ⟨.builtin .len,#[x],#[T]⟩,ty,pos,aft,none⟩::rest)):=by
  simp only[Prod.mk.injEq]at h
  exact aB (fI h.1 hf h.2.1) h.2.2 k
variable {l:List Oper} {m:List Nat} {k0:Nat} {H Bs:List (Nat×List aU×List aU)} {rs:List Nat}
theorem jqN {i dd:Nat} {op:Op} (hi:l[i]? = some ⟨some dd,op,ty,pos,aft,none⟩) (hy:Y P c n σ [] [] ⟨some dd,op,ty,pos,aft,none⟩ v)
    (h:JR c n ((dd,v)::σ) M L H ((i,[],[])::Bs) (RW P l.toArray Q (before m) (cD l) k0 rs))
    (hk:Nat.blt i k0=true:=by exact rfl) (hl:dG op=false:=by exact rfl) (hd:Nat.blt dd n.sz=true:=by exact rfl):JR c n σ M L H Bs (RW P l.toArray Q (before m) (cD l) k0 (i::rs)):=bI hi aV.nil xM.nil hy hkN h hk hl hd
end
end Go.Sx
end
section
namespace Go.Sx
section
abbrev aL:=List Int
abbrev eO:=List (Int×Int)
abbrev aY:=List aL
abbrev eV:=List eO
abbrev Fe:=(ByteArray×(List (ByteArray×Int×Int×Int×Int×Int))×(List (ByteArray×(Value×eO)×(Value×List (Int×(Value×eO))))))×((ByteArray×(List (ByteArray×Int×Int×Int×Int×Int))×(List (ByteArray×(Value×eO)×(Value×List (Int×(Value×eO))))))×(aL×eV)×Int×aY)×eV
abbrev Ak:=ByteArray×(List (ByteArray×Int×Int×Int×Int×Int))×(List (ByteArray×(Value×eO)×(Value×List (Int×(Value×eO)))))
abbrev Kt:=((ByteArray×(List (ByteArray×Int×Int×Int×Int×Int))×(List (ByteArray×(Value×eO)×(Value×List (Int×(Value×eO))))))×(aL×eV)×Int×aY)×aY×Int×eO
abbrev AS:=((aL×aL×aY×(Int×Int×Int×Int×Int))×Int)
abbrev QL:=(ByteArray×(List (ByteArray×Int×Int×Int×Int×Int))×(List (ByteArray×(Value×eO)×(Value×List (Int×(Value×eO))))))×(aL×eV)×Int×aY
abbrev cW:=aL×eV
abbrev mB:=List (Value×eO)
abbrev Am:=Int×aL×aL×aL×Bool×Bool
abbrev pW:=List (Value×aL)
abbrev WC:=(((ByteArray×(List (ByteArray×Int×Int×Int×Int×Int))×(List (ByteArray×(Value×eO)×(Value×List (Int×(Value×eO))))))×(aL×eV)×Int×aY)×aY×Int×eO)
abbrev CN:=Int×Int×Int×Int×Int×Int×aL×aL×aY
abbrev eK:=(Int×Int)
abbrev BP:=ByteArray×Int×Int×Int×Int×Int
abbrev dL:=Int×Int
abbrev f_:=List Value
abbrev FC:=List (ByteArray×Int×Int×Int×Int×Int)
abbrev qS:=((aL×eV))
abbrev FD:=Int×(List ((Int×Int)×Int))
abbrev CO:=Int×Int×Int×Int×Int
abbrev Ua:=(ByteArray×List (ByteArray×Int×Int×Int×Int×Int)×List (eO×List (Int×eO)))
abbrev sJ:=(Int×aL)
abbrev oJ:=Int×aL
abbrev mC:=List Nat
abbrev Jh:=(Int×(List ((Int×Int)×Int)))
abbrev Ji:=List (eO×List (Int×eO))
abbrev CP:=Value×List Value
abbrev Al:=(aL×eV)
abbrev Mn:=Value×Value×List Value
end
section
abbrev kT:Value:=Value.slice none 0 0
abbrev CQ:List Value:=[kT,kT,kT,vI (0:Int),vI (0:Int),vI (0:Int),vI (0:Int),vU (0:Int)]
abbrev Xj:List Value:=[vI (0:Int),vI (0:Int),vI (0:Int),vI (0:Int),vU (0:Int)]
abbrev YX:List Value:=[Value.pointer none,kT,vI (0:Int),vU (0:Int),Value.nilFunc]
abbrev QT:List Value:=[vI (0:Int),vI (0:Int)]
abbrev vD4:List Value:=[vS (ByteArray.mk #[]),vI (0:Int),vI (0:Int),vI (0:Int),vI (0:Int),vI (0:Int)]
end
end Go.Sx
end
section
namespace Go.Proofs.YtjlbcgddhnjcjaaGreatDoor
open Go.Sx
section
def Ut:aL:=[0,1,1,2,1,2,2,3,1,2,2,3,2,3,3,4,1,2,2,3,2,3,3,4,2,3,3,4,3,4,4,5,1,2,2,3,2,3,3,4,2,3,3,4,3,4,4,5,2,3,3,4,3,4,4,5,3,4,4,5,4,5,5,6,1,2,2,3,2,3,3,4,2,3,3,4,3,4,4,5,2,3,3,4,3,4,4,5,3,4,4,5,4,5,5,6,2,3,3,4,3,4,4,5,3,4,4,5,4,5,5,6,3,4,4,5,4,5,5,6,4,5,5,6,5,6,6,7,1,2,2,3,2,3,3,4,2,3,3,4,3,4,4,5,2,3,3,4,3,4,4,5,3,4,4,5,4,5,5,6,2,3,3,4,3,4,4,5,3,4,4,5,4,5,5,6,3,4,4,5,4,5,5,6,4,5,5,6,5,6,6,7,2,3,3,4,3,4,4,5,3,4,4,5,4,5,5,6,3,4,4,5,4,5,5,6,4,5,5,6,5,6,6,7,3,4,4,5,4,5,5,6,4,5,5,6,5,6,6,7,4,5,5,6,5,6,6,7,5,6,6,7,6,7,7,8]
theorem JL:GI (ByteArray.mk #[0,1,1,2,1,2,2,3,1,2,2,3,2,3,3,4,1,2,2,3,2,3,3,4,2,3,3,4,3,4,4,5,1,2,2,3,2,3,3,4,2,3,3,4,3,4,4,5,2,3,3,4,3,4,4,5,3,4,4,5,4,5,5,6,1,2,2,3,2,3,3,4,2,3,3,4,3,4,4,5,2,3,3,4,3,4,4,5,3,4,4,5,4,5,5,6,2,3,3,4,3,4,4,5,3,4,4,5,4,5,5,6,3,4,4,5,4,5,5,6,4,5,5,6,5,6,6,7,1,2,2,3,2,3,3,4,2,3,3,4,3,4,4,5,2,3,3,4,3,4,4,5,3,4,4,5,4,5,5,6,2,3,3,4,3,4,4,5,3,4,4,5,4,5,5,6,3,4,4,5,4,5,5,6,4,5,5,6,5,6,6,7,2,3,3,4,3,4,4,5,3,4,4,5,4,5,5,6,3,4,4,5,4,5,5,6,4,5,5,6,5,6,6,7,3,4,4,5,4,5,5,6,4,5,5,6,5,6,6,7,4,5,5,6,5,6,6,7,5,6,6,7,6,7,7,8])=Ut:=by kernel_rfl
def pV:aL:=[0,1,28,2,29,14,24,3,30,22,20,15,25,17,4,8,31,27,13,23,21,19,16,7,26,12,18,6,11,5,10,9]
theorem _root_.Go.Sx.Y.bld5 {P:Program} {c:tP} {n:Sz} {σ:Fr} {M L:List aU} {d:Option Tmp} {ty:TypeId} {pos:String} {aft:Array Edge} {g:Option (Nat×Bool)} {T:TypeId} {i0 i1 i2 i3 i4:Nat} {x0 x1 x2 x3 x4:Operand} {v0 v1 v2 v3 v4:Value} {r:Value} (h0:ev σ x0=some v0) (h1:ev σ x1=some v1) (h2:ev σ x2=some v2) (h3:ev σ x3=some v3) (h4:ev σ x4=some v4) (hr:∀w,(Instr.build T ([(i0,v0),(i1,v1),(i2,v2),(i3,v3),(i4,v4)]:List (Nat×Value)).toArray).run P w = .ok r w):Y P c n σ M L ⟨d,.build T #[(i0,x0),(i1,x1),(i2,x2),(i3,x3),(i4,x4)],ty,pos,aft,g⟩ r:=
 xT (ps:=[(i0,x0),(i1,x1),(i2,x2),(i3,x3),(i4,x4)]) (vs:=[(i0,v0),(i1,v1),(i2,v2),(i3,v3),(i4,v4)]) (by simp[h0,h1,h2,h3,h4]) hr
abbrev ESt:cR ByteArray:=⟨1,Nat.one_pos,fun x=>[.string x],fun _=>rfl⟩
abbrev RSt:dZ ByteArray:=⟨1,Nat.one_pos,fun _ _ cs x=>cs=[.string x],fun h=>by simp[h],fun h _=>h⟩
theorem FSt:ESt.Fits RSt:=⟨rfl,fun h=>h,rfl,fun _=>rfl⟩
abbrev bO:cR Int:=cR.int .i64
abbrev bD:dZ Int:=dZ.int .i64
theorem cE:bO.Fits bD:=Dr .i64
theorem cZ:bD.Cell 0 (fun x=> .int .i64 x):=Dv .i64
abbrev rP:cR (ByteArray×Int×Int×Int×Int×Int):=cR.pair ESt (cR.pair bO (cR.pair bO (cR.pair bO (cR.pair bO (bO)))))
abbrev aH:dZ (ByteArray×Int×Int×Int×Int×Int):=dZ.pair RSt (dZ.pair bD (dZ.pair bD (dZ.pair bD (dZ.pair bD (bD)))))
theorem rQ:rP.Fits aH:=nA FSt (nA cE (nA cE (nA cE (nA cE (cE)))))
theorem u_:aH.Cell 1 (fun x=> .int .i64 x.2.1):=cF (nR (cZ))
theorem A_:aH.Cell 2 (fun x=> .int .i64 x.2.2.1):=cF (cF (nR (cZ)))
theorem Ba:aH.Cell 3 (fun x=> .int .i64 x.2.2.2.1):=cF (cF (cF (nR (cZ))))
theorem Bb:aH.Cell 4 (fun x=> .int .i64 x.2.2.2.2.1):=cF (cF (cF (cF (nR (cZ)))))
theorem Bc:aH.Cell 5 (fun x=> .int .i64 x.2.2.2.2.2):=cF (cF (cF (cF (cF (cZ)))))
abbrev bM:cR eK:=cR.pair bO (bO)
abbrev a_:dZ eK:=dZ.pair bD (bD)
theorem bG:bM.Fits a_:=nA cE (cE)
theorem Au:a_.Cell 0 (fun x=> .int .i64 x.1):=nR (cZ)
theorem MX:a_.Cell 1 (fun x=> .int .i64 x.2):=cF (cZ)
abbrev pL:dZ (Int×(Value×eO)):=dZ.pair bD ((dZ.sl a_))
theorem Ia:pL.All 2 (fun x=>[Value.int .i64 (x.1),x.2.1]):=(Jz (MZ cE) (M_ a_))
theorem AV:pL.Deep a_ (fun x=>x.2):=BX (Bo a_)
abbrev aE:dZ (ByteArray×(Value×eO)×(Value×List (Int×(Value×eO)))):=dZ.pair RSt (dZ.pair (dZ.sl a_) ((dZ.sl pL)))
theorem xJ:aE.Cell 1 (fun x=>x.2.1.1):=cF (nR (dZ.sl_cell a_))
theorem xL:aE.Deep a_ (fun x=>x.2.1):=BX (PO (Bo a_))
theorem xK:aE.Cell 2 (fun x=>x.2.2.1):=cF (cF (dZ.sl_cell pL))
theorem eW:aE.Deep pL (fun x=>x.2.2):=BX (BX (Bo pL))
abbrev g_:cR Int:=cR.int .u32
abbrev tJ:dZ Int:=dZ.int .u32
theorem iP:g_.Fits tJ:=Dr .u32
theorem Bn:tJ.Cell 0 (fun x=> .int .u32 x):=Dv .u32
abbrev ZC:cR Bool:=cR.bool
abbrev EFn:cR Nat:=cR.fn
abbrev RFn:dZ Nat:=dZ.fn
theorem FFn:EFn.Fits RFn:=Kz
abbrev FQ:cR (Int×Nat):=cR.pair bO (EFn)
abbrev UH:dZ (Int×Nat):=dZ.pair bD (RFn)
theorem yR:FQ.Fits UH:=nA cE (FFn)
abbrev BV:cR Int:=cR.int .u8
def Mt (x:Int):Value:=Value.int .i64 (x)
def lT (x:dL):Value:=Value.agg #[Value.int .i64 (x.1),Value.int .i64 (x.2)]
theorem Tn (x y:dL) (m:Nat) (w:World):(Op.equalIn (m+2) 114 (.agg #[.int .i64 x.1,.int .i64 x.2]) (.agg #[.int .i64 y.1,.int .i64 y.2])).run Tryz.prog w = .ok (decide (x=y)) w:=by
 have h3:∀a b:Int,(Op.equalIn (m+1) 3 (.int .i64 a) (.int .i64 b)).run Tryz.prog w = .ok (a==b) w:=by
  intro a b
  simp[Op.equalIn]
 unfold Op.equalIn
 simp[show List.range' 0 2=[0,1]from rfl,part,isAgg,h3]
 obtain⟨a0,a1⟩:=x
 obtain⟨c0,c1⟩:=y
 by_cases e0:a0=c0<;>by_cases e1:a1=c1<;>simp[e0,e1,h3]
theorem Ss (b:Bool) (k:dL) (w:World):(Instr.checkKey b 10000 114 (lT k)).run Tryz.prog w = .ok () w:=by
 have key:∀m:Nat,(Instr.checkKey b (m+2) 114 (lT k)).run Tryz.prog w = .ok () w:=by
  intro m
  simp[Instr.checkKey,lT,part,isAgg,show List.range' 0 2=[0,1]from rfl]
 exact key 9998
theorem JY:Gs Tryz.prog 114 lT:=MS Tryz.underlying114 Ss (fun _ _=>rfl) (fun a b w=>Tn a b 9998 w) (fun k=>by
 have key:∀m:Nat,Instr.sameBits (m+2) (lT k) (lT k)=true:=fun m=>by simp[Instr.sameBits,lT]
 exact key 9998)
theorem mT (u0:Value) (h0:one u0=true) (init:Array Value) (h:init.size=1*1):Instr.fill (fun i=>some (i*1,1)) init [(0,u0)]=some [u0].toArray:=by
 obtain⟨l⟩:=init
 match l,h with
 | [z0],_=>simp[Instr.fill,kA h0]
theorem wP (u0 u1:Value) (init:Array Value) (h:init.size=1*2):Instr.fill (fun i=>some (i*2,2)) init [(0,.agg #[u0,u1])]=some [u0,u1].toArray:=by
 obtain⟨l⟩:=init
 match l,h with
 | [z0,z1],_=>simp[Instr.fill,Value.cells]
theorem SS (u0 u1 u2 u3 u4 u5:Value) (init:Array Value) (h:init.size=1*6):Instr.fill (fun i=>some (i*6,6)) init [(0,.agg #[u0,u1,u2,u3,u4,u5])]=some [u0,u1,u2,u3,u4,u5].toArray:=by
 obtain⟨l⟩:=init
 match l,h with
 | [z0,z1,z2,z3,z4,z5],_=>simp[Instr.fill,Value.cells]
theorem SU (u0 u1:Value) (h0:one u0=true) (h1:one u1=true) (init:Array Value) (h:init.size=2*1):Instr.fill (fun i=>some (i*1,1)) init [(0,u0),(1,u1)]=some [u0,u1].toArray:=by
 obtain⟨l⟩:=init
 match l,h with
 | [z0,z1],_=>simp[Instr.fill,kA h0,kA h1]
theorem SV (u0 u1 u2 u3 u4 u5:Value) (init:Array Value) (h:init.size=3*2):Instr.fill (fun i=>some (i*2,2)) init [(0,.agg #[u0,u1]),(1,.agg #[u2,u3]),(2,.agg #[u4,u5])]=some [u0,u1,u2,u3,u4,u5].toArray:=by
 obtain⟨l⟩:=init
 match l,h with
 | [z0,z1,z2,z3,z4,z5],_=>simp[Instr.fill,Value.cells]
end
section
def wH (p0:Int) (a2:Bool):Option (Int):=
 if a2=true then(some (-1:Int))else(if p0<=(17:Int)then(some (0:Int))else(if p0<=(29:Int)then(some (1:Int))else(if p0<=(42:Int)then(some (2:Int))else(some (3:Int)))))
def uQ (U:Nat) (p0:Int):Option (Int):=
 if p0<(1:Int)then(wH p0 (true))else(wH p0 (decide ((43:Int)<p0)))
theorem Vr:aQ Tryz.prog 217:=Tryz.call217
theorem Kq (U:Nat) {p0:Int} (r:Int) (h:uQ U p0=some r):
  aS Tryz.prog 217 #[vI (p0)] [] (fun x:Unit=>vI (r)) (fun x l=>l) (fun _ l=>l):=by
 refine aS.of Tryz.func217 rfl Tryz.ntmps217 rfl fun c=>?_
 refine sqR<|qkAsg rfl<|dtN<|aG<|aO<|aG<|midU (fun a2=>wH p0 a2=some r) (fun a2 b3=>[(0,vI (p0)),(3,vB (a2))]) (fun a2 b3=>[]) ?_ ?_
 ·refine aK<|qkMove rfl<|qkLss rfl<|qkMove rfl ?_
  refine AW h rfl (fun _ h=>?_) fun _ h=>?_
  ·refine gdSkip rfl<|gdSkip rfl<|qkPkT rfl<|qkAsg rfl<|dtN ?_
   exact fM (true) () h SF rfl
  refine gyMove rfl<|aN rfl (rZ rfl rfl) rfl<|qkPkF rfl<|qkAsg rfl<|dtN ?_
  exact fM (decide ((43:Int)<p0)) () h SF rfl
 intro a2 b3 h
 refine z_ h rfl (fun _ h=>?_) fun _ h=>?_
 ·refine sqR<|qkAsg rfl<|dtN<|aR<|bL<|aI ?_
  cases h
  exact kH rfl
 refine sqR<|qkMove rfl<|aB (zX rfl rfl) rfl<|qkAsg rfl<|dtN ?_
 refine eF h rfl (fun h=>?_) fun h=>?_
 ·refine sqR<|qkAsg rfl<|dtN<|aR<|bL<|aI ?_
  cases h
  exact kH rfl
 refine sqR<|qkMove rfl<|aB (zX rfl rfl) rfl<|qkAsg rfl<|dtN ?_
 refine eF h rfl (fun h=>?_) fun h=>?_
 ·refine sqR<|qkAsg rfl<|dtN<|aR<|bL<|aI ?_
  cases h
  exact kH rfl
 refine sqR<|qkMove rfl<|aB (zX rfl rfl) rfl<|qkAsg rfl<|dtN ?_
 refine eF h rfl (fun h=>?_) fun h=>?_
 ·refine sqR<|qkAsg rfl<|dtN<|aR<|bL<|aI ?_
  cases h
  exact kH rfl
 refine dD<|inT<|sqR<|qkAsg rfl<|dtN<|aR ?_
 cases h
 exact kH rfl
end
section
def BO  (a5:Unit):Option (Int):=
 some (-1:Int)
def jV (U:Nat) (p0:eO) (a10:dL) (ag9:eK->Option (Int)):Option (Int):=
 if a10.1<(List.length p0:Int)then(ck (0<=a10.1∧a10.1<(List.length p0:Int)) (Option.bind (uQ U ((at' p0 a10.1).1)) fun r15=>(if r15<(0:Int)then(some (-1:Int))else(if(wI .i64 (a10.2+(wI .i64 (r15 - (1:Int)))))=(0:Int)then(some (wI .i64 (a10.1+(1:Int))))else(ag9 ((wI .i64 (a10.1+(1:Int))),(wI .i64 (a10.2+(wI .i64 (r15 - (1:Int)))))))))))else(BO  (()))
def zB (U:Nat) (p0:eO) (p1:Int) (a2:Bool):Option (Int):=
 if a2=true then(some (-1:Int))else(bE (jV U p0) U (p1,(1:Int)))
def AK (U:Nat) (p0:eO) (p1:Int):Option (Int):=
 if p1<(0:Int)then(zB U p0 p1 (true))else(zB U p0 p1 (decide ((List.length p0:Int)<=p1)))
theorem Vq:aQ Tryz.prog 199:=Tryz.call199
theorem NS (U:Nat) {p0:eO} {p1:Int} (v0:Value) (r:Int) (h:AK U p0 p1=some r):
  aS Tryz.prog 199 #[v0,vI (p1)] [Sl a_ v0 p0] (fun x:Unit=>vI (r)) (fun x l=>l) (fun _ l=>l):=by
 refine aS.of Tryz.func199 rfl Tryz.ntmps199 rfl fun c=>?_
 refine sqR<|qkAsg rfl<|dtN<|aG<|aG<|midU (fun a2=>zB U p0 p1 a2=some r) (fun a2 b3=>[(0,v0),(1,vI (p1)),(14,vB (a2))]) (fun a2 b3=>[]) ?_ ?_
 ·refine aK<|qkMove rfl<|qkLss rfl<|qkMove rfl ?_
  refine AW h rfl (fun _ h=>?_) fun _ h=>?_
  ·refine gdSkip rfl<|gdSkip rfl<|gdSkip rfl<|gdSkip rfl<|qkPkT rfl<|dtN ?_
   exact fM (true) () h SF rfl
  refine gyMove rfl<|gyMove rfl<|aN rfl (fI rfl (aC.fact 0 rfl) rfl) rfl<|aN rfl (Bt rfl rfl) rfl<|qkPkF rfl<|dtN ?_
  exact fM (decide ((List.length p0:Int)<=p1)) () h SF rfl
 intro a2 b3 h
 refine z_ h rfl (fun _ h=>?_) fun _ h=>?_
 ·refine sqR<|qkAsg rfl<|dtN<|aR<|aI ?_
  cases h
  exact kH rfl
 refine cJ<|aG<|midU (fun a5=>BO  a5=some r) (fun a5 b6=>[]) (fun a5 b6=>[]) ?_ ?_
 ·refine sqR<|qkAsg rfl<|dtN<|aO<|loopL (jV U p0) (fun a10 b11=>[(0,v0),(1,vI (a10.1)),(5,vI (a10.2))]) (fun a10 b11=>[]) (p1,(1:Int)) () h SF (aV.refl _) ?_
  intro k12 a10 b11 h
  refine aG<|sqR<|qkMove rfl<|qkMove rfl<|qkLen (aC.fact 0 rfl) rfl<|qkLss rfl<|dtN ?_
  refine eF h rfl (fun h=>?_) fun h=>?_
  ·refine cJ<|aG<|aO<|sqR<|qkMove rfl<|qkMove rfl<|ckE h fun j14 h=>aB (aX rfl rfl (aC.fact 0 rfl) rfl rfl j14) rfl<|aB (nT rfl rfl rfl rfl rfl) rfl<|aB (pY rfl (aC.fact 0 rfl) rfl rfl rfl Au j14) rfl<|bnE h fun r15 w16 h=>aF (aJ.callQ Vr (Kq U  r15 w16) rfl .nil) rfl fun x17=>qkAsg rfl<|dtN<|aG<|sqR<|qkMove rfl<|qkLss rfl<|dtN ?_
   refine eF h rfl (fun h=>?_) fun h=>?_
   ·refine sqR<|qkAsg rfl<|dtN<|aR<|aI<|bL<|aI<|aI<|bL<|aI ?_
    cases h
    exact kH rfl
   refine cJ<|sqR<|qkMove rfl<|qkMove rfl<|aB (pT rfl rfl) rfl<|qkAdd rfl<|qkAsg rfl<|dtN<|sqR<|qkMove rfl<|qkEql rfl<|dtN ?_
   refine eF h rfl (fun h=>?_) fun h=>?_
   ·refine sqR<|qkMove rfl<|qkAdd rfl<|qkAsg rfl<|dtN<|aR<|bL<|aI<|aI<|bL<|aI ?_
    cases h
    exact kH rfl
   refine dD<|inT<|aK<|qkMove rfl<|qkAdd rfl<|qkAsg rfl<|dtN ?_
   exact xV ((wI .i64 (a10.1+(1:Int))),(wI .i64 (a10.2+(wI .i64 (r15 - (1:Int)))))) () h SF rfl
  refine eZ ?_
  exact fM () (()) h SF rfl
 intro a5 b6 h
 unfold BO at h
 refine sqR<|qkAsg rfl<|dtN<|aR ?_
 cases h
 exact kH rfl
end
section
def gF (U:Nat) (p0:Bool):Option (Int):=
 if p0=true then(some (1:Int))else(some (0:Int))
theorem vX:aQ Tryz.prog 256:=Tryz.call256
theorem jK (U:Nat) {p0:Bool} (r:Int) (h:gF U p0=some r):
  aS Tryz.prog 256 #[vB (p0)] [] (fun x:Unit=>vI (r)) (fun x l=>l) (fun _ l=>l):=by
 refine aS.of Tryz.func256 rfl Tryz.ntmps256 rfl fun c=>?_
 refine sqR<|qkAsg rfl<|dtN<|aG<|sqR<|qkMove rfl<|dtN ?_
 refine z_ h rfl (fun _ h=>?_) fun _ h=>?_
 ·refine sqR<|qkAsg rfl<|dtN<|aR<|aI ?_
  cases h
  exact kH rfl
 refine cJ<|sqR<|qkAsg rfl<|dtN<|aR ?_
 cases h
 exact kH rfl
end
section
def qM (U:Nat) (p0:QL) (p1:Int) (p2:Int) (p3:Int):Option (Int):=
 if p1=(6:Int)then(some (List.length p0.2.1.1:Int))else(if p1=(7:Int)then(some (p0.2.2.1))else(if p1=(8:Int)then(ck (0<=p2∧p2<(List.length p0.2.1.1:Int)) (some (at' p0.2.1.1 p2)))else(if p1=(9:Int)then(ck (0<=p2∧p2<(List.length p0.2.1.2:Int)) (some (List.length (at' p0.2.1.2 p2):Int)))else(if p1=(10:Int)then(Option.bind (gF U (decide (p2=(0:Int)))) fun r8=>(some (r8)))else(if p1=(11:Int)then(some (p3))else(ck (0<=p2∧p2<(List.length p0.2.1.2:Int)) (ck (0<=p3∧p3<(List.length (at' p0.2.1.2 p2):Int)) (if p1=(13:Int)then(ck (0<=((at' (at' p0.2.1.2 p2) p3).1)∧((at' (at' p0.2.1.2 p2) p3).1)<(List.length p0.2.1.1:Int)) (some (at' p0.2.1.1 ((at' (at' p0.2.1.2 p2) p3).1))))else(if p1=(14:Int)then(ck (0<=((at' (at' p0.2.1.2 p2) p3).1)∧((at' (at' p0.2.1.2 p2) p3).1)<(List.length p0.2.1.2:Int)) (some (List.length (at' p0.2.1.2 ((at' (at' p0.2.1.2 p2) p3).1)):Int)))else(if p1=(15:Int)then(Option.bind (gF U (decide (((at' (at' p0.2.1.2 p2) p3).1)=(0:Int)))) fun r20=>(some (r20)))else(if p1=(16:Int)then(some ((at' (at' p0.2.1.2 p2) p3).2))else(ck (0<=p2∧p2<(List.length p0.2.2.2:Int)) (ck (0<=p3∧p3<(List.length (at' p0.2.2.2 p2):Int)) (some (at' (at' p0.2.2.2 p2) p3)))))))))))))))
theorem Vv:aQ Tryz.prog 255:=Tryz.call255
theorem BI (U:Nat) {p0:QL} {p1:Int} {p2:Int} {p3:Int} (bx0:Nat)  (v1:Value)  (v2:Value)  (v3:Value)  (v4:Value)  (z5:mB)  (v6:Value)  (z7:pW) (r:Int) (h:qM U p0 p1 p2 p3=some r):
  aS Tryz.prog 255 #[vP bx0,vI (p1),vI (p2),vI (p3)] [bS bx0 [vS (p0.1.1),v1,v2,v3,v4,vI (p0.2.2.1),v6] 218,Sl aH v1 p0.1.2.1,Sl aE v2 p0.1.2.2,Sl bD v3 p0.2.1.1,S2 a_ v4 z5 p0.2.1.2,S2 bD v6 z7 p0.2.2.2] (fun x:Unit=>vI (r)) (fun x l=>l) (fun _ l=>l):=by
 refine aS.of Tryz.func255 rfl Tryz.ntmps255 rfl fun c=>?_
 refine sqR<|qkAsg rfl<|dtN<|aG<|sqR<|qkMove rfl<|dtN<|aO<|sqR<|qkEql rfl<|qkAsg rfl<|dtN ?_
 refine eF h rfl (fun h=>?_) fun h=>?_
 ·refine sqR<|qkMove rfl<|aB (bP rfl) rfl<|qkFld rfl<|qkFld rfl<|aB (c_ rfl (aC.fact 0 rfl) rfl rfl rfl) rfl<|qkLen (aC.fact 3 rfl) rfl<|qkAsg rfl<|dtN<|aR<|bL<|aI ?_
  cases h
  exact kH rfl
 refine sqR<|qkEql rfl<|qkAsg rfl<|dtN ?_
 refine eF h rfl (fun h=>?_) fun h=>?_
 ·refine sqR<|qkMove rfl<|aB (bP rfl) rfl<|qkFld rfl<|aB (c_ rfl (aC.fact 0 rfl) rfl rfl rfl) rfl<|qkAsg rfl<|dtN<|aR<|bL<|aI ?_
  cases h
  exact kH rfl
 refine sqR<|qkEql rfl<|qkAsg rfl<|dtN ?_
 refine eF h rfl (fun h=>?_) fun h=>?_
 ·refine sqR<|qkMove rfl<|aB (bP rfl) rfl<|qkFld rfl<|qkFld rfl<|aB (c_ rfl (aC.fact 0 rfl) rfl rfl rfl) rfl<|qkMove rfl<|ckE h fun j4 h=>aB (aX rfl rfl (aC.fact 3 rfl) rfl rfl j4) rfl<|aB (bQ rfl (aC.fact 3 rfl) rfl rfl rfl cZ j4) rfl<|qkAsg rfl<|dtN<|aR<|bL<|aI ?_
  cases h
  exact kH rfl
 refine sqR<|qkEql rfl<|qkAsg rfl<|dtN ?_
 refine eF h rfl (fun h=>?_) fun h=>?_
 ·refine sqR<|qkMove rfl<|aB (bP rfl) rfl<|qkFld rfl<|qkFld rfl<|aB (c_ rfl (aC.fact 0 rfl) rfl rfl rfl) rfl<|qkMove rfl<|ckE h fun j6 h=>aB (cP rfl rfl (aC.fact 4 rfl) rfl rfl j6) rfl<|aB (cQ rfl (aC.fact 4 rfl) rfl rfl j6) rfl<|aB (fI rfl (aC.el (aC.fact 4 rfl) j6.1 j6.2) rfl) rfl<|qkAsg rfl<|dtN<|aR<|bL<|aI ?_
  cases h
  exact kH rfl
 refine sqR<|qkEql rfl<|qkAsg rfl<|dtN ?_
 refine eF h rfl (fun h=>?_) fun h=>?_
 ·refine sqR<|qkMove rfl<|qkEql rfl<|bnE h fun r8 w9 h=>aF (aJ.callQ vX (jK U  r8 w9) rfl .nil) rfl fun x10=>qkAsg rfl<|dtN<|aR<|bL<|aI ?_
  cases h
  exact kH rfl
 refine sqR<|qkEql rfl<|qkAsg rfl<|dtN ?_
 refine eF h rfl (fun h=>?_) fun h=>?_
 ·refine sqR<|qkMove rfl<|qkAsg rfl<|dtN<|aR<|bL<|aI ?_
  cases h
  exact kH rfl
 refine dD<|inT<|sqR<|qkMove rfl<|aB (bP rfl) rfl<|qkFld rfl<|qkFld rfl<|aB (c_ rfl (aC.fact 0 rfl) rfl rfl rfl) rfl<|qkMove rfl<|ckE h fun j12 h=>aB (cP rfl rfl (aC.fact 4 rfl) rfl rfl j12) rfl<|aB (cQ rfl (aC.fact 4 rfl) rfl rfl j12) rfl<|qkMove rfl<|ckE h fun j13 h=>aB (aX rfl rfl (aC.el (aC.fact 4 rfl) j12.1 j12.2) rfl rfl j13) rfl<|aB (hZ (cs:=[vI ((at' (at' p0.2.1.2 p2) p3).1),vI ((at' (at' p0.2.1.2 p2) p3).2)]) rfl (aC.el (aC.fact 4 rfl) j12.1 j12.2) bG rfl rfl rfl rfl j13) rfl<|aF (aJ.alloc (cs:=QT) rfl rfl) rfl fun b14=>bK 0 (vs:=[vI ((at' (at' p0.2.1.2 p2) p3).1),vI ((at' (at' p0.2.1.2 p2) p3).2)]) rfl rfl rfl rfl rfl rfl<|dtN<|aG<|sqR<|qkMove rfl<|dtN<|aO<|sqR<|qkEql rfl<|qkAsg rfl<|dtN ?_
 refine eF h rfl (fun h=>?_) fun h=>?_
 ·refine aG ?_
  refine JR.start [0,1,3,7,15,0,32,127,255,511] 7 mixedOrders (by decide +kernel) ?_
  refine JR.open (by exact rfl) ?_
  refine jkMove rfl<|jqN rfl (bP rfl)<|jkFld rfl<|jkFld rfl<|bI rfl .nil (oK 0 rfl) (c_ rfl (aC.fact 0 rfl) rfl rfl rfl) aM.z<|jkFld rfl<|jkLd 0 rfl<|bH 7 rfl rfl<|ckE h fun j16 h=>aB (aX rfl rfl (aC.fact 3 rfl) rfl rfl j16) rfl<|aB (bQ rfl (aC.fact 3 rfl) rfl rfl rfl cZ j16) rfl<|qkAsg rfl<|dtN<|aR<|bL<|aI ?_
  cases h
  exact vT rfl
 refine sqR<|qkEql rfl<|qkAsg rfl<|dtN ?_
 refine eF h rfl (fun h=>?_) fun h=>?_
 ·refine aG ?_
  refine JR.start [0,1,3,7,15,0,32,127,255,511,1023] 7 mixedOrders (by decide +kernel) ?_
  refine JR.open (by exact rfl) ?_
  refine jkMove rfl<|jqN rfl (bP rfl)<|jkFld rfl<|jkFld rfl<|bI rfl .nil (oK 0 rfl) (c_ rfl (aC.fact 0 rfl) rfl rfl rfl) aM.z<|jkFld rfl<|jkLd 0 rfl<|bH 7 rfl rfl<|ckE h fun j18 h=>aB (cP rfl rfl (aC.fact 4 rfl) rfl rfl j18) rfl<|aB (cQ rfl (aC.fact 4 rfl) rfl rfl j18) rfl<|aB (fI rfl (aC.el (aC.fact 4 rfl) j18.1 j18.2) rfl) rfl<|qkAsg rfl<|dtN<|aR<|bL<|aI ?_
  cases h
  exact vT rfl
 refine sqR<|qkEql rfl<|qkAsg rfl<|dtN ?_
 refine eF h rfl (fun h=>?_) fun h=>?_
 ·refine sqR<|qkFld rfl<|qkLd 0 rfl<|qkEql rfl<|bnE h fun r20 w21 h=>aF (aJ.callQ vX (jK U  r20 w21) rfl .nil) rfl fun x22=>qkAsg rfl<|dtN<|aR<|bL<|aI ?_
  cases h
  exact vT rfl
 refine sqR<|qkEql rfl<|qkAsg rfl<|dtN ?_
 refine eF h rfl (fun h=>?_) fun h=>?_
 ·refine sqR<|qkFld rfl<|qkLd 0 rfl<|qkAsg rfl<|dtN<|aR<|bL<|aI ?_
  cases h
  exact vT rfl
 refine dD<|inT<|sqR<|qkMove rfl<|aB (bP rfl) rfl<|qkFld rfl<|aB (c_ rfl (aC.fact 0 rfl) rfl rfl rfl) rfl<|qkMove rfl<|ckE h fun j24 h=>aB (cP rfl rfl (aC.fact 5 rfl) rfl rfl j24) rfl<|aB (cQ rfl (aC.fact 5 rfl) rfl rfl j24) rfl<|qkMove rfl<|ckE h fun j25 h=>aB (aX rfl rfl (aC.el (aC.fact 5 rfl) j24.1 j24.2) rfl rfl j25) rfl<|aB (bQ rfl (aC.el (aC.fact 5 rfl) j24.1 j24.2) rfl rfl rfl cZ j25) rfl<|qkAsg rfl<|dtN<|aR ?_
 cases h
 exact vT rfl
end
section
def kJ (U:Nat) (p0:Kt) (p1:dL) (p2:Int):Option (Int):=
 if p1.1=(1:Int)then(some (p1.2))else(if p1.1=(2:Int)then(some (1:Int))else(if p1.1=(3:Int)then(some (0:Int))else(if p1.1=(4:Int)then(some (-1:Int))else(if p1.1=(5:Int)then(ck (0<=p0.2.2.1∧p0.2.2.1<(List.length p0.2.1:Int)) (ck (0<=p1.2∧p1.2<(List.length (at' p0.2.1 p0.2.2.1):Int)) (some (at' (at' p0.2.1 p0.2.2.1) p1.2))))else(if p1.1=(12:Int)then(ck (0<=p0.2.2.1∧p0.2.2.1<(List.length p0.1.2.1.2:Int)) (ck (0<=p2∧p2<(List.length (at' p0.1.2.1.2 p0.2.2.1):Int)) (ck (0<=((at' (at' p0.1.2.1.2 p0.2.2.1) p2).1)∧((at' (at' p0.1.2.1.2 p0.2.2.1) p2).1)<(List.length p0.2.1:Int)) (ck (0<=p1.2∧p1.2<(List.length (at' p0.2.1 ((at' (at' p0.1.2.1.2 p0.2.2.1) p2).1)):Int)) (some (at' (at' p0.2.1 ((at' (at' p0.1.2.1.2 p0.2.2.1) p2).1)) p1.2))))))else(Option.bind (qM U ((((p0.1.1.1,p0.1.1.2.1,p0.1.1.2.2)),((p0.1.2.1.1,p0.1.2.1.2)),p0.1.2.2.1,p0.1.2.2.2)) p1.1 p0.2.2.1 p2) fun r14=>(some (r14))))))))
theorem Vs:aQ Tryz.prog 233:=Tryz.call233
theorem Cv (U:Nat) {p0:Kt} {p1:dL} {p2:Int} (bx0:Nat)  (bx1:Nat)  (v2:Value)  (v3:Value)  (v4:Value)  (v5:Value)  (z6:mB)  (v7:Value)  (z8:pW)  (v9:Value)  (z10:pW)  (v11:Value) (r:Int) (h:kJ U p0 p1 p2=some r):
  aS Tryz.prog 233 #[vP bx0,Value.agg #[vI (p1.1),vI (p1.2)],vI (p2)] [bS bx0 [vP bx1,v9,vI (p0.2.2.1),v11] 262,bS bx1 [vS (p0.1.1.1),v2,v3,v4,v5,vI (p0.1.2.2.1),v7] 218,Sl aH v2 p0.1.1.2.1,Sl aE v3 p0.1.1.2.2,Sl bD v4 p0.1.2.1.1,S2 a_ v5 z6 p0.1.2.1.2,S2 bD v7 z8 p0.1.2.2.2,S2 bD v9 z10 p0.2.1,Sl a_ v11 p0.2.2.2] (fun x:Unit=>vI (r)) (fun x l=>l) (fun _ l=>l):=by
 refine aS.of Tryz.func233 rfl Tryz.ntmps233 rfl fun c=>?_
 refine sqR<|aF (aJ.box (cs:=[vI (p1.1),vI (p1.2)]) rfl rfl) rfl fun b1=>qkAsg rfl<|dtN<|aG<|sqR<|qkFld rfl<|qkLd 0 rfl<|dtN<|aO<|sqR<|qkEql rfl<|qkAsg rfl<|dtN ?_
 refine eF h rfl (fun h=>?_) fun h=>?_
 ·refine sqR<|qkFld rfl<|qkLd 0 rfl<|qkAsg rfl<|dtN<|aR<|bL<|aI ?_
  cases h
  exact vT rfl
 refine sqR<|qkEql rfl<|qkAsg rfl<|dtN ?_
 refine eF h rfl (fun h=>?_) fun h=>?_
 ·refine sqR<|qkAsg rfl<|dtN<|aR<|bL<|aI ?_
  cases h
  exact vT rfl
 refine sqR<|qkEql rfl<|qkAsg rfl<|dtN ?_
 refine eF h rfl (fun h=>?_) fun h=>?_
 ·refine sqR<|qkAsg rfl<|dtN<|aR<|bL<|aI ?_
  cases h
  exact vT rfl
 refine sqR<|qkEql rfl<|qkAsg rfl<|dtN ?_
 refine eF h rfl (fun h=>?_) fun h=>?_
 ·refine sqR<|qkAsg rfl<|dtN<|aR<|bL<|aI ?_
  cases h
  exact vT rfl
 refine sqR<|qkEql rfl<|qkAsg rfl<|dtN ?_
 refine eF h rfl (fun h=>?_) fun h=>?_
 ·refine aG ?_
  refine JR.start [0,1,3,7,0,16,48,112,255,511,0,1024,4095,8191,16383] 12 mixedOrders (by decide +kernel) ?_
  refine JR.open (by exact rfl) ?_
  refine jkMove rfl<|jqN rfl (bP rfl)<|jkFld rfl<|bI rfl .nil (oK 0 rfl) (c_ rfl (aC.fact 0 rfl) rfl rfl rfl) aM.z<|jkMove rfl<|jqN rfl (bP rfl)<|jkFld rfl<|bI rfl .nil (oK 0 rfl) (c_ rfl (aC.fact 0 rfl) rfl rfl rfl) aM.z<|ckE h fun j7 h=>bI rfl .nil (oK 7 rfl) (cP rfl rfl (aC.fact 0 rfl) rfl rfl j7) aM.z<|bI rfl .nil (oK 7 rfl) (cQ rfl (aC.fact 0 rfl) rfl rfl j7) aM.z<|jkFld rfl<|jkLd 0 rfl<|bH 12 rfl rfl<|ckE h fun j8 h=>aB (aX rfl rfl (aC.el (aC.fact 7 rfl) j7.1 j7.2) rfl rfl j8) rfl<|aB (bQ rfl (aC.el (aC.fact 7 rfl) j7.1 j7.2) rfl rfl rfl cZ j8) rfl<|qkAsg rfl<|dtN<|aR<|bL<|aI ?_
  cases h
  exact vT rfl
 refine sqR<|qkEql rfl<|qkAsg rfl<|dtN ?_
 refine eF h rfl (fun h=>?_) fun h=>?_
 ·refine aG ?_
  refine JR.start [0,1,3,7,0,16,48,112,240,496,1008,2032,0,4096,12288,28672,65520,131056,0,524272,1048560,2097136,4194303,8388607,0,16777216,67108863,134217727,268435455] 26 mixedOrders (by decide +kernel) ?_
  refine JR.open (by exact rfl) ?_
  refine jkMove rfl<|jqN rfl (bP rfl)<|jkFld rfl<|bI rfl .nil (oK 0 rfl) (c_ rfl (aC.fact 0 rfl) rfl rfl rfl) aM.z<|jkMove rfl<|jqN rfl (bP rfl)<|jkFld rfl<|bI rfl .nil (oK 0 rfl) (c_ rfl (aC.fact 0 rfl) rfl rfl rfl) aM.z<|jqN rfl (bP rfl)<|jkFld rfl<|jkFld rfl<|bI rfl .nil (oK 1 rfl) (c_ rfl (aC.fact 0 rfl) rfl rfl rfl) aM.z<|jkMove rfl<|jqN rfl (bP rfl)<|jkFld rfl<|bI rfl .nil (oK 0 rfl) (c_ rfl (aC.fact 0 rfl) rfl rfl rfl) aM.z<|ckE h fun j10 h=>bI rfl .nil (oK 5 rfl) (cP rfl rfl (aC.fact 0 rfl) rfl rfl j10) aM.z<|bI rfl .nil (oK 5 rfl) (cQ rfl (aC.fact 0 rfl) rfl rfl j10) aM.z<|jkMove rfl<|ckE h fun j11 h=>bI rfl .nil (oK 5 rfl) (aX rfl rfl (aC.el (aC.fact 0 rfl) j10.1 j10.2) rfl rfl j11) aM.z<|jqN rfl (nT rfl rfl rfl rfl rfl)<|bI rfl .nil (oK 5 rfl) (pY rfl (aC.el (aC.fact 0 rfl) j10.1 j10.2) rfl rfl rfl Au j11) aM.z<|ckE h fun j12 h=>bI rfl .nil (oK 7 rfl) (cP rfl rfl (aC.fact 0 rfl) rfl rfl j12) aM.z<|bI rfl .nil (oK 7 rfl) (cQ rfl (aC.fact 0 rfl) rfl rfl j12) aM.z<|jkFld rfl<|jkLd 0 rfl<|bH 26 rfl rfl<|ckE h fun j13 h=>aB (aX rfl rfl (aC.el (aC.fact 7 rfl) j12.1 j12.2) rfl rfl j13) rfl<|aB (bQ rfl (aC.el (aC.fact 7 rfl) j12.1 j12.2) rfl rfl rfl cZ j13) rfl<|qkAsg rfl<|dtN<|aR<|bL<|aI ?_
  cases h
  exact vT rfl
 refine dD<|inT<|aG ?_
 refine JR.start [0,1,3,7,0,16,0,64,192,448,0,2047,4095] 11 mixedOrders (by decide +kernel) ?_
 refine JR.open (by exact rfl) ?_
 refine jkMove rfl<|jqN rfl (bP rfl)<|jkFld rfl<|bI rfl .nil (oK 0 rfl) (c_ rfl (aC.fact 0 rfl) rfl rfl rfl) aM.z<|jkFld rfl<|jkLd 0 rfl<|jkMove rfl<|jqN rfl (bP rfl)<|jkFld rfl<|bI rfl .nil (oK 0 rfl) (c_ rfl (aC.fact 0 rfl) rfl rfl rfl) aM.z<|jkMove rfl<|bH 11 rfl rfl<|bnE h fun r14 w15 h=>aF (aJ.callQ Vv (BI U bx1 v2 v3 v4 v5 z6 v7 z8 r14 w15) rfl (lH [1,2,3,4,5,6] rfl)) rfl fun x16=>qkAsg rfl<|dtN<|aR ?_
 cases h
 exact vT rfl
end
section
def xP (U:Nat) (p0:Int) (p1:Int):Option (Int):=
 if p0=(18:Int)then(some (wI .i64 (0 - p1)))else(Option.bind (gF U (decide (p1=(0:Int)))) fun r2=>(some (r2)))
theorem Vt:aQ Tryz.prog 234:=Tryz.call234
theorem Km (U:Nat) {p0:Int} {p1:Int} (r:Int) (h:xP U p0 p1=some r):
  aS Tryz.prog 234 #[vI (p0),vI (p1)] [] (fun x:Unit=>vI (r)) (fun x l=>l) (fun _ l=>l):=by
 refine aS.of Tryz.func234 rfl Tryz.ntmps234 rfl fun c=>?_
 refine sqR<|qkAsg rfl<|dtN<|aG<|sqR<|qkMove rfl<|qkEql rfl<|dtN ?_
 refine eF h rfl (fun h=>?_) fun h=>?_
 ·refine sqR<|qkMove rfl<|aB (Oe rfl) rfl<|qkAsg rfl<|dtN<|aR<|aI ?_
  cases h
  exact kH rfl
 refine cJ<|sqR<|qkMove rfl<|qkEql rfl<|bnE h fun r2 w3 h=>aF (aJ.callQ vX (jK U  r2 w3) rfl .nil) rfl fun x4=>qkAsg rfl<|dtN<|aR ?_
 cases h
 exact kH rfl
end
section
def gT (U:Nat) (p0:Int):Option (Int):=
 some (max (-1073741824:Int) (min p0 (1073741824:Int)))
theorem B_:aQ Tryz.prog 258:=Tryz.call258
theorem lB (U:Nat) {p0:Int} (r:Int) (h:gT U p0=some r):
  aS Tryz.prog 258 #[vI (p0)] [] (fun x:Unit=>vI (r)) (fun x l=>l) (fun _ l=>l):=by
 refine aS.of Tryz.func258 rfl Tryz.ntmps258 rfl fun c=>?_
 unfold gT at h
 refine sqR<|qkAsg rfl<|dtN<|sqR<|qkMove rfl<|aB (WO rfl rfl) rfl<|aB (Le rfl rfl) rfl<|qkAsg rfl<|dtN<|aR ?_
 cases h
 exact kH rfl
end
section
def oB  (a4:Int):Option (Int):=
 some (a4)
def rB (p0:Int) (p1:Int) (a7:Bool):Option (Int):=
 if a7=true then(oB  (wI .i64 ((wI .i64 (Int.tdiv p0 p1)) - (1:Int))))else(oB  (wI .i64 (Int.tdiv p0 p1)))
def pF (U:Nat) (p0:Int) (p1:Int):Option (Int):=
 if p1=(0:Int)then(some (0:Int))else(ck (p1≠0) (ck (p1≠0) (if(Int.tmod p0 p1)≠(0:Int)then(rB p0 p1 (((decide (p0<(0:Int))) != (decide (p1<(0:Int))))))else(rB p0 p1 (false)))))
theorem Ow:aQ Tryz.prog 259:=Tryz.call259
theorem AZ (U:Nat) {p0:Int} {p1:Int} (r:Int) (h:pF U p0 p1=some r):
  aS Tryz.prog 259 #[vI (p0),vI (p1)] [] (fun x:Unit=>vI (r)) (fun x l=>l) (fun _ l=>l):=by
 refine aS.of Tryz.func259 rfl Tryz.ntmps259 rfl fun c=>?_
 refine sqR<|qkAsg rfl<|dtN<|aG<|sqR<|qkMove rfl<|qkEql rfl<|dtN ?_
 refine eF h rfl (fun h=>?_) fun h=>?_
 ·refine sqR<|qkAsg rfl<|dtN<|aR<|aI ?_
  cases h
  exact kH rfl
 refine cJ<|sqR<|qkMove rfl<|qkMove rfl<|ckE h fun j2 h=>aB (RI rfl rfl j2) rfl<|qkAsg rfl<|dtN<|aG<|midU (fun a4=>oB  a4=some r) (fun a4 b5=>[(5,vI (a4))]) (fun a4 b5=>[]) ?_ ?_
 ·refine aG<|midU (fun a7=>rB p0 p1 a7=some r) (fun a7 b8=>[(5,vI (wI .i64 (Int.tdiv p0 p1))),(21,vB (a7))]) (fun a7 b8=>[]) ?_ ?_
  ·refine aK<|qkMove rfl<|qkMove rfl<|ckE h fun j10 h=>aB (Lh rfl rfl j10) rfl<|qkNeq rfl<|qkMove rfl ?_
   refine AW h rfl (fun _ h=>?_) fun _ h=>?_
   ·refine gyMove rfl<|aN rfl (Bu rfl rfl) rfl<|gyMove rfl<|aN rfl (Bu rfl rfl) rfl<|aN rfl (RH rfl rfl rfl) rfl<|qkPkT rfl<|dtN ?_
    exact fM (((decide (p0<(0:Int))) != (decide (p1<(0:Int))))) () h SF rfl
   refine gdSkip rfl<|gdSkip rfl<|gdSkip rfl<|gdSkip rfl<|gdSkip rfl<|qkPkF rfl<|dtN ?_
   exact fM (false) () h SF rfl
  intro a7 b8 h
  refine z_ h rfl (fun _ h=>?_) fun _ h=>?_
  ·refine aK<|qkMove rfl<|aB (pT rfl rfl) rfl<|qkAsg rfl<|dtN ?_
   exact fM (wI .i64 ((wI .i64 (Int.tdiv p0 p1)) - (1:Int))) () h SF rfl
  refine cJ ?_
  exact fM (wI .i64 (Int.tdiv p0 p1)) () h SF rfl
 intro a4 b5 h
 unfold oB at h
 refine sqR<|qkMove rfl<|qkAsg rfl<|dtN<|aR ?_
 cases h
 exact kH rfl
end
section
def sY (U:Nat) (p0:Int) (p1:Int) (p2:Int):Option (Bool):=
 if p0=(35:Int)then(some (decide (p1=p2)))else(if p0=(36:Int)then(some (decide (p1≠p2)))else(if p0=(37:Int)then(some (decide (p1<p2)))else(if p0=(38:Int)then(some (decide (p1<=p2)))else(if p0=(39:Int)then(some (decide (p2<p1)))else(some (decide (p2<=p1)))))))
theorem Vx:aQ Tryz.prog 260:=Tryz.call260
theorem FK (U:Nat) {p0:Int} {p1:Int} {p2:Int} (r:Bool) (h:sY U p0 p1 p2=some r):
  aS Tryz.prog 260 #[vI (p0),vI (p1),vI (p2)] [] (fun x:Unit=>vB (r)) (fun x l=>l) (fun _ l=>l):=by
 refine aS.of Tryz.func260 rfl Tryz.ntmps260 rfl fun c=>?_
 refine sqR<|qkAsg rfl<|dtN<|aG<|sqR<|qkMove rfl<|dtN<|aO<|sqR<|qkEql rfl<|qkAsg rfl<|dtN ?_
 refine eF h rfl (fun h=>?_) fun h=>?_
 ·refine sqR<|qkMove rfl<|qkMove rfl<|qkEql rfl<|qkAsg rfl<|dtN<|aR<|bL<|aI ?_
  cases h
  exact kH rfl
 refine sqR<|qkEql rfl<|qkAsg rfl<|dtN ?_
 refine eF h rfl (fun h=>?_) fun h=>?_
 ·refine sqR<|qkMove rfl<|qkMove rfl<|qkNeq rfl<|qkAsg rfl<|dtN<|aR<|bL<|aI ?_
  cases h
  exact kH rfl
 refine sqR<|qkEql rfl<|qkAsg rfl<|dtN ?_
 refine eF h rfl (fun h=>?_) fun h=>?_
 ·refine sqR<|qkMove rfl<|qkMove rfl<|qkLss rfl<|qkAsg rfl<|dtN<|aR<|bL<|aI ?_
  cases h
  exact kH rfl
 refine sqR<|qkEql rfl<|qkAsg rfl<|dtN ?_
 refine eF h rfl (fun h=>?_) fun h=>?_
 ·refine sqR<|qkMove rfl<|qkMove rfl<|aB (zX rfl rfl) rfl<|qkAsg rfl<|dtN<|aR<|bL<|aI ?_
  cases h
  exact kH rfl
 refine sqR<|qkEql rfl<|qkAsg rfl<|dtN ?_
 refine eF h rfl (fun h=>?_) fun h=>?_
 ·refine sqR<|qkMove rfl<|qkMove rfl<|aB (rZ rfl rfl) rfl<|qkAsg rfl<|dtN<|aR<|bL<|aI ?_
  cases h
  exact kH rfl
 refine dD<|inT<|sqR<|qkMove rfl<|qkMove rfl<|aB (Bt rfl rfl) rfl<|qkAsg rfl<|dtN<|aR ?_
 cases h
 exact kH rfl
end
section
def n_  (a30:Int):Option (Int):=
 some (a30)
def oA  (a41:Int):Option (Int):=
 some (a41)
def v_ (U:Nat) (p0:Int) (p1:Int) (p2:Int):Option (Int):=
 if p0=(30:Int)then(Option.bind (gT U (wI .i64 (p1*p2))) fun r2=>(some (r2)))else(if p0=(31:Int)then(Option.bind (pF U p1 p2) fun r6=>(Option.bind (gT U r6) fun r9=>(some (r9))))else(if p0=(32:Int)then(if p2=(0:Int)then(some (0:Int))else(Option.bind (pF U p1 p2) fun r14=>(Option.bind (gT U (wI .i64 (p1 - (wI .i64 (p2*r14))))) fun r17=>(some (r17)))))else(if p0=(33:Int)then(Option.bind (gT U (wI .i64 (p1+p2))) fun r21=>(some (r21)))else(if p0=(34:Int)then(Option.bind (gT U (wI .i64 (p1 - p2))) fun r25=>(some (r25)))else(if p0=(41:Int)then(if p1≠(0:Int)then(Option.bind (gF U (decide (p2≠(0:Int)))) fun r33=>(n_  (r33)))else(Option.bind (gF U false) fun r36=>(n_  (r36))))else(if p0=(42:Int)then(if p1≠(0:Int)then(Option.bind (gF U true) fun r44=>(oA  (r44)))else(Option.bind (gF U (decide (p2≠(0:Int)))) fun r47=>(oA  (r47))))else(Option.bind (sY U p0 p1 p2) fun r50=>(Option.bind (gF U r50) fun r53=>(some (r53))))))))))
theorem Vu:aQ Tryz.prog 236:=Tryz.call236
theorem Ik (U:Nat) {p0:Int} {p1:Int} {p2:Int} (r:Int) (h:v_ U p0 p1 p2=some r):
  aS Tryz.prog 236 #[vI (p0),vI (p1),vI (p2)] [] (fun x:Unit=>vI (r)) (fun x l=>l) (fun _ l=>l):=by
 refine aS.of Tryz.func236 rfl Tryz.ntmps236 rfl fun c=>?_
 refine sqR<|qkAsg rfl<|dtN<|aG<|sqR<|qkMove rfl<|dtN<|aO<|sqR<|qkEql rfl<|qkAsg rfl<|dtN ?_
 refine eF h rfl (fun h=>?_) fun h=>?_
 ·refine sqR<|qkMove rfl<|qkMove rfl<|aB (Az rfl rfl) rfl<|bnE h fun r2 w3 h=>aF (aJ.callQ B_ (lB U  r2 w3) rfl .nil) rfl fun x4=>qkAsg rfl<|dtN<|aR<|bL<|aI ?_
  cases h
  exact kH rfl
 refine sqR<|qkEql rfl<|qkAsg rfl<|dtN ?_
 refine eF h rfl (fun h=>?_) fun h=>?_
 ·refine sqR<|qkMove rfl<|qkMove rfl<|bnE h fun r6 w7 h=>aF (aJ.callQ Ow (AZ U  r6 w7) rfl .nil) rfl fun x8=>bnE h fun r9 w10 h=>aF (aJ.callQ B_ (lB U  r9 w10) rfl .nil) rfl fun x11=>qkAsg rfl<|dtN<|aR<|bL<|aI ?_
  cases h
  exact kH rfl
 refine sqR<|qkEql rfl<|qkAsg rfl<|dtN ?_
 refine eF h rfl (fun h=>?_) fun h=>?_
 ·refine aG<|sqR<|qkMove rfl<|qkEql rfl<|dtN ?_
  refine eF h rfl (fun h=>?_) fun h=>?_
  ·refine sqR<|qkAsg rfl<|dtN<|aR<|aI<|bL<|aI ?_
   cases h
   exact kH rfl
  refine cJ<|sqR<|qkMove rfl<|qkMove rfl<|qkMove rfl<|qkMove rfl<|bnE h fun r14 w15 h=>aF (aJ.callQ Ow (AZ U  r14 w15) rfl .nil) rfl fun x16=>aB (Az rfl rfl) rfl<|aB (pT rfl rfl) rfl<|bnE h fun r17 w18 h=>aF (aJ.callQ B_ (lB U  r17 w18) rfl .nil) rfl fun x19=>qkAsg rfl<|dtN<|aR<|bL<|aI ?_
  cases h
  exact kH rfl
 refine sqR<|qkEql rfl<|qkAsg rfl<|dtN ?_
 refine eF h rfl (fun h=>?_) fun h=>?_
 ·refine sqR<|qkMove rfl<|qkMove rfl<|qkAdd rfl<|bnE h fun r21 w22 h=>aF (aJ.callQ B_ (lB U  r21 w22) rfl .nil) rfl fun x23=>qkAsg rfl<|dtN<|aR<|bL<|aI ?_
  cases h
  exact kH rfl
 refine sqR<|qkEql rfl<|qkAsg rfl<|dtN ?_
 refine eF h rfl (fun h=>?_) fun h=>?_
 ·refine sqR<|qkMove rfl<|qkMove rfl<|aB (pT rfl rfl) rfl<|bnE h fun r25 w26 h=>aF (aJ.callQ B_ (lB U  r25 w26) rfl .nil) rfl fun x27=>qkAsg rfl<|dtN<|aR<|bL<|aI ?_
  cases h
  exact kH rfl
 refine sqR<|qkEql rfl<|qkAsg rfl<|dtN ?_
 refine eF h rfl (fun h=>?_) fun h=>?_
 ·refine aG<|midU (fun a30=>n_  a30=some r) (fun a30 b31=>[(6,vI (a30))]) (fun a30 b31=>[]) ?_ ?_
  ·refine aK<|qkMove rfl<|qkNeq rfl<|qkMove rfl ?_
   refine AW h rfl (fun _ h=>?_) fun _ h=>?_
   ·refine gyMove rfl<|aN rfl (IA rfl rfl) rfl<|qkPkT rfl<|bnE h fun r33 w34 h=>aF (aJ.callQ vX (jK U  r33 w34) rfl .nil) rfl fun x35=>qkAsg rfl<|dtN ?_
    exact fM (r33) () h SF rfl
   refine gdSkip rfl<|gdSkip rfl<|qkPkF rfl<|bnE h fun r36 w37 h=>aF (aJ.callQ vX (jK U  r36 w37) rfl .nil) rfl fun x38=>qkAsg rfl<|dtN ?_
   exact fM (r36) () h SF rfl
  intro a30 b31 h
  unfold n_ at h
  refine aR<|bL<|aI ?_
  cases h
  exact kH rfl
 refine sqR<|qkEql rfl<|qkAsg rfl<|dtN ?_
 refine eF h rfl (fun h=>?_) fun h=>?_
 ·refine aG<|midU (fun a41=>oA  a41=some r) (fun a41 b42=>[(6,vI (a41))]) (fun a41 b42=>[]) ?_ ?_
  ·refine aK<|qkMove rfl<|qkNeq rfl<|qkMove rfl ?_
   refine AW h rfl (fun _ h=>?_) fun _ h=>?_
   ·refine gdSkip rfl<|gdSkip rfl<|qkPkT rfl<|bnE h fun r44 w45 h=>aF (aJ.callQ vX (jK U  r44 w45) rfl .nil) rfl fun x46=>qkAsg rfl<|dtN ?_
    exact fM (r44) () h SF rfl
   refine gyMove rfl<|aN rfl (IA rfl rfl) rfl<|qkPkF rfl<|bnE h fun r47 w48 h=>aF (aJ.callQ vX (jK U  r47 w48) rfl .nil) rfl fun x49=>qkAsg rfl<|dtN ?_
   exact fM (r47) () h SF rfl
  intro a41 b42 h
  unfold oA at h
  refine aR<|bL<|aI ?_
  cases h
  exact kH rfl
 refine dD<|inT<|sqR<|qkMove rfl<|qkMove rfl<|qkMove rfl<|bnE h fun r50 w51 h=>aF (aJ.callQ Vx (FK U  r50 w51) rfl .nil) rfl fun x52=>bnE h fun r53 w54 h=>aF (aJ.callQ vX (jK U  r53 w54) rfl .nil) rfl fun x55=>qkAsg rfl<|dtN<|aR ?_
 cases h
 exact kH rfl
end
section
def vY  (a2:Int):Option (Int):=
 some (a2)
def r_ (a7:dL) (ag6:eK->Option (Int)) (a12:Int):Option (Int):=
 ag6 (a12,(wI .i64 (a7.2+(1:Int))))
def pN (p0:aL) (a7:dL) (ag6:eK->Option (Int)):Option (Int):=
 if a7.2<(List.length p0:Int)then(ck (0<=a7.2∧a7.2<(List.length p0:Int)) (if(at' p0 a7.2)≠(0:Int)then(r_ a7 ag6 (wI .i64 (a7.1+(1:Int))))else(r_ a7 ag6 (a7.1))))else(vY  (a7.1))
def oQ (U:Nat) (p0:aL):Option (Int):=
 bE (pN p0) U ((0:Int),(0:Int))
theorem JJ:aQ Tryz.prog 269:=Tryz.call269
theorem AQ (U:Nat) {p0:aL} (v0:Value) (r:Int) (h:oQ U p0=some r):
  aS Tryz.prog 269 #[v0] [Sl bD v0 p0] (fun x:Unit=>vI (r)) (fun x l=>l) (fun _ l=>l):=by
 refine aS.of Tryz.func269 rfl Tryz.ntmps269 rfl fun c=>?_
 unfold oQ at h
 refine sqR<|qkAsg rfl<|dtN<|sqR<|qkAsg rfl<|dtN<|aG<|midU (fun a2=>vY  a2=some r) (fun a2 b3=>[(3,vI (a2))]) (fun a2 b3=>[]) ?_ ?_
 ·refine sqR<|qkMove rfl<|qkLen (aC.fact 0 rfl) rfl<|qkMove rfl<|dtN<|aO<|loopL (pN p0) (fun a7 b8=>[(3,vI (a7.1)),(6,v0),(7,vI (List.length p0:Int)),(8,vI (a7.2))]) (fun a7 b8=>[]) ((0:Int),(0:Int)) () h SF (aV.refl _) ?_
  intro k9 a7 b8 h
  refine sqR<|qkLss rfl<|dtN<|aG ?_
  refine eF h rfl (fun h=>?_) fun h=>?_
  ·refine cJ<|aG<|midU (fun a12=>r_ a7 (bE (pN p0) k9) a12=some r) (fun a12 b13=>[(3,vI (a12)),(6,v0),(7,vI (List.length p0:Int)),(8,vI (a7.2))]) (fun a12 b13=>[]) ?_ ?_
   ·refine aO<|sqR<|ckE h fun j14 h=>aB (aX rfl rfl (aC.fact 0 rfl) rfl rfl j14) rfl<|aB (bQ rfl (aC.fact 0 rfl) rfl rfl rfl cZ j14) rfl<|qkAsg rfl<|dtN<|sqR<|qkMove rfl<|qkNeq rfl<|dtN ?_
    refine eF h rfl (fun h=>?_) fun h=>?_
    ·refine aK<|qkMove rfl<|qkAdd rfl<|qkAsg rfl<|dK<|inT ?_
     exact fM (wI .i64 (a7.1+(1:Int))) () h SF rfl
    refine dD<|inT ?_
    exact fM (a7.1) () h SF rfl
   intro a12 b13 h
   unfold r_ at h
   refine aK<|qkAdd rfl<|qkMove rfl<|dtN ?_
   exact xV (a12,(wI .i64 (a7.2+(1:Int)))) () h SF rfl
  refine eZ ?_
  exact fM (a7.1) () h SF rfl
 intro a2 b3 h
 unfold vY at h
 refine sqR<|qkMove rfl<|qkAsg rfl<|dtN<|aR ?_
 cases h
 exact kH rfl
end
section
def nQ  (a1:Unit):Option (Int):=
 some (-1:Int)
def eQ (p0:aL) (g1:Int->Option Bool) (a5:Int) (ag4:(Int)->Option (Int)):Option (Int):=
 if a5<(List.length p0:Int)then(ck (0<=a5∧a5<(List.length p0:Int)) (Option.bind (g1 (at' p0 a5)) fun r10=>(if r10=true then(some (a5))else(ag4 (wI .i64 (a5+(1:Int)))))))else(nQ  (()))
def lO (U:Nat) (p0:aL) (g1:Int->Option Bool):Option (Int):=
 bE (eQ p0 g1) U (0:Int)
theorem Vy:aQ Tryz.prog 270:=Tryz.call270
theorem Dm (U:Nat) {p0:aL} {g1:Int->Option Bool} (f1:FuncId) (cs1:f_) (Lf:List aU) (hb_g1:aQ Tryz.prog f1) (hm_g1:∀(y0:Int) (r:Bool),g1 y0=some r->aS Tryz.prog f1 ([vI (y0)]++cs1).toArray Lf (fun _:Unit=>vB (r)) (fun _ l=>l) (fun _ l=>l)) (v0:Value) (r:Int) (h:lO U p0 g1=some r):
  aS Tryz.prog 270 #[v0,Value.func (.func f1) #[] (cs1).toArray] ([Sl bD v0 p0]++Lf) (fun x:Unit=>vI (r)) (fun x l=>l) (fun _ l=>l):=by
 refine aS.of Tryz.func270 rfl Tryz.ntmps270 rfl fun c=>?_
 unfold lO at h
 refine sqR<|qkAsg rfl<|dtN<|aG<|tI (B:=Unit) (fun a1=>nQ  a1=some r) (fun a1 b2=>[]) (fun a1 b2=>[]) (fun a1 b2=>([Sl bD v0 p0]++Lf)) ?_ ?_
 ·refine sqR<|qkMove rfl<|qkLen (aC.fact 0 rfl) rfl<|qkMove rfl<|dtN<|aO<|Ap (B:=Unit) (eQ p0 g1) (fun a5 b6=>[(0,v0),(1,Value.func (.func f1) #[] (cs1).toArray),(7,vI (List.length p0:Int)),(8,vI (a5))]) (fun a5 b6=>[]) (fun a5 b6=>([Sl bD v0 p0]++Lf)) (0:Int) () h SF (aV.refl _) (aD.refl _ _) ?_
  intro k7 a5 b6 h
  refine sqR<|qkLss rfl<|dtN<|aG ?_
  refine eF h rfl (fun h=>?_) fun h=>?_
  ·refine cJ<|aG<|aO<|sqR<|qkMove rfl<|qkAsg rfl<|dtN<|sqR<|qkMove rfl<|qkMove rfl<|qkMove rfl<|ckE h fun j9 h=>aB (aX rfl rfl (aC.fact 0 rfl) rfl rfl j9) rfl<|aB (bQ rfl (aC.fact 0 rfl) rfl rfl rfl cZ j9) rfl<|bnE h fun r10 w11 h=>aF (qG (vs:=[vI (at' p0 a5)]) (cs:=cs1) hb_g1 rfl (hm_g1 (at' p0 a5) r10 w11) rfl (aD.tail _) (fun _ _=>rfl)) rfl fun x12=>dtN ?_
   refine z_ h rfl (fun _ h=>?_) fun _ h=>?_
   ·refine sqR<|qkMove rfl<|qkAsg rfl<|dtN<|aR<|bL<|aI<|aI<|bL<|aI ?_
    cases h
    exact kH rfl
   refine dD<|inT<|aK<|qkAdd rfl<|qkMove rfl<|dtN ?_
   exact xV (wI .i64 (a5+(1:Int))) () h SF rfl
  refine eZ ?_
  exact fM () (()) h SF rfl
 intro a1 b2 h
 unfold nQ at h
 refine sqR<|qkAsg rfl<|dtN<|aR ?_
 cases h
 exact kH rfl
end
section
def nE (U:Nat) (p0:Int):Option (Bool):=
 some (decide (p0≠(0:Int)))
theorem Vz:aQ Tryz.prog 271:=Tryz.call271
theorem Il (U:Nat) {p0:Int} (r:Bool) (h:nE U p0=some r):
  aS Tryz.prog 271 #[vI (p0)] [] (fun x:Unit=>vB (r)) (fun x l=>l) (fun _ l=>l):=by
 refine aS.of Tryz.func271 rfl Tryz.ntmps271 rfl fun c=>?_
 unfold nE at h
 refine sqR<|qkAsg rfl<|dtN<|sqR<|qkMove rfl<|qkNeq rfl<|qkAsg rfl<|dtN<|aR ?_
 cases h
 exact kH rfl
end
section
def rT  (a3:dL):Option eK:=
 some (a3.1,a3.2)
def nN (a9:Int×Int×Int) (ag8:(Int×Int×Int)->Option eK) (a15:dL):Option eK:=
 ag8 (a15.1,a15.2,(wI .i64 (a9.2.2+(1:Int))))
def rU (p0:aL) (a9:Int×Int×Int) (ag8:(Int×Int×Int)->Option eK):Option eK:=
 if a9.2.2<(List.length p0:Int)then(ck (0<=a9.2.2∧a9.2.2<(List.length p0:Int)) (if a9.1<(at' p0 a9.2.2)then(nN a9 ag8 ((at' p0 a9.2.2),a9.1))else(nN a9 ag8 (a9.1,(max a9.2.1 (at' p0 a9.2.2))))))else(rT  (a9.1,a9.2.1))
def oS (U:Nat) (p0:aL):Option eK:=
 bE (rU p0) U ((-1073741824:Int),(-1073741824:Int),(0:Int))
theorem Ox:aQ Tryz.prog 272:=Tryz.call272
theorem yJ (U:Nat) {p0:aL} (v0:Value) (r:dL) (h:oS U p0=some r):
  aS Tryz.prog 272 #[v0] [Sl bD v0 p0] (fun x:Unit=>Value.tuple #[vI (r.1),vI (r.2)]) (fun x l=>l) (fun _ l=>l):=by
 refine aS.of Tryz.func272 rfl Tryz.ntmps272 rfl fun c=>?_
 unfold oS at h
 refine sqR<|qkAsg rfl<|qkAsg rfl<|dtN<|sqR<|qkAsg rfl<|qkAsg rfl<|dtN<|aG<|midU (fun a3=>rT  a3=some r) (fun a3 b4=>[(2,vI (a3.1)),(3,vI (a3.2))]) (fun a3 b4=>[]) ?_ ?_
 ·refine sqR<|qkMove rfl<|qkLen (aC.fact 0 rfl) rfl<|qkMove rfl<|dtN<|aO<|loopL (rU p0) (fun a9 b10=>[(2,vI (a9.1)),(3,vI (a9.2.1)),(6,v0),(7,vI (List.length p0:Int)),(8,vI (a9.2.2))]) (fun a9 b10=>[]) ((-1073741824:Int),(-1073741824:Int),(0:Int)) () h SF (aV.refl _) ?_
  intro k11 a9 b10 h
  refine sqR<|qkLss rfl<|dtN<|aG ?_
  refine eF h rfl (fun h=>?_) fun h=>?_
  ·refine cJ<|aG<|midU (fun a15=>nN a9 (bE (rU p0) k11) a15=some r) (fun a15 b16=>[(2,vI (a15.1)),(3,vI (a15.2)),(6,v0),(7,vI (List.length p0:Int)),(8,vI (a9.2.2))]) (fun a15 b16=>[]) ?_ ?_
   ·refine aO<|sqR<|ckE h fun j17 h=>aB (aX rfl rfl (aC.fact 0 rfl) rfl rfl j17) rfl<|aB (bQ rfl (aC.fact 0 rfl) rfl rfl rfl cZ j17) rfl<|qkAsg rfl<|dtN<|sqR<|qkMove rfl<|qkMove rfl<|aB (rZ rfl rfl) rfl<|dtN ?_
    refine eF h rfl (fun h=>?_) fun h=>?_
    ·refine aK<|qkMove rfl<|qkMove rfl<|qkAsg rfl<|qkAsg rfl<|dK<|inT ?_
     exact fM ((at' p0 a9.2.2),a9.1) () h SF rfl
    refine aK<|qkMove rfl<|qkMove rfl<|aB (Le rfl rfl) rfl<|qkAsg rfl<|dK<|inT ?_
    exact fM (a9.1,(max a9.2.1 (at' p0 a9.2.2))) () h SF rfl
   intro a15 b16 h
   unfold nN at h
   refine aK<|qkAdd rfl<|qkMove rfl<|dtN ?_
   exact xV (a15.1,a15.2,(wI .i64 (a9.2.2+(1:Int)))) () h SF rfl
  refine eZ ?_
  exact fM (a9.1,a9.2.1) () h SF rfl
 intro a3 b4 h
 unfold rT at h
 refine sqR<|qkMove rfl<|qkMove rfl<|qkAsg rfl<|qkAsg rfl<|dtN<|aR ?_
 cases h
 exact jJ () rfl rfl (RV.tmp rfl) (RV.tmp rfl) (aV.refl _) aD.nil
end
section
def tC  (a1:Unit):Option (Int):=
 some (-1:Int)
def iJ (p0:aL) (p1:Int) (a5:Int) (ag4:(Int)->Option (Int)):Option (Int):=
 if a5<(List.length p0:Int)then(ck (0<=a5∧a5<(List.length p0:Int)) (if p1=(at' p0 a5)then(some (a5))else(ag4 (wI .i64 (a5+(1:Int))))))else(tC  (()))
def oG (U:Nat) (p0:aL) (p1:Int):Option (Int):=
 bE (iJ p0 p1) U (0:Int)
theorem VC:aQ Tryz.prog 291:=Tryz.call291
theorem HO (U:Nat) {p0:aL} {p1:Int} (v0:Value) (r:Int) (h:oG U p0 p1=some r):
  aS Tryz.prog 291 #[v0,vI (p1)] [Sl bD v0 p0] (fun x:Unit=>vI (r)) (fun x l=>l) (fun _ l=>l):=by
 refine aS.of Tryz.func291 rfl Tryz.ntmps291 rfl fun c=>?_
 unfold oG at h
 refine sqR<|qkAsg rfl<|dtN<|aG<|midU (fun a1=>tC  a1=some r) (fun a1 b2=>[]) (fun a1 b2=>[]) ?_ ?_
 ·refine sqR<|qkMove rfl<|qkLen (aC.fact 0 rfl) rfl<|qkMove rfl<|dtN<|aO<|loopL (iJ p0 p1) (fun a5 b6=>[(0,v0),(1,vI (p1)),(7,vI (List.length p0:Int)),(8,vI (a5))]) (fun a5 b6=>[]) (0:Int) () h SF (aV.refl _) ?_
  intro k7 a5 b6 h
  refine sqR<|qkLss rfl<|dtN<|aG ?_
  refine eF h rfl (fun h=>?_) fun h=>?_
  ·refine cJ<|aG<|aO<|sqR<|qkMove rfl<|qkAsg rfl<|dtN<|sqR<|qkMove rfl<|qkMove rfl<|qkMove rfl<|ckE h fun j9 h=>aB (aX rfl rfl (aC.fact 0 rfl) rfl rfl j9) rfl<|aB (bQ rfl (aC.fact 0 rfl) rfl rfl rfl cZ j9) rfl<|qkEql rfl<|dtN ?_
   refine eF h rfl (fun h=>?_) fun h=>?_
   ·refine sqR<|qkMove rfl<|qkAsg rfl<|dtN<|aR<|bL<|aI<|aI<|bL<|aI ?_
    cases h
    exact kH rfl
   refine dD<|inT<|aK<|qkAdd rfl<|qkMove rfl<|dtN ?_
   exact xV (wI .i64 (a5+(1:Int))) () h SF rfl
  refine eZ ?_
  exact fM () (()) h SF rfl
 intro a1 b2 h
 unfold tC at h
 refine sqR<|qkAsg rfl<|dtN<|aR ?_
 cases h
 exact kH rfl
end
section
def p_ (U:Nat) (p0:aL) (p1:Int):Option (Bool):=
 Option.bind (oG U p0 p1) fun r1=>(some (decide ((0:Int)<=r1)))
theorem VB:aQ Tryz.prog 287:=Tryz.call287
theorem Er (U:Nat) {p0:aL} {p1:Int} (v0:Value) (r:Bool) (h:p_ U p0 p1=some r):
  aS Tryz.prog 287 #[v0,vI (p1)] [Sl bD v0 p0] (fun x:Unit=>vB (r)) (fun x l=>l) (fun _ l=>l):=by
 refine aS.of Tryz.func287 rfl Tryz.ntmps287 rfl fun c=>?_
 refine sqR<|qkAsg rfl<|dtN<|sqR<|qkMove rfl<|qkMove rfl<|bnE h fun r1 w2 h=>aF (aJ.callQ VC (HO U v0 r1 w2) rfl (lH [0] rfl)) rfl fun x3=>aB (Bt rfl rfl) rfl<|qkAsg rfl<|dtN<|aR ?_
 cases h
 exact kH rfl
end
section
def yV  (a2:Int):Option (Int):=
 some (a2)
def wO (U:Nat) (p0:aL) (a6:Int) (ag5:(Int)->Option (Int)):Option (Int):=
 Option.bind (p_ U p0 a6) fun r9=>(if r9=true then(ag5 (wI .i64 (a6+(1:Int))))else(yV  (a6)))
def x_ (U:Nat) (p0:aL):Option (Int):=
 bE (wO U p0) U (0:Int)
theorem VA:aQ Tryz.prog 273:=Tryz.call273
theorem NR (U:Nat) {p0:aL} (v0:Value) (r:Int) (h:x_ U p0=some r):
  aS Tryz.prog 273 #[v0] [Sl bD v0 p0] (fun x:Unit=>vI (r)) (fun x l=>l) (fun _ l=>l):=by
 refine aS.of Tryz.func273 rfl Tryz.ntmps273 rfl fun c=>?_
 unfold x_ at h
 refine sqR<|qkAsg rfl<|dtN<|sqR<|qkAsg rfl<|dtN<|aG<|midU (fun a2=>yV  a2=some r) (fun a2 b3=>[(3,vI (a2))]) (fun a2 b3=>[]) ?_ ?_
 ·refine aO<|loopL (wO U p0) (fun a6 b7=>[(0,v0),(3,vI (a6))]) (fun a6 b7=>[]) (0:Int) () h SF (aV.refl _) ?_
  intro k8 a6 b7 h
  refine aG<|sqR<|qkMove rfl<|qkMove rfl<|bnE h fun r9 w10 h=>aF (aJ.callQ VB (Er U v0 r9 w10) rfl (lH [0] rfl)) rfl fun x11=>dtN ?_
  refine z_ h rfl (fun _ h=>?_) fun _ h=>?_
  ·refine cJ<|aO<|aK<|qkMove rfl<|qkAdd rfl<|qkAsg rfl<|dK<|inT ?_
   exact xV (wI .i64 (a6+(1:Int))) () h SF rfl
  refine eZ ?_
  exact fM (a6) () h SF rfl
 intro a2 b3 h
 unfold yV at h
 refine sqR<|qkMove rfl<|qkAsg rfl<|dtN<|aR ?_
 cases h
 exact kH rfl
end
section
def xO  (a25:Int):Option (Int):=
 some (a25)
def q_ (p1:aL) (a30:dL) (ag29:eK->Option (Int)):Option (Int):=
 if a30.2<(List.length p1:Int)then(ck (0<=a30.2∧a30.2<(List.length p1:Int)) (ag29 ((min a30.1 (at' p1 a30.2)),(wI .i64 (a30.2+(1:Int))))))else(xO  (a30.1))
def AE (U:Nat) (a41:Int):Option (Int):=
 Option.bind (gT U a41) fun r43=>(some (r43))
def rA (U:Nat) (p1:aL) (a49:dL) (ag48:eK->Option (Int)):Option (Int):=
 if a49.2<(List.length p1:Int)then(ck (0<=a49.2∧a49.2<(List.length p1:Int)) (ag48 ((wI .i64 (a49.1+(at' p1 a49.2))),(wI .i64 (a49.2+(1:Int))))))else(AE U (a49.1))
def yY (U:Nat) (p0:Int) (p1:aL):Option (Int):=
 if p0=(20:Int)then(Option.bind (oQ U p1) fun r2=>(Option.bind (gF U (decide (r2=(List.length p1:Int)))) fun r5=>(some (r5))))else(if p0=(21:Int)then(Option.bind (oQ U p1) fun r9=>(Option.bind (gF U (decide ((0:Int)<r9))) fun r12=>(some (r12))))else(if p0=(22:Int)then(Option.bind (oQ U p1) fun r16=>(some (r16)))else(if p0=(23:Int)then(Option.bind (lO U p1 (fun y0=>nE U y0)) fun r20=>(some (r20)))else(if p0=(24:Int)then(bE (q_ p1) U ((1073741824:Int),(0:Int)))else(if p0=(25:Int)then(Option.bind (oS U p1) fun r36=>(some (r36.1)))else(if p0=(26:Int)then(bE (rA U p1) U ((0:Int),(0:Int)))else(if p0=(27:Int)then(Option.bind (x_ U p1) fun r55=>(some (r55)))else(if p0=(28:Int)then(Option.bind (oS U p1) fun r59=>(some (r59.2)))else(if(List.length p1:Int)=(0:Int)then(some (0:Int))else(ck (0<=(0:Int)∧(0:Int)<(List.length p1:Int)) (some (at' p1 (0:Int)))))))))))))
theorem Vw:aQ Tryz.prog 257:=Tryz.call257
theorem Mi (U:Nat) {p0:Int} {p1:aL} (v0:Value) (r:Int) (h:yY U p0 p1=some r):
  aS Tryz.prog 257 #[vI (p0),v0] [Sl bD v0 p1] (fun x:Unit=>vI (r)) (fun x l=>l) (fun _ l=>l):=by
 refine aS.of Tryz.func257 rfl Tryz.ntmps257 rfl fun c=>?_
 refine sqR<|qkAsg rfl<|dtN<|aG<|sqR<|qkMove rfl<|dtN<|aO<|sqR<|qkEql rfl<|qkAsg rfl<|dtN ?_
 refine eF h rfl (fun h=>?_) fun h=>?_
 ·refine sqR<|qkMove rfl<|bnE h fun r2 w3 h=>aF (aJ.callQ JJ (AQ U v0 r2 w3) rfl (lH [0] rfl)) rfl fun x4=>qkMove rfl<|qkLen (aC.fact 0 rfl) rfl<|qkEql rfl<|bnE h fun r5 w6 h=>aF (aJ.callQ vX (jK U  r5 w6) rfl .nil) rfl fun x7=>qkAsg rfl<|dtN<|aR<|bL<|aI ?_
  cases h
  exact kH rfl
 refine sqR<|qkEql rfl<|qkAsg rfl<|dtN ?_
 refine eF h rfl (fun h=>?_) fun h=>?_
 ·refine sqR<|qkMove rfl<|bnE h fun r9 w10 h=>aF (aJ.callQ JJ (AQ U v0 r9 w10) rfl (lH [0] rfl)) rfl fun x11=>aB (rZ rfl rfl) rfl<|bnE h fun r12 w13 h=>aF (aJ.callQ vX (jK U  r12 w13) rfl .nil) rfl fun x14=>qkAsg rfl<|dtN<|aR<|bL<|aI ?_
  cases h
  exact kH rfl
 refine sqR<|qkEql rfl<|qkAsg rfl<|dtN ?_
 refine eF h rfl (fun h=>?_) fun h=>?_
 ·refine sqR<|qkMove rfl<|bnE h fun r16 w17 h=>aF (aJ.callQ JJ (AQ U v0 r16 w17) rfl (lH [0] rfl)) rfl fun x18=>qkAsg rfl<|dtN<|aR<|bL<|aI ?_
  cases h
  exact kH rfl
 refine sqR<|qkEql rfl<|qkAsg rfl<|dtN ?_
 refine eF h rfl (fun h=>?_) fun h=>?_
 ·refine sqR<|qkMove rfl<|bnE h fun r20 w21 h=>aF (aJ.callQ Vy (Dm U 271 [] [] Vz (fun y0 r h=>Il U  r h) v0 r20 w21) rfl (lH [0] rfl)) rfl fun x22=>qkAsg rfl<|dtN<|aR<|bL<|aI ?_
  cases h
  exact kH rfl
 refine sqR<|qkEql rfl<|qkAsg rfl<|dtN ?_
 refine eF h rfl (fun h=>?_) fun h=>?_
 ·refine sqR<|qkAsg rfl<|dtN<|aG<|midU (fun a25=>xO  a25=some r) (fun a25 b26=>[(5,vI (a25))]) (fun a25 b26=>[]) ?_ ?_
  ·refine sqR<|qkMove rfl<|qkLen (aC.fact 0 rfl) rfl<|qkMove rfl<|dtN<|aO<|loopL (q_ p1) (fun a30 b31=>[(5,vI (a30.1)),(40,v0),(41,vI (List.length p1:Int)),(42,vI (a30.2))]) (fun a30 b31=>[]) ((1073741824:Int),(0:Int)) () h SF (aV.refl _) ?_
   intro k32 a30 b31 h
   refine sqR<|qkLss rfl<|dtN<|aG ?_
   refine eF h rfl (fun h=>?_) fun h=>?_
   ·refine cJ<|aG<|aO<|sqR<|ckE h fun j34 h=>aB (aX rfl rfl (aC.fact 0 rfl) rfl rfl j34) rfl<|aB (bQ rfl (aC.fact 0 rfl) rfl rfl rfl cZ j34) rfl<|qkAsg rfl<|dtN<|aK<|qkMove rfl<|qkMove rfl<|aB (WO rfl rfl) rfl<|qkAsg rfl<|dK<|inT<|aK<|qkAdd rfl<|qkMove rfl<|dtN ?_
    exact xV ((min a30.1 (at' p1 a30.2)),(wI .i64 (a30.2+(1:Int)))) () h SF rfl
   refine eZ ?_
   exact fM (a30.1) () h SF rfl
  intro a25 b26 h
  unfold xO at h
  refine sqR<|qkMove rfl<|qkAsg rfl<|dtN<|aR<|bL<|aI ?_
  cases h
  exact kH rfl
 refine sqR<|qkEql rfl<|qkAsg rfl<|dtN ?_
 refine eF h rfl (fun h=>?_) fun h=>?_
 ·refine sqR<|qkMove rfl<|bnE h fun r36 w37 h=>aF (aJ.callQ Ox (yJ U v0 r36 w37) rfl (lH [0] rfl)) rfl fun x38=>qkMove rfl<|qkExt rfl<|qkExt rfl<|qkAsg rfl<|qkAsg rfl<|dtN<|sqR<|qkMove rfl<|qkAsg rfl<|dtN<|aR<|bL<|aI ?_
  cases h
  exact kH rfl
 refine sqR<|qkEql rfl<|qkAsg rfl<|dtN ?_
 refine eF h rfl (fun h=>?_) fun h=>?_
 ·refine sqR<|qkAsg rfl<|dtN<|aG<|midU (fun a41=>AE U a41=some r) (fun a41 b42=>[(10,vI (a41))]) (fun a41 b42=>[]) ?_ ?_
  ·refine sqR<|qkMove rfl<|qkLen (aC.fact 0 rfl) rfl<|qkMove rfl<|dtN<|aO<|loopL (rA U p1) (fun a49 b50=>[(10,vI (a49.1)),(61,v0),(62,vI (List.length p1:Int)),(63,vI (a49.2))]) (fun a49 b50=>[]) ((0:Int),(0:Int)) () h SF (aV.refl _) ?_
   intro k51 a49 b50 h
   refine sqR<|qkLss rfl<|dtN<|aG ?_
   refine eF h rfl (fun h=>?_) fun h=>?_
   ·refine cJ<|aG<|aO<|sqR<|ckE h fun j53 h=>aB (aX rfl rfl (aC.fact 0 rfl) rfl rfl j53) rfl<|aB (bQ rfl (aC.fact 0 rfl) rfl rfl rfl cZ j53) rfl<|qkAsg rfl<|dtN<|aK<|qkMove rfl<|qkMove rfl<|qkAdd rfl<|qkAsg rfl<|dK<|inT<|aK<|qkAdd rfl<|qkMove rfl<|dtN ?_
    exact xV ((wI .i64 (a49.1+(at' p1 a49.2))),(wI .i64 (a49.2+(1:Int)))) () h SF rfl
   refine eZ ?_
   exact fM (a49.1) () h SF rfl
  intro a41 b42 h
  refine sqR<|qkMove rfl<|bnE h fun r43 w44 h=>aF (aJ.callQ B_ (lB U  r43 w44) rfl .nil) rfl fun x45=>qkAsg rfl<|dtN<|aR<|bL<|aI ?_
  cases h
  exact kH rfl
 refine sqR<|qkEql rfl<|qkAsg rfl<|dtN ?_
 refine eF h rfl (fun h=>?_) fun h=>?_
 ·refine sqR<|qkMove rfl<|bnE h fun r55 w56 h=>aF (aJ.callQ VA (NR U v0 r55 w56) rfl (lH [0] rfl)) rfl fun x57=>qkAsg rfl<|dtN<|aR<|bL<|aI ?_
  cases h
  exact kH rfl
 refine sqR<|qkEql rfl<|qkAsg rfl<|dtN ?_
 refine eF h rfl (fun h=>?_) fun h=>?_
 ·refine sqR<|qkMove rfl<|bnE h fun r59 w60 h=>aF (aJ.callQ Ox (yJ U v0 r59 w60) rfl (lH [0] rfl)) rfl fun x61=>qkMove rfl<|qkExt rfl<|qkExt rfl<|qkAsg rfl<|qkAsg rfl<|dtN<|sqR<|qkMove rfl<|qkAsg rfl<|dtN<|aR<|bL<|aI ?_
  cases h
  exact kH rfl
 refine dD<|inT<|aG<|sqR<|qkMove rfl<|qkLen (aC.fact 0 rfl) rfl<|qkEql rfl<|dtN ?_
 refine eF h rfl (fun h=>?_) fun h=>?_
 ·refine sqR<|qkAsg rfl<|dtN<|aR<|aI ?_
  cases h
  exact kH rfl
 refine cJ<|sqR<|qkMove rfl<|ckE h fun j63 h=>aB (aX rfl rfl (aC.fact 0 rfl) rfl rfl j63) rfl<|aB (bQ rfl (aC.fact 0 rfl) rfl rfl rfl cZ j63) rfl<|qkAsg rfl<|dtN<|aR ?_
 cases h
 exact kH rfl
end
section
def lU  (a17:dL):Option eK:=
 some (a17.1,a17.2)
def iU (U:Nat) (p0:Kt) (p1:Int) (a23:oJ) (a26:Int):Option eK:=
 ck (0<=(List.length (at' p0.1.2.1.2 p0.2.2.1):Int)∧(List.length (at' p0.1.2.1.2 p0.2.2.1):Int)<=((24:Nat):Int)∧(List.length (at' p0.1.2.1.2 p0.2.2.1):Int)<=(List.length a23.2:Int)) (Option.bind (yY U ((at' p0.2.2.2 p1).1) (List.take (Int.toNat (List.length (at' p0.1.2.1.2 p0.2.2.1):Int)) a23.2)) fun r29=>(lU  (r29,a26)))
def pU (U:Nat) (p0:Kt) (p1:Int) (a23:oJ):Option eK:=
 if(List.length (at' p0.1.2.1.2 p0.2.2.1):Int)=(0:Int)then(Option.bind (AK U p0.2.2.2 p1) fun r33=>(iU U p0 p1 a23 (r33)))else(iU U p0 p1 a23 (a23.1))
def iV (U:Nat) (p0:Kt) (p1:Int) (rc:WC->Int->Int->Option eK) (a40:Int×Int×aL) (ag39:(Int×Int×aL)->Option eK):Option eK:=
 if a40.2.1<(List.length (at' p0.1.2.1.2 p0.2.2.1):Int)then(Option.bind (rc ((((((p0.1.1.1,p0.1.1.2.1,p0.1.1.2.2)),((p0.1.2.1.1,p0.1.2.1.2)),p0.1.2.2.1,p0.1.2.2.2)),p0.2.1,p0.2.2.1,p0.2.2.2)) (wI .i64 (p1+(1:Int))) a40.2.1) fun r44=>(ck ((0<=a40.2.1∧a40.2.1<((24:Nat):Int))∧List.length a40.2.2=24) (ag39 (r44.2,(wI .i64 (a40.2.1+(1:Int))),(List.set a40.2.2 (Int.toNat a40.2.1) r44.1)))))else(pU U p0 p1 (a40.1,a40.2.2))
def cI (rc:WC->Int->Int->Option eK) (U:Nat) (p0:Kt) (p1:Int) (p2:Int):Option eK:=
 ck (0<=p1∧p1<(List.length p0.2.2.2:Int)) (if((at' p0.2.2.2 p1).1)<=(17:Int)then(Option.bind (kJ U ((((((p0.1.1.1,p0.1.1.2.1,p0.1.1.2.2)),((p0.1.2.1.1,p0.1.2.1.2)),p0.1.2.2.1,p0.1.2.2.2)),p0.2.1,p0.2.2.1,p0.2.2.2)) ((((at' p0.2.2.2 p1).1),((at' p0.2.2.2 p1).2))) p2) fun r4=>(some (r4,(wI .i64 (p1+(1:Int))))))else(if((at' p0.2.2.2 p1).1)<=(19:Int)then(Option.bind (rc ((((((p0.1.1.1,p0.1.1.2.1,p0.1.1.2.2)),((p0.1.2.1.1,p0.1.2.1.2)),p0.1.2.2.1,p0.1.2.2.2)),p0.2.1,p0.2.2.1,p0.2.2.2)) (wI .i64 (p1+(1:Int))) p2) fun r8=>(Option.bind (xP U ((at' p0.2.2.2 p1).1) r8.1) fun r11=>(some (r11,r8.2))))else(if((at' p0.2.2.2 p1).1)<=(29:Int)then(ck (0<=p0.2.2.1∧p0.2.2.1<(List.length p0.1.2.1.2:Int)) (bE (iV U p0 p1 rc) U ((0:Int),(0:Int),(List.replicate 24 (0:Int)))))else(if((at' p0.2.2.2 p1).1)<=(42:Int)then(Option.bind (rc ((((((p0.1.1.1,p0.1.1.2.1,p0.1.1.2.2)),((p0.1.2.1.1,p0.1.2.1.2)),p0.1.2.2.1,p0.1.2.2.2)),p0.2.1,p0.2.2.1,p0.2.2.2)) (wI .i64 (p1+(1:Int))) p2) fun r49=>(Option.bind (rc ((((((p0.1.1.1,p0.1.1.2.1,p0.1.1.2.2)),((p0.1.2.1.1,p0.1.2.1.2)),p0.1.2.2.1,p0.1.2.2.2)),p0.2.1,p0.2.2.1,p0.2.2.2)) r49.2 p2) fun r52=>(Option.bind (v_ U ((at' p0.2.2.2 p1).1) r49.1 r52.1) fun r55=>(some (r55,r52.2)))))else(Option.bind (rc ((((((p0.1.1.1,p0.1.1.2.1,p0.1.1.2.2)),((p0.1.2.1.1,p0.1.2.1.2)),p0.1.2.2.1,p0.1.2.2.2)),p0.2.1,p0.2.2.1,p0.2.2.2)) (wI .i64 (p1+(1:Int))) p2) fun r58=>(Option.bind (rc ((((((p0.1.1.1,p0.1.1.2.1,p0.1.1.2.2)),((p0.1.2.1.1,p0.1.2.1.2)),p0.1.2.2.1,p0.1.2.2.2)),p0.2.1,p0.2.2.1,p0.2.2.2)) r58.2 p2) fun r61=>(Option.bind (rc ((((((p0.1.1.1,p0.1.1.2.1,p0.1.1.2.2)),((p0.1.2.1.1,p0.1.2.1.2)),p0.1.2.2.1,p0.1.2.2.2)),p0.2.1,p0.2.2.1,p0.2.2.2)) r61.2 p2) fun r64=>(if r58.1≠(0:Int)then(some (r61.1,r64.2))else(some (r64.1,r64.2))))))))))
def bJ:Nat->WC->Int->Int->Option eK
 |0,_,_,_=>none
 |U+1,p0,p1,p2=>cI (bJ U) U p0 p1 p2
theorem yU:aQ Tryz.prog 209:=Tryz.call209
theorem AP (rc:WC->Int->Int->Option eK) (U:Nat) (hrc:∀{p0:Kt} {p1:Int} {p2:Int} (bx0:Nat)  (bx1:Nat)  (v2:Value)  (v3:Value)  (v4:Value)  (v5:Value)  (z6:mB)  (v7:Value)  (z8:pW)  (v9:Value)  (z10:pW)  (v11:Value) (r:dL),rc p0 p1 p2=some r->aS Tryz.prog 209 #[vP bx0,vI (p1),vI (p2)] [bS bx0 [vP bx1,v9,vI (p0.2.2.1),v11] 262,bS bx1 [vS (p0.1.1.1),v2,v3,v4,v5,vI (p0.1.2.2.1),v7] 218,Sl aH v2 p0.1.1.2.1,Sl aE v3 p0.1.1.2.2,Sl bD v4 p0.1.2.1.1,S2 a_ v5 z6 p0.1.2.1.2,S2 bD v7 z8 p0.1.2.2.2,S2 bD v9 z10 p0.2.1,Sl a_ v11 p0.2.2.2] (fun x:Unit=>Value.tuple #[vI (r.1),vI (r.2)]) (fun x l=>l) (fun _ l=>l)) {p0:Kt} {p1:Int} {p2:Int} (bx0:Nat)  (bx1:Nat)  (v2:Value)  (v3:Value)  (v4:Value)  (v5:Value)  (z6:mB)  (v7:Value)  (z8:pW)  (v9:Value)  (z10:pW)  (v11:Value) (r:dL) (h:cI rc U p0 p1 p2=some r):
  aS Tryz.prog 209 #[vP bx0,vI (p1),vI (p2)] [bS bx0 [vP bx1,v9,vI (p0.2.2.1),v11] 262,bS bx1 [vS (p0.1.1.1),v2,v3,v4,v5,vI (p0.1.2.2.1),v7] 218,Sl aH v2 p0.1.1.2.1,Sl aE v3 p0.1.1.2.2,Sl bD v4 p0.1.2.1.1,S2 a_ v5 z6 p0.1.2.1.2,S2 bD v7 z8 p0.1.2.2.2,S2 bD v9 z10 p0.2.1,Sl a_ v11 p0.2.2.2] (fun x:Unit=>Value.tuple #[vI (r.1),vI (r.2)]) (fun x l=>l) (fun _ l=>l):=by
 refine aS.of Tryz.func209 rfl Tryz.ntmps209 rfl fun c=>?_
 refine sqR<|qkAsg rfl<|qkAsg rfl<|dtN<|sqR<|qkMove rfl<|aB (bP rfl) rfl<|qkFld rfl<|aB (c_ rfl (aC.fact 0 rfl) rfl rfl rfl) rfl<|qkMove rfl<|ckE h fun j1 h=>aB (aX rfl rfl (aC.fact 8 rfl) rfl rfl j1) rfl<|aB (hZ (cs:=[vI ((at' p0.2.2.2 p1).1),vI ((at' p0.2.2.2 p1).2)]) rfl (aC.fact 8 rfl) bG rfl rfl rfl rfl j1) rfl<|aF (aJ.alloc (cs:=QT) rfl rfl) rfl fun b2=>bK 0 (vs:=[vI ((at' p0.2.2.2 p1).1),vI ((at' p0.2.2.2 p1).2)]) rfl rfl rfl rfl rfl rfl<|dtN<|aG<|aO<|sqR<|qkFld rfl<|qkLd 0 rfl<|aB (zX rfl rfl) rfl<|qkAsg rfl<|dtN ?_
 refine eF h rfl (fun h=>?_) fun h=>?_
 ·refine sqR<|qkMove rfl<|qkLdA 0 rfl<|qkMove rfl<|bnE h fun r4 w5 h=>aF (aJ.callQ Vs (Cv U bx0 bx1 v2 v3 v4 v5 z6 v7 z8 v9 z10 v11 r4 w5) rfl (lH [0,1,2,3,4,5,6,7,8] rfl)) rfl fun x6=>qkMove rfl<|qkAdd rfl<|qkAsg rfl<|qkAsg rfl<|dtN<|aR<|bL<|aI ?_
  cases h
  exact jJ () rfl rfl (RV.tmp rfl) (RV.tmp rfl) .nil aD.nil
 refine sqR<|qkFld rfl<|qkLd 0 rfl<|aB (zX rfl rfl) rfl<|qkAsg rfl<|dtN ?_
 refine eF h rfl (fun h=>?_) fun h=>?_
 ·refine sqR<|qkMove rfl<|qkMove rfl<|qkAdd rfl<|qkMove rfl<|bnE h fun r8 w9 h=>aF (aJ.callQ yU (hrc bx0 bx1 v2 v3 v4 v5 z6 v7 z8 v9 z10 v11 r8 w9) rfl (lH [0,1,2,3,4,5,6,7,8] rfl)) rfl fun x10=>qkMove rfl<|qkExt rfl<|qkExt rfl<|qkAsg rfl<|qkAsg rfl<|dtN<|sqR<|qkFld rfl<|qkLd 0 rfl<|qkMove rfl<|bnE h fun r11 w12 h=>aF (aJ.callQ Vt (Km U  r11 w12) rfl .nil) rfl fun x13=>qkMove rfl<|qkAsg rfl<|qkAsg rfl<|dtN<|aR<|bL<|aI ?_
  cases h
  exact jJ () rfl rfl (RV.tmp rfl) (RV.tmp rfl) .nil aD.nil
 refine sqR<|qkFld rfl<|qkLd 0 rfl<|aB (zX rfl rfl) rfl<|qkAsg rfl<|dtN ?_
 refine eF h rfl (fun h=>?_) fun h=>?_
 ·refine sqR<|qkMove rfl<|qkFld rfl<|qkLd 0 rfl<|qkMove rfl<|CV (A:=dL) (B:=Unit) (vs:=[vP bx0,vI ((at' p0.2.2.2 p1).1),vI (p1)]) (fun a17=>lU  a17=some r) (fun a17 b18=>Value.tuple #[vI (a17.1),vI (a17.2)]) (fun a17 b18=>[]) (fun a17 b18=>[bS bx0 [vP bx1,v9,vI (p0.2.2.1),v11] 262,bS bx1 [vS (p0.1.1.1),v2,v3,v4,v5,vI (p0.1.2.2.1),v7] 218,Sl aH v2 p0.1.1.2.1,Sl aE v3 p0.1.1.2.2,Sl bD v4 p0.1.2.1.1,S2 a_ v5 z6 p0.1.2.1.2,S2 bD v7 z8 p0.1.2.2.2,S2 bD v9 z10 p0.2.1,Sl a_ v11 p0.2.2.2]) (xE.fn (show aQ Tryz.prog 235 from Tryz.call235) rfl) Tryz.func235 rfl Tryz.ntmps235 rfl rfl ?_ ?_
  ·refine sqR<|qkAsg rfl<|qkAsg rfl<|dtN<|sqR ?_
   refine aF (aJ.alloc (cs:=cellsOf bO (List.replicate 24 (0:Int))) rfl (by kernel_rfl)) rfl fun b19=>?_
   refine dtN<|aG ?_
   refine JR.start [0,1,3,7,15,31,63,127,0,256,768,1792,4095,8191,16383,32767] 12 mixedOrders (by decide +kernel) ?_
   refine JR.open (by exact rfl) ?_
   refine jkMove rfl<|jqN rfl (bP rfl)<|jkFld rfl<|bI rfl .nil (oK 0 rfl) (c_ rfl (aC.fact 0 rfl) rfl rfl rfl) aM.z<|jqN rfl (bP rfl)<|jkFld rfl<|jkFld rfl<|bI rfl .nil (oK 1 rfl) (c_ rfl (aC.fact 0 rfl) rfl rfl rfl) aM.z<|jkMove rfl<|jqN rfl (bP rfl)<|jkFld rfl<|bI rfl .nil (oK 0 rfl) (c_ rfl (aC.fact 0 rfl) rfl rfl rfl) aM.z<|bH 12 rfl rfl<|ckE h fun j20 h=>aB (cP rfl rfl (aC.fact 5 rfl) rfl rfl j20) rfl<|aB (cQ rfl (aC.fact 5 rfl) rfl rfl j20) rfl<|aB (fI rfl (aC.el (aC.fact 5 rfl) j20.1 j20.2) rfl) rfl<|qkAsg rfl<|dtN<|aG<|midU (fun a23=>pU U p0 p1 a23=some r) (fun a23 b24=>[(0,vP bx0),(1,vI ((at' p0.2.2.2 p1).1)),(2,vI (p1)),(7,vI (a23.1)),(8,vP b19),(9,vI (List.length (at' p0.1.2.1.2 p0.2.2.1):Int))]) (fun a23 b24=>[bS b19 (cellsOf bO a23.2) 144]) ?_ ?_
   ·refine sqR<|qkMove rfl<|qkMove rfl<|dtN<|aO<|loopL (iV U p0 p1 rc) (fun a40 b41=>[(0,vP bx0),(1,vI ((at' p0.2.2.2 p1).1)),(2,vI (p1)),(7,vI (a40.1)),(8,vP b19),(9,vI (List.length (at' p0.1.2.1.2 p0.2.2.1):Int)),(26,vI (List.length (at' p0.1.2.1.2 p0.2.2.1):Int)),(27,vI (a40.2.1))]) (fun a40 b41=>[bS b19 (cellsOf bO a40.2.2) 144]) ((0:Int),(0:Int),(List.replicate 24 (0:Int))) () h SF (aV.ix [0] rfl rfl) ?_
    intro k42 a40 b41 h
    refine sqR<|qkLss rfl<|dtN<|aG ?_
    refine eF h rfl (fun h=>?_) fun h=>?_
    ·refine cJ<|aG<|aO<|sqR<|qkMove rfl<|qkAsg rfl<|dtN<|aK<|qkMove rfl<|qkMove rfl<|qkMove rfl<|qkAdd rfl<|qkMove rfl<|bnE h fun r44 w45 h=>aF (aJ.callQ yU (hrc bx0 bx1 v2 v3 v4 v5 z6 v7 z8 v9 z10 v11 r44 w45) rfl (lH [0,1,2,3,4,5,6,7,8] rfl)) rfl fun x46=>qkMove rfl<|qkExt rfl<|qkExt rfl<|ckE h fun j47 h=>aB (nD rfl rfl rfl rfl rfl j47.1) rfl<|Gr 0 (e:=bO) r44.1 j47 rfl rfl rfl rfl rfl rfl rfl<|qkAsg rfl<|dK<|inT<|aK<|qkAdd rfl<|qkMove rfl<|dtN ?_
     exact xV (r44.2,(wI .i64 (a40.2.1+(1:Int))),(List.set a40.2.2 (Int.toNat a40.2.1) r44.1)) () h SF rfl
    refine eZ ?_
    exact fM (a40.1,a40.2.2) () h SF rfl
   intro a23 b24 h
   refine aG<|midU (fun a26=>iU U p0 p1 a23 a26=some r) (fun a26 b27=>[(1,vI ((at' p0.2.2.2 p1).1)),(7,vI (a26)),(8,vP b19),(9,vI (List.length (at' p0.1.2.1.2 p0.2.2.1):Int))]) (fun a26 b27=>[bS b19 (cellsOf bO a23.2) 144]) ?_ ?_
   ·refine sqR<|qkMove rfl<|qkEql rfl<|dtN ?_
    refine eF h rfl (fun h=>?_) fun h=>?_
    ·refine aK<|qkMove rfl<|aB (bP rfl) rfl<|qkFld rfl<|aB (c_ rfl (aC.fact 0 rfl) rfl rfl rfl) rfl<|qkMove rfl<|bnE h fun r33 w34 h=>aF (aJ.callQ Vq (NS U v11 r33 w34) rfl (lH [8] rfl)) rfl fun x35=>qkAsg rfl<|dtN ?_
     exact fM (r33) () h SF rfl
    refine cJ ?_
    exact fM (a23.1) () h SF rfl
   intro a26 b27 h
   refine sqR<|qkMove rfl<|qkMove rfl<|ckE h fun j28 h=>aB (Nb rfl rfl rfl rfl j28) rfl<|bnE h fun r29 w30 h=>aF (aJ.callQ Vw (Mi U (Value.slice (some ⟨b19,0,none⟩) (Int.toNat (List.length (at' p0.1.2.1.2 p0.2.2.1):Int)) 24) r29 w30) rfl (aD.cons (Rn (i:=0) rfl cE j28 (by decide)) .nil)) rfl fun x31=>?_
   refine qkMove rfl<|qkAsg rfl<|qkAsg rfl<|dtN<|aR ?_
   exact zD (r29,a26) () h (.inl rfl) (HX.r2 rfl (RV.tmp rfl) (RV.tmp rfl)) rfl .nil (aD.refl _ _)
  intro a17 b18 h
  unfold lU at h
  refine qkExt rfl<|qkExt rfl<|qkAsg rfl<|qkAsg rfl<|dtN<|aR<|bL<|aI ?_
  cases h
  exact jJ () rfl rfl (RV.tmp rfl) (RV.tmp rfl) (aV.refl _) aD.nil
 refine sqR<|qkFld rfl<|qkLd 0 rfl<|aB (zX rfl rfl) rfl<|qkAsg rfl<|dtN ?_
 refine eF h rfl (fun h=>?_) fun h=>?_
 ·refine sqR<|qkMove rfl<|qkMove rfl<|qkAdd rfl<|qkMove rfl<|bnE h fun r49 w50 h=>aF (aJ.callQ yU (hrc bx0 bx1 v2 v3 v4 v5 z6 v7 z8 v9 z10 v11 r49 w50) rfl (lH [0,1,2,3,4,5,6,7,8] rfl)) rfl fun x51=>qkMove rfl<|qkExt rfl<|qkExt rfl<|qkAsg rfl<|qkAsg rfl<|dtN<|sqR<|qkMove rfl<|qkMove rfl<|qkMove rfl<|bnE h fun r52 w53 h=>aF (aJ.callQ yU (hrc bx0 bx1 v2 v3 v4 v5 z6 v7 z8 v9 z10 v11 r52 w53) rfl (lH [0,1,2,3,4,5,6,7,8] rfl)) rfl fun x54=>qkMove rfl<|qkExt rfl<|qkExt rfl<|qkAsg rfl<|qkAsg rfl<|dtN<|sqR<|qkFld rfl<|qkLd 0 rfl<|qkMove rfl<|qkMove rfl<|bnE h fun r55 w56 h=>aF (aJ.callQ Vu (Ik U  r55 w56) rfl .nil) rfl fun x57=>qkMove rfl<|qkAsg rfl<|qkAsg rfl<|dtN<|aR<|bL<|aI ?_
  cases h
  exact jJ () rfl rfl (RV.tmp rfl) (RV.tmp rfl) .nil aD.nil
 refine dD<|inT<|sqR<|qkMove rfl<|qkMove rfl<|qkAdd rfl<|qkMove rfl<|bnE h fun r58 w59 h=>aF (aJ.callQ yU (hrc bx0 bx1 v2 v3 v4 v5 z6 v7 z8 v9 z10 v11 r58 w59) rfl (lH [0,1,2,3,4,5,6,7,8] rfl)) rfl fun x60=>qkMove rfl<|qkExt rfl<|qkExt rfl<|qkAsg rfl<|qkAsg rfl<|dtN<|sqR<|qkMove rfl<|qkMove rfl<|qkMove rfl<|bnE h fun r61 w62 h=>aF (aJ.callQ yU (hrc bx0 bx1 v2 v3 v4 v5 z6 v7 z8 v9 z10 v11 r61 w62) rfl (lH [0,1,2,3,4,5,6,7,8] rfl)) rfl fun x63=>qkMove rfl<|qkExt rfl<|qkExt rfl<|qkAsg rfl<|qkAsg rfl<|dtN<|sqR<|qkMove rfl<|qkMove rfl<|qkMove rfl<|bnE h fun r64 w65 h=>aF (aJ.callQ yU (hrc bx0 bx1 v2 v3 v4 v5 z6 v7 z8 v9 z10 v11 r64 w65) rfl (lH [0,1,2,3,4,5,6,7,8] rfl)) rfl fun x66=>qkMove rfl<|qkExt rfl<|qkExt rfl<|qkAsg rfl<|qkAsg rfl<|dtN<|aG<|sqR<|qkMove rfl<|qkNeq rfl<|dtN ?_
 refine eF h rfl (fun h=>?_) fun h=>?_
 ·refine sqR<|qkMove rfl<|qkMove rfl<|qkAsg rfl<|qkAsg rfl<|dtN<|aR<|aI ?_
  cases h
  exact jJ () rfl rfl (RV.tmp rfl) (RV.tmp rfl) .nil aD.nil
 refine cJ<|sqR<|qkMove rfl<|qkMove rfl<|qkAsg rfl<|qkAsg rfl<|dtN<|aR ?_
 cases h
 exact jJ () rfl rfl (RV.tmp rfl) (RV.tmp rfl) .nil aD.nil
theorem BJ (U:Nat):∀{p0:Kt} {p1:Int} {p2:Int} (bx0:Nat)  (bx1:Nat)  (v2:Value)  (v3:Value)  (v4:Value)  (v5:Value)  (z6:mB)  (v7:Value)  (z8:pW)  (v9:Value)  (z10:pW)  (v11:Value) (r:dL),bJ U p0 p1 p2=some r->
  aS Tryz.prog 209 #[vP bx0,vI (p1),vI (p2)] [bS bx0 [vP bx1,v9,vI (p0.2.2.1),v11] 262,bS bx1 [vS (p0.1.1.1),v2,v3,v4,v5,vI (p0.1.2.2.1),v7] 218,Sl aH v2 p0.1.1.2.1,Sl aE v3 p0.1.1.2.2,Sl bD v4 p0.1.2.1.1,S2 a_ v5 z6 p0.1.2.1.2,S2 bD v7 z8 p0.1.2.2.2,S2 bD v9 z10 p0.2.1,Sl a_ v11 p0.2.2.2] (fun x:Unit=>Value.tuple #[vI (r.1),vI (r.2)]) (fun x l=>l) (fun _ l=>l):=by
 induction U with
 |zero=>intros;rename_i h;cases h
 |succ U ih=>exact fun bx0 bx1 v2 v3 v4 v5 z6 v7 z8 v9 z10 v11 r h=>AP (bJ U) U ih bx0 bx1 v2 v3 v4 v5 z6 v7 z8 v9 z10 v11 r h
end
end Go.Proofs.YtjlbcgddhnjcjaaGreatDoor
end
