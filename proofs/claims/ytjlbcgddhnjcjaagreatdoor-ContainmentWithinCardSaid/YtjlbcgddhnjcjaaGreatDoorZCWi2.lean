/- Models and proofs. Conditions: none. -/
import Derived.Test.YtjlbcgddhnjcjaaGreatDoorZCWi1
import Derived.Maps.RangeRun
set_option linter.unusedVariables false
set_option linter.unusedSimpArgs false
set_option maxHeartbeats 4000000
set_option maxRecDepth 20000
section
namespace Go.Sx
open Go.RowKit
section
variable {P:Program} {rd:Option Nat} {c:rC} {n:Sz} {σ:Fr} {M L M' L':List aR} {Q:Exit->Act->World->Prop} {ops:Array Oper} {rest:List Oper} {K:Act->World->Prop}
variable {d:Option Tmp} {D:Nat} {ty:TypeId} {pos:String} {aft:Array Edge} {g:Option (Nat×Bool)}
variable {α β:Type} {e:dH α} {r:dJ α}
theorem aO.b {A:Nat->Bool} {Mx Lx M L:List aR} {j:Nat} {H:List (Nat×List aR×List aR)} (h:A j=true) (k:aO A Mx Lx H):aO A Mx Lx ((j,M,L)::H):=⟨.inl h,k⟩
theorem aO.h {A:Nat->Bool} {Mx Lx M L:List aR} {j:Nat} {H:List (Nat×List aR×List aR)} (h:aW M Mx) (h':uY L Lx) (k:aO A Mx Lx H):aO A Mx Lx ((j,M,L)::H):=⟨.inr ⟨h,h'⟩,k⟩
theorem aO.z {A:Nat->Bool} {Mx Lx:List aR}:aO A Mx Lx []:=trivial
theorem wH.b {A:Nat->Bool} {Mx Lx M L:List aR} {j:Nat} {H:List (Nat×List aR×List aR)} (h:A j=true) (k:wH A M L H):wH A M L ((j,Mx,Lx)::H):=⟨.inl h,k⟩
theorem wH.h {A:Nat->Bool} {Mx Lx M L:List aR} {j:Nat} {H:List (Nat×List aR×List aR)} (h:aW M Mx) (h':uY L Lx) (k:wH A M L H):wH A M L ((j,Mx,Lx)::H):=⟨.inr ⟨h,h'⟩,k⟩
theorem wH.z {A:Nat->Bool} {M L:List aR}:wH A M L []:=trivial
theorem dU {v:Value} {vs:List Value} (h:one v=true) (k:vs.all one=true):(v::vs).all one=true:=by simp[h,k]
theorem dB (k:IntKind) (x:Int):(Value.int k x).cells = #[.int k x]:=rfl
theorem cO (b:Bool):(Value.bool b).cells = #[.bool b]:=rfl
theorem cD (a:Option Addr) (l k:Nat):(Value.slice a l k).cells = #[.slice a l k]:=rfl
theorem dC (a:Option Addr):(Value.pointer a).cells = #[.pointer a]:=rfl
theorem dD (a:ByteArray):(Value.string a).cells = #[.string a]:=rfl
theorem cP (f:Fn) (a b:Array Value):(Value.func f a b).cells = #[.func f a b]:=rfl
theorem wM (q:Nat) {vs:List Value} {xss:List (List α)} {k:Int} {u:Value} (hr:M[q]? = some (jW e (vs.set k.toNat u) xss)) (h:0<=k∧k<xss.length):∀c w,St c M L w->Go.Sx.one u=true:=fun c w t=>by
 obtain⟨S,hl,G',g1,_⟩:=t.res hr
 have hlt:k.toNat<vs.length:=by simp at hl;omega
 obtain⟨_,_,hh⟩:=g1 k.toNat u _ (by rw[List.getElem?_set_self hlt]) (List.getElem?_eq_getElem (by omega))
 rcases hh with⟨hu,_⟩|⟨b,off,cap,T,cur,hu,_⟩<;>(rw[hu];rfl)
theorem Da [bW P] [Inhabited α] {T T':TypeId} {s2:Nat} {z:Value} {dT:TypeDesc} {x:Operand} {b k:Nat} {i:Int} {xs:List α} {u:Value} (hx:ev σ x=some (.pointer (some ⟨b,i.toNat*1,none⟩)))
  (hM:aC M L (bT b (cellsOf e xs) T')) (hT:bW.tab P T=some ⟨dT,1,s2,z⟩) (hd:s_ dT=false) (hq:e.sz=1) (hu:(e.enc (at' xs i))=[u]) (h:(0<=i∧i<(k:Int))∧xs.length=k):
  Y P c n σ M L ⟨d,.load T x,ty,pos,aft,g⟩ u:=fun a w s t=>by
 obtain⟨F,hF⟩:=hM.st t
 have hg:=rJ e xs i.toNat (at' xs i) (iW h.1.1 (by omega)) 0 u (by rw[hu];rfl)
 rw[hq,Nat.add_zero]at hg
 rw[Nat.mul_one]at hx hg
 simp[execOp,s.eval hx,tG (bW.ok hT) hd (bT.cell hF hg)]
theorem BA [bW P] (q:Nat) {T T':TypeId} {s2:Nat} {z:Value} {dT:TypeDesc} {x y:Operand} {b k:Nat} {i:Int} {xs:List α} {u:Value} (yv:α) (h:(0<=i∧i<(k:Int))∧xs.length=k) (hx:ev σ x=some (.pointer (some ⟨b,i.toNat*1,none⟩))) (hy:ev σ y=some u)
  (hM:M[q]? = some (bT b (cellsOf e xs) T')) (hu:e.enc yv=[u]) (h1u:one u=true) (hT:bW.tab P T=some ⟨dT,1,s2,z⟩) (hq:e.sz=1)
  (hh:J c n σ (M.set q (bT b (cellsOf e (xs.set i.toNat yv)) T')) L (wpList P ops Q rest)):
  J c n σ M L (wpList P ops Q (⟨none,.store T x y,ty,pos,aft,none⟩::rest)):=by
 rw[Nat.mul_one]at hx
 refine gY q hx hy h1u hM hT ?_ ?_
 ·have:=cR e xs;rw[hq]at this;rw[Nat.blt_eq];omega
 ·rw[<-rZ hq hu];exact hh
end
end Go.Sx
end
section
namespace Go.Sx
section
abbrev vI (x:Int):Value:= .int .i64 x
abbrev vU (x:Int):Value:= .int .u32 x
abbrev vP (b:Nat):Value:= .pointer (some ⟨b,0,none⟩)
open Go.RowKit
variable {P:Program} {rd:Option Nat} {c:rC} {n:Sz} {σ:Fr} {M L:List aR} {Q:Exit->Act->World->Prop} {ops:Array Oper} {rest:List Oper} {d:Nat} {ty:TypeId} {pos:String} {aft:Array Edge} {x y:Operand} {v:Value} {K:Act->World->Prop}
theorem qkMove (h:(ev σ x,Nat.blt d n.sz)=(some v,true)) (k:J c n ((d,v)::σ) M L (wpList P ops Q rest)):J c n σ M L (wpList P ops Q (⟨some d,.move x,ty,pos,aft,none⟩::rest)):=aB (lO (Prod.mk.inj h).1) (Prod.mk.inj h).2 k
theorem qkAsg (h:(ev σ x,Nat.blt d n.sz)=(some v,true)) (k:J c n ((d,v)::σ) M L (wpList P ops Q rest)):J c n σ M L (wpList P ops Q (⟨some d,.assign x,ty,pos,aft,none⟩::rest)):=aB (vL (Prod.mk.inj h).1) (Prod.mk.inj h).2 k
theorem qkFld [bW P] {T:TypeId} {s1 s2 s3 s4:Nat} {z z':Value} {fs:Array Field} {nm tg pk:String} {em:Bool} {ft off bo:Nat} {dF:TypeDesc} {b o f:Nat} (h:(ev σ x,bW.tab P T,fs[f]?,bW.tab P ft,s3==0,Nat.blt d n.sz)=(some (.pointer (some ⟨b,o,none⟩)),some ⟨.struct fs,s1,s2,z⟩,some ⟨nm,ft,off,em,tg,pk,bo⟩,some ⟨dF,s3,s4,z'⟩,false,true)) (k:J c n ((d,.pointer (some ⟨b,o+off,none⟩))::σ) M L (wpList P ops Q rest)):J c n σ M L (wpList P ops Q (⟨some d,.fieldAddr T x f,ty,pos,aft,none⟩::rest)):=by
  simp only[Prod.mk.injEq]at h
  exact aB (dZ h.1 h.2.1 h.2.2.1 h.2.2.2.1 h.2.2.2.2.1) h.2.2.2.2.2 k
theorem qkLd [bW P] (i:Nat) {T T':TypeId} {s1 s2:Nat} {z:Value} {dT:TypeDesc} {b o:Nat} {cs:List Value} (h:(ev σ x,M[i]?,bW.tab P T,s_ dT,cs[o]?,Nat.blt d n.sz)=(some (.pointer (some ⟨b,o,none⟩)),some (bT b cs T'),some ⟨dT,s1,s2,z⟩,false,some v,true)) (k:J c n ((d,v)::σ) M L (wpList P ops Q rest)):J c n σ M L (wpList P ops Q (⟨some d,.load T x,ty,pos,aft,none⟩::rest)):=by
  simp only[Prod.mk.injEq]at h
  exact aB (fK i h.1 h.2.1 h.2.2.1 h.2.2.2.1 h.2.2.2.2.1) h.2.2.2.2.2 k
theorem qkLdA [bW P] (i:Nat) {T T':TypeId} {s2:Nat} {z:Value} {dT:TypeDesc} {b:Nat} {cs:List Value} (h:(ev σ x,M[i]?,bW.tab P T,s_ dT,Nat.blt d n.sz)=(some (.pointer (some ⟨b,0,none⟩)),some (bT b cs T'),some ⟨dT,cs.length,s2,z⟩,true,true)) (k:J c n ((d,.agg cs.toArray)::σ) M L (wpList P ops Q rest)):J c n σ M L (wpList P ops Q (⟨some d,.load T x,ty,pos,aft,none⟩::rest)):=by
  simp only[Prod.mk.injEq]at h
  exact aB (oJ i h.1 h.2.1 h.2.2.1 h.2.2.2.1) h.2.2.2.2 k
theorem gdSkip {op:Op} {j:Nat} {b b':Bool} (h:(gv ops σ j,b'==b,Nat.blt d n.sz)=(some b',false,true)) (k:J c n ((d,undef)::σ) M L (wpList P ops Q rest)):J c n σ M L (wpList P ops Q (⟨some d,op,ty,pos,aft,some (j,b)⟩::rest)):=by
  simp only[Prod.mk.injEq]at h
  exact Pm h.1 h.2.1 h.2.2 k
theorem gyMove {j:Nat} {b:Bool} (h:(gv ops σ j,ev σ x,Nat.blt d n.sz)=(some b,some v,true)) (k:J c n ((d,v)::σ) M L (wpList P ops Q rest)):J c n σ M L (wpList P ops Q (⟨some d,.move x,ty,pos,aft,some (j,b)⟩::rest)):=by
  simp only[Prod.mk.injEq]at h
  exact aS h.1 (lO h.2.1) h.2.2 k
theorem qkLss {t t':TypeId} {i:IntKind} {p q:Int} (h:(ev σ x,ev σ y,Nat.blt d n.sz)=(some (.int i p),some (.int i q),true)) (k:J c n ((d,.bool (decide (p<q)))::σ) M L (wpList P ops Q rest)):J c n σ M L (wpList P ops Q (⟨some d,.binOp .lss t x y t',ty,pos,aft,none⟩::rest)):=by
  simp only[Prod.mk.injEq]at h
  exact aB (Bg h.1 h.2.1) h.2.2 k
theorem qkEql {t t':TypeId} {i:IntKind} {p q:Int} (h:(ev σ x,ev σ y,Nat.blt d n.sz)=(some (.int i p),some (.int i q),true)) (k:J c n ((d,.bool (decide (p=q)))::σ) M L (wpList P ops Q rest)):J c n σ M L (wpList P ops Q (⟨some d,.binOp .eql t x y t',ty,pos,aft,none⟩::rest)):=by
  simp only[Prod.mk.injEq]at h
  exact aB (Jj h.1 h.2.1) h.2.2 k
theorem qkAdd {t t':TypeId} {i:IntKind} {p q:Int} (h:(ev σ x,ev σ y,Nat.blt d n.sz)=(some (.int i p),some (.int i q),true)) (k:J c n ((d,.int i (wI i (p+q)))::σ) M L (wpList P ops Q rest)):J c n σ M L (wpList P ops Q (⟨some d,.binOp .add t x y t',ty,pos,aft,none⟩::rest)):=by
  simp only[Prod.mk.injEq]at h
  exact aB (uI h.1 h.2.1) h.2.2 k
theorem cdI {th el:Code} {p:Prop} {_:Decidable p} {β:Type} {u w:Option β} {r:β} (h:(if p then u else w)=some r) (hx:ev σ x=some (.bool (decide p))) (ht:p->u=some r->J c n σ M L (th.wpr rd P Q)) (hf:¬p->w=some r->J c n σ M L (el.wpr rd P Q)):J c n σ M L ((Code.cond x th el).wpr rd P Q):=SP hx (fun hp=>ht hp (SE hp h)) (fun hp=>hf hp (YI hp h))
theorem eN {th el:Code} {p:Prop} {_:Decidable p} {β:Type} {u w:Option β} {r:β} (h:(if p then u else w)=some r) (hx:ev σ x=some (.bool (decide p))) (ht:u=some r->J c n σ M L (th.wpr rd P Q)) (hf:w=some r->J c n σ M L (el.wpr rd P Q)):J c n σ M L ((Code.cond x th el).wpr rd P Q):=cdI h hx (fun _=>ht) (fun _=>hf)
theorem Ab {th el:Code} {b:Bool} {β:Type} {u w:Option β} {r:β} (h:(if b=true then u else w)=some r) (hx:ev σ x=some (.bool b)) (ht:b=true->u=some r->J c n σ M L (th.wpr rd P Q)) (hf:b=false->w=some r->J c n σ M L (el.wpr rd P Q)):J c n σ M L ((Code.cond x th el).wpr rd P Q):=Hz hx (fun hp=>ht hp (SE hp h)) (fun hp=>hf hp (Ov hp h))
theorem Bi {d:Option Tmp} {op:Op} {j dj:Nat} {p:Prop} {_:Decidable p} {b:Bool} {β:Type} {u w:Option β} {r:β} (h:(if p then u else w)=some r) (hd:((ops[j]?).bind (·.dst),lk σ dj)=(some dj,some (.bool (decide p)))) (ht:p->u=some r->J c n ((dj,.bool true)::σ) M L (wpList P ops Q (⟨d,op,ty,pos,aft,some (j,b)⟩::rest))) (hf:¬p->w=some r->J c n ((dj,.bool false)::σ) M L (wpList P ops Q (⟨d,op,ty,pos,aft,some (j,b)⟩::rest))):J c n σ M L (wpList P ops Q (⟨d,op,ty,pos,aft,some (j,b)⟩::rest)):=Pk (Prod.mk.inj hd).1 (Prod.mk.inj hd).2 (fun hp=>ht hp (SE hp h)) (fun hp=>hf hp (YI hp h))
theorem dtN {ops:Array Oper} (h:J c n σ M L K):J c n σ M L (wpList P ops (Exit.then K Q) []):=h
theorem sqR {id:Nat} {l:List Oper} {z:Code} (h:J c n σ M L (wpList P l.toArray (Exit.then (z.wpr rd P Q) Q) l)) (hd:l.all gK=true:=by rfl):J c n σ M L ((Code.seq (Code.region id l.toArray false) z).wpr rd P Q):=aH (aK h hd)
variable {A B:Type} {ret:Unit->Value} {MO LO:Unit->List aR->List aR} {fn:Func} {C:A->Prop} {σI:A->B->Fr} {MI LI:A->B->List aR}
theorem kW {t:Tmp} (h:(ret (),fn.results,lk σ t,MO () [],LO () [],n.ds)=(v,#[.tmp t],some v,M,[],[])):J c n σ M L (fG P fn (IV c ret MO LO) .ret):=by
  simp only[Prod.mk.injEq]at h
  exact gV () h.1 h.2.1 (RV.tmp h.2.2.1) (h.2.2.2.1▸aW.refl _) (by rw[h.2.2.2.2.1];exact aD.nil) h.2.2.2.2.2
theorem wG {t:Tmp} (h:(ret (),fn.results,lk σ t,MO () [],LO () [],n.ds)=(v,#[.tmp t],some v,[],[],[])):J c n σ M L (fG P fn (IV c ret MO LO) .ret):=by
  simp only[Prod.mk.injEq]at h
  exact gV () h.1 h.2.1 (RV.tmp h.2.2.1) (by rw[h.2.2.2.1];exact aW.nil) (by rw[h.2.2.2.2.1];exact aD.nil) h.2.2.2.2.2
theorem midL {x:Code} (C:A->Prop) (σI:A->B->Fr) (MI:A->B->List aR) (h1:J c n σ M L (x.wpr rd P (Exit.then (Py c n C σI MI (fun _ _=>L)) Q))) (h2:∀a b,C a->J c n (σI a b) (MI a b) L K):J c n σ M L (x.wpr rd P (Exit.then K Q)):=wW C σI MI (fun _ _=>L) h1 h2
theorem loopL {R:Type} {body:Code} (step:A->(A->Option R)->Option R) {r:R} {U:Nat} (σI:A->B->Fr) (MI:A->B->List aR) (a0:A) (b0:B) (h:bD step U a0=some r) (hs:uA σ (σI a0 b0)) (hM:aW M (MI a0 b0)) (round:∀k a b,step a (bD step k)=some r->J c n (σI a b) (MI a b) L (body.wpr rd P (Exit.then (SO c n step r σI MI (fun _ _=>L) k) Q))):J c n σ M L ((Code.loop body).wpr rd P Q):=Em step σI MI (fun _ _=>L) a0 b0 h hs hM (aD.refl _ _) round
theorem midU {x:Code} (C:A->Prop) (σI:A->Unit->Fr) (MI:A->Unit->List aR) (h1:J c n σ M L (x.wpr rd P (Exit.then (Py c n C σI MI (fun _ _=>L)) Q))) (h2:∀a b,C a->J c n (σI a b) (MI a b) L K):J c n σ M L (x.wpr rd P (Exit.then K Q)):=midL C σI MI h1 h2
theorem cF (h:J c n σ M L K):J c n σ M L (Code.skip.wpr rd P (Exit.then K Q)):=dO h
theorem inT {id:Nat} (h:J c n σ M L K):J c n σ M L (Exit.inBlock id (Exit.then K Q) .normal):=h
theorem fL {id:Nat} {K1 K2:Act->World->Prop} (h:J c n σ M L K):J c n σ M L ((Code.exit id).wpr rd P (Exit.then K1 (Exit.then K2 (Exit.inBlock id (Exit.then K Q))))):=rE (eS (eS (vJ (uU h))))
theorem iG (x:A) (y:B) (hC:C x) (hs:uA σ (σI x y)) (h:(MI x y,LI x y)=(M,L)):J c n σ M L (Py c n C σI MI LI):=cG x y hC hs ((Prod.mk.inj h).1▸aW.refl _) ((Prod.mk.inj h).2▸aD.refl _ _)
theorem xO {R:Type} {step:A->(A->Option R)->Option R} {r:R} {k:Nat} (x:A) (y:B) (h:bD step k x=some r) (hs:uA σ (σI x y)) (e:(MI x y,LI x y)=(M,L)):J c n σ M L (SO c n step r σI MI LI k):=mA x y h hs ((Prod.mk.inj e).1▸aW.refl _) ((Prod.mk.inj e).2▸aD.refl _ _)
theorem aJ.callQ {A:Type} {ret:A->Value} {MO:A->List aR->List aR} {f:FuncId} {xs:List Operand} {vs:List Value} {ats:Array TypeId} {L0:List aR} {d:Option Tmp} {g:Option (Nat×Bool)} (hb:aN P f) (hs:aT P f vs.toArray L0 ret MO (fun _ l=>l)) (hx:xs.map (ev σ)=vs.map some) (hL:aD M L L0) (hMO:∀x l,MO x l=MO x []++l:=by exact fun _ _=>rfl):aJ P c n σ M L ⟨d,.call ⟨.value (.func f),xs.toArray,ats⟩,ty,pos,aft,g⟩ ret (fun x=>MO x M) (fun _=>L):=KU hb hs hx hL hMO
variable {l:List Oper} {m:List Nat} {k0:Nat} {Bs:List (Nat×List aR×List aR)} {rs:List Nat} {i:Nat}
theorem jkMove (h:(l[i]?,ev σ x,Nat.blt i k0,Nat.blt d n.sz)=(some ⟨some d,.move x,ty,pos,aft,none⟩,some v,true,true)) (k:JR c n ((d,v)::σ) M L [] ((i,[],[])::Bs) (RW P l.toArray Q (before m) (cB l) k0 rs)):JR c n σ M L [] Bs (RW P l.toArray Q (before m) (cB l) k0 (i::rs)):=by
  simp only[Prod.mk.injEq]at h
  exact bH h.1 aW.nil uY.nil (lO h.2.1) aO.z k h.2.2.1 rfl h.2.2.2
theorem jkFld [bW P] {T:TypeId} {s1 s2 s3 s4:Nat} {z z':Value} {fs:Array Field} {nm tg pk:String} {em:Bool} {ft off bo:Nat} {dF:TypeDesc} {b o f:Nat} (h:(l[i]?,ev σ x,bW.tab P T,fs[f]?,bW.tab P ft,s3==0,Nat.blt i k0,Nat.blt d n.sz)=(some ⟨some d,.fieldAddr T x f,ty,pos,aft,none⟩,some (.pointer (some ⟨b,o,none⟩)),some ⟨.struct fs,s1,s2,z⟩,some ⟨nm,ft,off,em,tg,pk,bo⟩,some ⟨dF,s3,s4,z'⟩,false,true,true)) (k:JR c n ((d,.pointer (some ⟨b,o+off,none⟩))::σ) M L [] ((i,[],[])::Bs) (RW P l.toArray Q (before m) (cB l) k0 rs)):JR c n σ M L [] Bs (RW P l.toArray Q (before m) (cB l) k0 (i::rs)):=by
  simp only[Prod.mk.injEq]at h
  exact bH h.1 aW.nil uY.nil (dZ h.2.1 h.2.2.1 h.2.2.2.1 h.2.2.2.2.1 h.2.2.2.2.2.1) aO.z k h.2.2.2.2.2.2.1 rfl h.2.2.2.2.2.2.2
theorem jkLd [bW P] (p:Nat) {T T':TypeId} {s1 s2:Nat} {z:Value} {dT:TypeDesc} {b o:Nat} {cs:List Value} (h:(l[i]?,ev σ x,M[p]?,bW.tab P T,s_ dT,cs[o]?,Nat.blt i k0,Nat.blt d n.sz)=(some ⟨some d,.load T x,ty,pos,aft,none⟩,some (.pointer (some ⟨b,o,none⟩)),some (bT b cs T'),some ⟨dT,s1,s2,z⟩,false,some v,true,true)) (k:JR c n ((d,v)::σ) M L [] ((i,[bT b cs T'],[])::Bs) (RW P l.toArray Q (before m) (cB l) k0 rs)):JR c n σ M L [] Bs (RW P l.toArray Q (before m) (cB l) k0 (i::rs)):=by
  simp only[Prod.mk.injEq]at h
  exact bH h.1 (aW.cons p h.2.2.1 aW.nil) uY.nil (fK 0 h.2.1 rfl h.2.2.2.1 h.2.2.2.2.1 h.2.2.2.2.2.1) aO.z k h.2.2.2.2.2.2.1 rfl h.2.2.2.2.2.2.2
theorem jkLdA [bW P] (p:Nat) {T T':TypeId} {s2:Nat} {z:Value} {dT:TypeDesc} {b:Nat} {cs:List Value} (h:(l[i]?,ev σ x,M[p]?,bW.tab P T,s_ dT,Nat.blt i k0,Nat.blt d n.sz)=(some ⟨some d,.load T x,ty,pos,aft,none⟩,some (.pointer (some ⟨b,0,none⟩)),some (bT b cs T'),some ⟨dT,cs.length,s2,z⟩,true,true,true)) (k:JR c n ((d,.agg cs.toArray)::σ) M L [] ((i,[bT b cs T'],[])::Bs) (RW P l.toArray Q (before m) (cB l) k0 rs)):JR c n σ M L [] Bs (RW P l.toArray Q (before m) (cB l) k0 (i::rs)):=by
  simp only[Prod.mk.injEq]at h
  exact bH h.1 (aW.cons p h.2.2.1 aW.nil) uY.nil (oJ 0 h.2.1 rfl h.2.2.2.1 h.2.2.2.2.1) aO.z k h.2.2.2.2.2.1 rfl h.2.2.2.2.2.2
end
section
theorem Cq {X R:Type} {step:X->(X->Option R)->Option R} {r:R} (I:X->Prop) (μ:X->Nat)
  (h:∀x ag,I x->(∀x',I x'->μ x'<μ x->ag x'=some r)->step x ag=some r):∀(fuel:Nat) (x:X),I x->μ x<fuel->bD step fuel x=some r:=by
 intro fuel
 induction fuel with
 |zero=>intro x _ hx;omega
 |succ k ih=>
  intro x hI hx
  exact h x _ hI fun x' hI' hlt=>ih x' hI' (by omega)
def OK {R:Type} (Q:R->Prop) (o:Option R):Prop:=∃r,o=some r∧Q r
theorem u_ {X R:Type} {step:X->(X->Option R)->Option R} {Q:R->Prop} (I:X->Prop) (μ:X->Nat)
  (h:∀x ag,I x->(∀x',I x'->μ x'<μ x->OK Q (ag x'))->OK Q (step x ag)):∀(fuel:Nat) (x:X),I x->μ x<fuel->OK Q (bD step fuel x):=by
 intro fuel
 induction fuel with
 |zero=>intro x _ hx;omega
 |succ k ih=>
  intro x hI hx
  exact h x _ hI fun x' hI' hlt=>ih x' hI' (by omega)
theorem cN {β:Type} {p:Prop} [Decidable p] (hp:p) (x:Option β):ck p x=x:=if_pos hp
theorem wr {x:Int} (h1 : -9223372036854775808<=x) (h2:x<=9223372036854775807):wI .i64 x=x:=if_pos ⟨h1,h2⟩
theorem bA {β γ:Type} {x:Option β} {y:β} {f:β->Option γ} (h:x=some y):x.bind f=f y:=by rw[h];rfl
theorem abt {α:Type} (l r:List α) (x y:α) (i:Nat) (h:l.length=i):(l++x::r).set i y=l++y::r:=by
 rw[List.set_append_right _ _ (by omega)];simp[<-h]
theorem NW {α:Type} [Inhabited α] (l r:List α) (x:α) (i:Nat) (h:l.length=i):at' (l++x::r) (i:Int)=x:=by
 rw[iR,List.getD_eq_getElem?_getD,List.getElem?_append_right (by omega)];simp[<-h]
end
section
theorem dV {X R:Type} {step:X->(X->Option R)->Option R} {K:Option R} (N:Nat) (F:Nat->X) (hstep:∀(k:Nat) ag,k<N->step (F k) ag=ag (F (k+1))) (hend:∀ag,step (F N) ag=K):∀fuel,N<fuel->bD step fuel (F 0)=K:=by
 have key:∀(d a fuel:Nat),a+d=N->d<fuel->bD step fuel (F a)=K:=by
  intro d
  induction d with
  |zero=>
   intro a fuel ha hf
   obtain rfl:a=N:=by omega
   obtain⟨f,rfl⟩:∃f,fuel=f+1:=⟨fuel - 1,by omega⟩
   exact hend _
  |succ d ih=>
   intro a fuel ha hf
   obtain⟨f,rfl⟩:∃f,fuel=f+1:=⟨fuel - 1,by omega⟩
   show step (F a) (bD step f)=K
   rw[hstep a _ (by omega)]
   exact ih (a+1) f (by omega) (by omega)
 exact fun fuel hf=>key N 0 fuel (by omega) hf
theorem pX {X R:Type} {step:X->(X->Option R)->Option R} {K:X->Option R} (N:Nat) (I:Nat->X->Prop) (hstep:∀(k:Nat) x ag,k<N->I k x->∃x',I (k+1) x'∧step x ag=ag x') (hend:∀x ag,I N x->step x ag=K x):∀fuel x,I 0 x->N<fuel->∃x',I N x'∧bD step fuel x=K x':=by
 have key:∀(d a fuel:Nat) (x:X),a+d=N->d<fuel->I a x->∃x',I N x'∧bD step fuel x=K x':=by
  intro d
  induction d with
  |zero=>
   intro a fuel x ha hf hI
   obtain rfl:a=N:=by omega
   obtain⟨f,rfl⟩:∃f,fuel=f+1:=⟨fuel - 1,by omega⟩
   exact⟨x,hI,hend _ _ hI⟩
  |succ d ih=>
   intro a fuel x ha hf hI
   obtain⟨f,rfl⟩:∃f,fuel=f+1:=⟨fuel - 1,by omega⟩
   obtain⟨x',hI',hs⟩:=hstep a x (bD step f) (by omega) hI
   obtain⟨x2,h1,h2⟩:=ih (a+1) f x' (by omega) (by omega) hI'
   exact⟨x2,h1,by rw[<-h2];exact hs⟩
 exact fun fuel x hI hf=>key N 0 fuel x (by omega) hf hI
def Te (q:Nat->Bool):Nat->Bool
 |0=>false
 |k+1=>Te q k||q k
theorem PS {q:Nat->Bool}:∀{k:Nat},Te q k=true↔∃i,i<k∧q i=true
 |0=>by simp[Te]
 | k + 1 => by
  simp only[Te,Bool.or_eq_true,PS (k:=k)]
  constructor
  ·rintro(⟨i,h1,h2⟩|h)
   ·exact⟨i,by omega,h2⟩
   ·exact⟨k,by omega,h⟩
  ·rintro⟨i,h1,h2⟩
   by_cases e:i=k
   ·subst e;exact .inr h2
   ·exact .inl ⟨i,by omega,h2⟩
def qA (p:Nat->Bool):Nat->Nat
 |0=>0
 |k+1=>if p k then qA p k ||| 2^k else qA p k
theorem JE (p:Nat->Bool):∀k,qA p k<2^k
 |0=>by simp[qA]
 |k+1=>by
  have h:=JE p k
  simp only[qA]
  split
  ·exact Nat.or_lt_two_pow (by omega) (Nat.pow_lt_pow_right (by omega) (by omega))
  ·omega
theorem AP (p:Nat->Bool) (j:Nat):∀k,(qA p k).testBit j=(decide (j<k)&&p j)
 |0=>by simp[qA]
 | k + 1 => by
  have h:=AP p j k
  simp only[qA]
  by_cases e:j=k
  ·subst e
   cases hp:p j<;>simp[h,hp]
  ·have e2:decide (j<k+1)=decide (j<k):=decide_eq_decide.2 (by omega)
   have e3:¬k=j:=fun h=>e h.symm
   split
   ·rw[Nat.testBit_or,h,Nat.testBit_two_pow,e2];simp[e3]
   ·rw[h,e2]
end
end Go.Sx
end
section
set_option linter.unusedSectionVars false
namespace Go.Sx
open Go.RowKit
section defs
variable {κ ν:Type} [DecidableEq κ]
def Al (ek:κ->Value) (ev:ν->Value):Nat->List (κ×ν)->List MapEntry
 |_,[]=>[]
 |i,x::xs=>⟨ek x.1,ev x.2,i⟩::Al ek ev (i+1) xs
def jU (k:κ):List (κ×ν)->Option ν
 | []=>none
 |x::xs=>if k=x.1 then some x.2 else jU k xs
def yV (k:κ) (v:ν):List (κ×ν)->List (κ×ν)
 | []=>[(k,v)]
 |x::xs=>if k=x.1 then(k,v)::xs else x::yV k v xs
def Om (ev:ν->Value) (k:κ):Nat->List (κ×ν)->Option (Nat×Value)
 |_,[]=>none
 |i,x::xs=>if k=x.1 then some (i,ev x.2)else Om ev k (i+1) xs
theorem HW (ev:ν->Value) (k:κ):∀(i:Nat) (l:List (κ×ν)),(Om ev k i l).map (·.2)=(jU k l).map ev
 |_,[]=>rfl
 |i,x::xs=>by
  simp only[Om,jU]
  split
  ·rfl
  ·exact HW ev k (i+1) xs
theorem FI (ek:κ->Value) (ev:ν->Value):∀(i:Nat) (l:List (κ×ν)) (x:κ×ν),Al ek ev i (l++[x])=Al ek ev i l++[⟨ek x.1,ev x.2,i+l.length⟩]
 |i,[],x=>rfl
 |i,y::ys,x=>by
  simp only[List.cons_append,Al,FI ek ev (i+1) ys x,List.length_cons]
  rw[show i+1+ys.length=i+(ys.length+1) by omega]
theorem Do (k:κ) (v:ν):∀l:List (κ×ν),jU k l=none->yV k v l=l++[(k,v)]
 | [],_=>rfl
 | x :: xs, h => by
  simp only[jU]at h
  split at h
  ·cases h
  ·rename_i hne
   simp only[yV,if_neg hne,Do k v xs h,List.cons_append]
theorem MP (ek:κ->Value) (ev:ν->Value) (k:κ) (v:ν):∀(i0 i:Nat) (l:List (κ×ν)) (j:Nat) (u:Value),Om ev k i l=some (j,u)->
  i<=j∧((Al ek ev i l)[j - i]?).map (·.key)=some (ek k)∧Al ek ev i (yV k v l)=(Al ek ev i l).modify (j - i) (fun e=>{e with key:=ek k,val:=ev v})∧(yV k v l).length=l.length
 |_,i,[],j,u,h=>by simp[Om]at h
 | i0, i, x :: xs, j, u, h => by
  simp only[Om]at h
  split at h
  ·rename_i he
   simp only[Option.some.injEq,Prod.mk.injEq]at h
   obtain⟨rfl,_⟩:=h
   simp[Al,yV,he]
  ·rename_i hne
   obtain⟨h1,h2,h3,h4⟩:=MP ek ev k v i0 (i+1) xs j u h
   have hj:j - i=(j - (i+1))+1:=by omega
   refine⟨by omega,?_,?_,?_⟩
   ·rw[hj];simpa [Al]using h2
   ·simp only[yV,if_neg hne,Al]
    rw[hj,List.modify_succ_cons,h3]
   ·simp[yV,hne,h4]
end defs
structure EN (P:Program) (kt:TypeId) {κ:Type} [DecidableEq κ] (ek:κ->Value):Prop where
 chk:∀b k w,(Instr.checkKey b 10000 kt (ek k)).run P w = .ok () w
 find:∀{ν:Type} (ev:ν->Value) (k:κ) (l:List (κ×ν)) w,(Instr.findKey kt (ek k) (Al ek ev 0 l)).run P w = .ok (Om ev k 0 l) w
 same:∀k,Instr.sameBits 10000 (ek k) (ek k)=true
def Mp {κ ν:Type} (ek:κ->Value) (ev:ν->Value) (r:Nat) (l:List (κ×ν)):aR where
 p w F:=F r∧w.heap[r]? = some (.map (Al ek ev 0 l).toArray l.length)
 mono:=fun⟨h1,h2⟩ h=>by
  obtain⟨h3,h4⟩:=h r h1 (Array.getElem?_eq_some_iff.1 h2).1
  exact⟨h3,by rw[h4];exact h2⟩
section
variable {P:Program} {rd:Option Nat} {c:rC} {n:Sz} {σ:Fr} {M L:List aR} {Q:Exit->Act->World->Prop} {ops:Array Oper} {rest:List Oper}
variable {d:Option Tmp} {ty:TypeId} {pos:String} {aft:Array Edge} {g:Option (Nat×Bool)}
theorem St.push {w:World} (t:St c M L w) (o:Obj) {m:aR} (hm:m.p (w.alloc o) (fun k=>k=w.heap.size)):St c (m::M) L (w.alloc o):=by
 have e:Hy w (w.alloc o):=(Below.refl _ _).alloc (Nat.le_refl _) _
 obtain⟨ho,F,hF,hL⟩:=t
 have hb:∀k,k<w.heap.size->(w.alloc o).heap[k]? = w.heap[k]? := e.block
 refine⟨ho.trans e,fun i k=>match i with|0=>k=w.heap.size|i+1=>F i k,⟨?_,?_,?_⟩,fun f hf=> ?_⟩
 ·intro i m' hm'
  cases i with
  |zero=>simp at hm';subst hm';exact hm
  |succ i=>exact aR.same (hF.res i m' (by simpa using hm')) (fun _ h=>h) (fun k _ hl=>hb k hl)
 ·intro i k hk
  cases i with
  |zero=>subst hk;exact⟨.inl ho.size,by simp⟩
  |succ i=>exact⟨(hF.rng i k hk).1,Nat.lt_of_lt_of_le (hF.rng i k hk).2 e.size⟩
 ·intro i j k hi hj
  cases i with
  |zero=>
   cases j with
   |zero=>rfl
   |succ j=>have:=(hF.rng j k hj).2;simp only at hi;omega
  |succ i=>
   cases j with
   |zero=>have:=(hF.rng i k hi).2;simp only at hj;omega
   |succ j=>exact congrArg (· + 1) (hF.dis i j k hi hj)
 ·exact f.mono (hL f hf) fun k hk hl=>⟨⟨hk.1,fun i hi=>by
   cases i with
   |zero=>simp only at hi;omega
   |succ i=>exact hk.2 i hi⟩,hb k hl⟩
variable {κ ν:Type} [DecidableEq κ] {ek:κ->Value} {ev:ν->Value}
theorem aJ.makeMap (ek:κ->Value) (ev:ν->Value) {T:TypeId}:aJ P c n σ M L ⟨d,.makeMap T none,ty,pos,aft,g⟩ (fun r:Nat=> .map (some r)) (fun r=>Mp ek ev r []::M) (fun _=>L):=fun a w s t=>by
 have hrun:(execOp a.eval ⟨d,.makeMap T none,ty,pos,aft,g⟩).run P w = .ok (.value (.map (some w.heap.size))) (w.alloc (.map #[] 0)):=by
  simp[execOp,Instr.makeMap]
 simp only[Oper.wp,hrun,Oper.upon]
 exact⟨w.heap.size,rfl,t.push _ ⟨rfl,heap_alloc_new w _⟩⟩
theorem LS [bW P] {T kt vt:TypeId} {s1 s2 s3 s4:Nat} {z zv:Value} {dv:TypeDesc} {w:World} {r:Nat} {l:List (κ×ν)} {F:Nat->Prop} (hk:EN P kt ek) (hM:(Mp ek ev r l).p w F)
  (hT:bW.tab P T=some ⟨.map kt vt,s1,s2,z⟩) (hV:bW.tab P vt=some ⟨dv,s3,s4,zv⟩) (k:κ) (b:Bool):
  (Instr.lookup T (.map (some r)) (ek k) b).run P w = .ok (if b then .tuple #[((jU k l).map ev).getD zv,.bool (jU k l).isSome]else((jU k l).map ev).getD zv) w:=by
 have hg:(getObj r).run P w = .ok (.map (Al ek ev 0 l).toArray l.length) w:=by
  simp[getObj,Sem.run,hM.2]
 have hf:=hk.find ev k l w
 have hfg:=HW ev k 0 l
 simp only[Instr.lookup]
 simp[(bW.ok hT).run_und w,hg,hk.chk,hf]
 cases hfd:Om ev k 0 l with
 |none=>
  rw[hfd]at hfg
  have:jU k l=none:=by cases h:jU k l<;>simp[h]at hfg ⊢
  simp[this,(bW.ok hV).run_zero w]
 | some x =>
  rw[hfd]at hfg
  obtain⟨v,hv,hx⟩:∃v,jU k l=some v∧ev v=x.2:=by
   cases h:jU k l with
   |none=>simp[h]at hfg
   |some v=>simp[h]at hfg;exact⟨v,rfl,hfg.symm⟩
  simp[hv,hx]
theorem Jm [bW P] (j:Nat) {T kt vt:TypeId} {s1 s2 s3 s4:Nat} {z zv:Value} {dv:TypeDesc} {x y:Operand} {r:Nat} {l:List (κ×ν)} (k:κ) {b:Bool} (hk:EN P kt ek) (hx:Go.Sx.ev σ x=some (.map (some r))) (hy:Go.Sx.ev σ y=some (ek k)) (hf:M[j]? = some (Mp ek ev r l))
  (hT:bW.tab P T=some ⟨.map kt vt,s1,s2,z⟩) (hV:bW.tab P vt=some ⟨dv,s3,s4,zv⟩) {u:Value} (hu:((jU k l).map ev).getD zv=u):
  Y P c n σ M L ⟨d,.lookup T x y b,ty,pos,aft,g⟩ (if b then .tuple #[u,.bool (jU k l).isSome]else u):=fun a w s t=>by
 obtain⟨F,hF⟩:=t.res hf
 subst hu
 simp[execOp,s.eval hx,s.eval hy,LS hk hF hT hV]
theorem An {w:World} {r:Nat} {es:Array MapEntry} {k:Nat} (h:w.heap[r]? = some (.map es k)) (o:Obj):(setObj r o).run P w = .ok () {w with heap:=w.heap.setIfInBounds r o}:=by
 simp[setObj,Sem.run,h]
theorem St.setMap {w:World} (t:St c M L w) {j r:Nat} {l l':List (κ×ν)} (hf:M[j]? = some (Mp ek ev r l)) (o:Obj) (ho:o = .map (Al ek ev 0 l').toArray l'.length):
  St c (M.set j (Mp ek ev r l')) L {w with heap:=w.heap.setIfInBounds r o}:=
 t.upd hf rfl rfl rfl (by simp) fun F hF _=>⟨fun k _ hk=>by
   rw[Array.getElem?_setIfInBounds_ne (fun e=>hk (by subst e;exact hF.1))],F,⟨hF.1,by
    rw[Array.getElem?_setIfInBounds_self_of_lt (Array.getElem?_eq_some_iff.1 hF.2).1,ho]⟩,fun _ h=> .inl h⟩
theorem IJ [bW P] (j:Nat) {T kt vt:TypeId} {s1 s2:Nat} {z:Value} {x y v:Operand} {r:Nat} {l:List (κ×ν)} (k:κ) (nv:ν) (hk:EN P kt ek) (hx:Go.Sx.ev σ x=some (.map (some r))) (hy:Go.Sx.ev σ y=some (ek k)) (hv:Go.Sx.ev σ v=some (ev nv)) (hf:M[j]? = some (Mp ek ev r l))
  (hT:bW.tab P T=some ⟨.map kt vt,s1,s2,z⟩) (h:J c n σ (M.set j (Mp ek ev r (yV k nv l))) L (wpList P ops Q rest)):
  J c n σ M L (wpList P ops Q (⟨none,.mapUpdate T x y v,ty,pos,aft,none⟩::rest)):=fun a w s t=>by
 refine jR rfl ?_
 obtain⟨F,hF⟩:=t.res hf
 have hg:(getObj r).run P w = .ok (.map (Al ek ev 0 l).toArray l.length) w:=by
  simp[getObj,Sem.run,hF.2]
 have hfd:=hk.find ev k l w
 have hfg:=HW ev k 0 l
 have hrun:∃o:Obj,(execOp a.eval ⟨none,.mapUpdate T x y v,ty,pos,aft,none⟩).run P w = .ok .skip {w with heap:=w.heap.setIfInBounds r o}∧o = .map (Al ek ev 0 (yV k nv l)).toArray (yV k nv l).length:=by
  simp only[execOp,s.eval hx,s.eval hy,s.eval hv,Instr.mapUpdate]
  cases hfn:Om ev k 0 l with
  |none=>
   rw[hfn]at hfg hfd
   have hn:jU k l=none:=by cases h:jU k l<;>simp[h]at hfg ⊢
   refine⟨.map (Al ek ev 0 l++[(⟨ek k,ev nv,l.length⟩:MapEntry)]).toArray (l.length+1),by simp[(bW.ok hT).run_und w,hg,hk.chk,hfd,An hF.2],?_⟩
   rw[Do k nv l hn,FI];simp
  | some q =>
   obtain⟨i,u⟩:=q
   rw[hfn]at hfd
   obtain⟨_,h2,h3,h4⟩:=MP ek ev k nv 0 0 l i u hfn
   rw[Nat.sub_zero]at h2 h3
   have hkey:(((Al ek ev 0 l).toArray[i]?).map (·.key)).getD (ek k)=ek k:=by
    rw[List.getElem?_toArray,h2];rfl
   refine⟨.map ((Al ek ev 0 l).toArray.modify i fun e=>{e with key:=ek k,val:=ev nv}) l.length,?_,?_⟩
   ·have hst:(Instr.keyThatStays (ek k) (ek k)).run P w = .ok (ek k) w:=by simp[Instr.keyThatStays,hk.same k]
    have hkey':(Option.map (fun x=>x.key) (Al ek ev 0 l)[i]?).getD (ek k)=ek k:=by rw[h2];rfl
    simp[(bW.ok hT).run_und w,hg,hk.chk,hfd,hkey',hst,An hF.2]
   ·rw[h3,h4];simp
 obtain⟨o,hr,ho⟩:=hrun
 simp only[Oper.wp,hr,Oper.upon]
 exact h _ _ s (t.setMap hf o ho)
end
end Go.Sx
end
section
set_option linter.unusedSectionVars false
namespace Go.Sx
open Go.RowKit Go.ChangeMaps
def It (b m len:Nat) (seen:List Nat):aR where
 p w F:=F b∧w.heap[b]? = some (.mapIter (some m) len seen.toArray len)
 mono:=fun⟨h1,h2⟩ h=>by
  obtain⟨h3,h4⟩:=h b h1 (Array.getElem?_eq_some_iff.1 h2).1
  exact⟨h3,by rw[h4];exact h2⟩
section
variable {κ ν:Type} [DecidableEq κ] {ek:κ->Value} {ev:ν->Value} {R:Type}
theorem Ig (ek:κ->Value) (ev:ν->Value):∀(k:Nat) (l:List (κ×ν)) (e:MapEntry),e∈Al ek ev k l->∃i kv,l[i]? = some kv∧e=⟨ek kv.1,ev kv.2,k+i⟩
 |_,[],e,h=>by simp[Al]at h
 | k, x :: xs, e, h => by
  rcases List.mem_cons.1 h with rfl|h
  ·exact⟨0,x,rfl,rfl⟩
  ·obtain⟨i,kv,h1,h2⟩:=Ig ek ev (k+1) xs e h
   exact⟨i+1,kv,h1,by rw[h2,show k+1+i=k+(i+1) by omega]⟩
theorem If (ek:κ->Value) (ev:ν->Value):∀(k:Nat) (l:List (κ×ν)) (i:Nat) (kv:κ×ν),l[i]? = some kv->(⟨ek kv.1,ev kv.2,k+i⟩:MapEntry)∈Al ek ev k l
 |_,[],i,kv,h=>by simp at h
 |k,x::xs,0,kv,h=>by simp at h;subst h;exact List.mem_cons_self
 |k,x::xs,i+1,kv,h=>by
  have:=If ek ev (k+1) xs i kv (by simpa using h)
  rw[show k+1+i=k+(i+1) by omega]at this
  exact List.mem_cons_of_mem _ this
theorem JJ (ek:κ->Value) (ev:ν->Value):∀(k:Nat) (l:List (κ×ν)),(Al ek ev k l).map (·.born)=List.range' k l.length
 |_,[]=>rfl
 |k,x::xs=>by simp[Al,JJ ek ev (k+1) xs,List.range'_succ]
def Gp (step:κ×ν->Option R->Option R) (K:Option R) (l:List (κ×ν)):Option R:=l.foldr step K
def rem (l:List (κ×ν)) (seen:List Nat):List (κ×ν):=((List.range l.length).filter (fun i=> !seen.contains i)).filterMap (fun i=>l[i]?)
theorem Hg:∀l:List (κ×ν),(List.range l.length).filterMap (fun i=>l[i]?)=l
 | []=>rfl
 |x::xs=>by
  rw[List.length_cons,List.range_succ_eq_map,List.filterMap_cons]
  simp only[List.getElem?_cons_zero,List.filterMap_map]
  congr 1
  have:=Hg xs
  simpa [Function.comp_def]using this
theorem UF (l:List (κ×ν)):rem l []=l:=by
 unfold rem
 rw[List.filter_eq_self.2 (by simp),Hg]
theorem RP {l:List (κ×ν)} {seen:List Nat} {i:Nat} {kv:κ×ν} (hi:l[i]? = some kv) (hs:i∉seen):∃l1 l2,rem l seen=l1++kv::l2∧rem l (seen++[i])=l1++l2:=by
 have hlt:=aU hi
 have hmem:i∈(List.range l.length).filter (fun i=> !seen.contains i):=by simp[hlt,hs]
 obtain⟨A,B,hAB⟩:=List.append_of_mem hmem
 have hnd:((List.range l.length).filter (fun i=> !seen.contains i)).Nodup:=List.Pairwise.filter _ List.nodup_range
 rw[hAB]at hnd
 have hA:i∉A:=fun h=>by
  have:=(List.nodup_append.1 hnd).2.2 i h i List.mem_cons_self
  exact this rfl
 have hB:i∉B:=fun h=>by
  have:=(List.nodup_cons.1 (List.nodup_append.1 hnd).2.1).1
  exact this h
 refine⟨A.filterMap (fun i=>l[i]?),B.filterMap (fun i=>l[i]?),?_,?_⟩
 ·unfold rem
  rw[hAB,List.filterMap_append,List.filterMap_cons,hi]
 ·unfold rem
  have e:(List.range l.length).filter (fun j=> !(seen++[i]).contains j)=((List.range l.length).filter (fun j=> !seen.contains j)).filter (fun j=>decide (j≠i)):=by
   rw[List.filter_filter]
   apply List.filter_congr
   intro j _
   rw[Bool.eq_iff_iff]
   simp[and_comm]
  rw[e,hAB,List.filter_append,List.filter_cons]
  have fA:A.filter (fun j=>decide (j≠i))=A:=List.filter_eq_self.2 (fun j hj=>by simp;rintro rfl;exact hA hj)
  have fB:B.filter (fun j=>decide (j≠i))=B:=List.filter_eq_self.2 (fun j hj=>by simp;rintro rfl;exact hB hj)
  rw[fA,fB,List.filterMap_append.symm]
  simp
theorem Hf {step:κ×ν->Option R->Option R} (hc:∀a b x,step a (step b x)=step b (step a x)) (K:Option R) (kv:κ×ν) (l2:List (κ×ν)):∀l1:List (κ×ν),Gp step K (l1++kv::l2)=step kv (Gp step K (l1++l2))
 | []=>rfl
 |x::xs=>by
  have:=Hf hc K kv l2 xs
  unfold Gp at this ⊢
  rw[List.cons_append,List.cons_append,List.foldr_cons,List.foldr_cons,this,hc]
end
section
variable {P:Program} {rd:Option Nat} {c:rC} {n:Sz} {σ σ':Fr} {M L M' L':List aR} {Q:Exit->Act->World->Prop} {ops:Array Oper} {rest:List Oper}
variable {d:Option Tmp} {ty:TypeId} {pos:String} {aft:Array Edge} {g:Option (Nat×Bool)}
variable {κ ν:Type} [DecidableEq κ] {ek:κ->Value} {ev:ν->Value} {R:Type}
theorem aJ.range [bW P] (j:Nat) {T kt vt:TypeId} {s1 s2:Nat} {z:Value} {x:Operand} {m:Nat} {l:List (κ×ν)} (hx:Go.Sx.ev σ x=some (.map (some m))) (hf:M[j]? = some (Mp ek ev m l)) (hT:bW.tab P T=some ⟨.map kt vt,s1,s2,z⟩):
  aJ P c n σ M L ⟨d,.range T x,ty,pos,aft,g⟩ (fun b:Nat=> .pointer (some ⟨b,0,none⟩)) (fun b=>It b m l.length []::M) (fun _=>L):=fun a w s t=>by
 obtain⟨F,hF⟩:=t.res hf
 have hrun:(execOp a.eval ⟨d,.range T x,ty,pos,aft,g⟩).run P w = .ok (.value (.pointer (some ⟨w.heap.size,0,none⟩))) (w.alloc (.mapIter (some m) l.length #[] l.length)):=by
  simp[execOp,s.eval hx,run_range_map w T kt vt m _ _ (bW.ok hT).und hF.2]
 simp only[Oper.wp,hrun,Oper.upon]
 exact⟨w.heap.size,rfl,t.push _ ⟨rfl,heap_alloc_new w _⟩⟩
def Cv (ek:κ->Value) (ev:ν->Value) (l:List (κ×ν)):Option Nat->Value
 |none=> .tuple #[.bool false]
 |some i=>match l[i]? with
  |some kv=> .tuple #[.bool true,ek kv.1,ev kv.2]
  |none=>undef
def WM (len:Nat) (seen:List Nat):Option Nat->Prop
 |none=>∀i,i<len->i∈seen
 |some i=>i<len∧i∉seen
def Nf (M:List aR) (ji b m len:Nat) (seen:List Nat):Option Nat->List aR
 |none=>M
 |some i=>M.set ji (It b m len (seen++[i]))
theorem St.pureL {w:World} {p:Prop} (hp:p) (t:St c M L w):St c M (Vy p::L) w:=by
 obtain⟨ho,F,hF,hL⟩:=t
 refine⟨ho,F,hF,fun f hf=> ?_⟩
 rcases List.mem_cons.1 hf with rfl|hf
 ·exact hp
 ·exact hL f hf
theorem aJ.next (jm ji:Nat) {x:Operand} {b m:Nat} {l:List (κ×ν)} {seen:List Nat} (hx:Go.Sx.ev σ x=some (.pointer (some ⟨b,0,none⟩))) (hf:M[jm]? = some (Mp ek ev m l)) (hi:M[ji]? = some (It b m l.length seen)):
  aJ P c n σ M L ⟨d,.next x false,ty,pos,aft,g⟩ (Cv ek ev l) (Nf M ji b m l.length seen) (fun o=>Vy (WM l.length seen o)::L):=fun a w s t=>by
 obtain⟨F,hF⟩:=t.res hf
 obtain⟨G,hG⟩:=t.res hi
 have hold:∀e∈(Al ek ev 0 l).toArray.toList,e.born<l.length:=fun e he=>by
  obtain⟨i,kv,h1,h2⟩:=Ig ek ev 0 l e (by simpa using he)
  rw[h2];have:=aU h1;simp;omega
 rcases run_next_at (P:=P) w ty b m l.length l.length seen.toArray (Al ek ev 0 l).toArray l.length hG.2 hF.2 hold (Nat.le_refl _)with⟨h0,hr⟩|⟨e,he,w1,hw1,hr⟩
 ·have hrun:(execOp a.eval ⟨d,.next x false,ty,pos,aft,g⟩).run P w = .ok (.value (.tuple #[.bool false])) w:=by
   simp[execOp,s.eval hx,hr]
  simp only[Oper.wp,hrun,Oper.upon]
  refine⟨none,rfl,t.pureL fun i hi'=> ?_⟩
  obtain⟨kv,hkv⟩:∃kv,l[i]? = some kv:=⟨_,List.getElem?_eq_getElem hi'⟩
  have:=all_seen _ _ h0 _ (by simpa using If ek ev 0 l i kv hkv)
  simpa using this
 ·have hml:=_root_.Go.mem_left he
  obtain⟨i,kv,h1,h2⟩:=Ig ek ev 0 l e (by simpa using hml.1)
  subst h2
  rw[Nat.zero_add]at hr hml
  have hrun:(execOp a.eval ⟨d,.next x false,ty,pos,aft,g⟩).run P w = .ok (.value (.tuple #[.bool true,ek kv.1,ev kv.2])) (setBlock w1 b (.mapIter (some m) l.length (seen.toArray.push i) l.length)):=by
   simp[execOp,s.eval hx,hr]
  simp only[Oper.wp,hrun,Oper.upon]
  have t1:St c M L w1:=by
   rcases hw1 with rfl|rfl
   ·exact t
   ·exact t.ext ((Below.refl _ _).drew)
  refine⟨some i,by simp[Cv,h1],St.pureL ⟨aU h1,by simpa using hml.2⟩ ?_⟩
  refine t1.upd hi rfl rfl rfl (by simp[setBlock]) fun F hF _=>⟨fun k _ hk=> ?_,F,⟨hF.1,?_⟩,fun _ h=> .inl h⟩
  ·simp only[setBlock]
   rw[Array.getElem?_setIfInBounds_ne (fun e=>hk (by subst e;exact hF.1))]
  ·simp only[setBlock]
   rw[Array.getElem?_setIfInBounds_self_of_lt (Array.getElem?_eq_some_iff.1 hF.2).1]
   simp
theorem aJ.entry (jm ji:Nat) {x:Operand} {b m i:Nat} {l:List (κ×ν)} {seen:List Nat} {kv:κ×ν} (hkv:l[i]? = some kv) (hx:Go.Sx.ev σ x=some (.pointer (some ⟨b,0,none⟩))) (hf:M[jm]? = some (Mp ek ev m l)) (hi:M[ji]? = some (It b m l.length (seen++[i]))):
  aJ P c n σ M L ⟨d,.entry x,ty,pos,aft,g⟩ (fun _:Unit=> .tuple #[ek kv.1,ev kv.2]) (fun _=>M) (fun _=>L):=fun a w s t=>by
 obtain⟨F,hF⟩:=t.res hf
 obtain⟨G,hG⟩:=t.res hi
 have he:=If ek ev 0 l i kv hkv
 rw[Nat.zero_add]at he
 have hn:((Al ek ev 0 l).toArray.toList.map (·.born)).Nodup:=by
  simp only[JJ];exact List.nodup_range'
 have hr:=run_entry_at (P:=P) w b m l.length seen.toArray (Al ek ev 0 l).toArray l.length ⟨ek kv.1,ev kv.2,i⟩ (by rw[hG.2];simp) hF.2 (by simpa using he) hn
 have hrun:(execOp a.eval ⟨d,.entry x,ty,pos,aft,g⟩).run P w = .ok (.value (.tuple #[ek kv.1,ev kv.2])) w:=by
  simp[execOp,s.eval hx,hr]
 simp only[Oper.wp,hrun,Oper.upon]
 exact⟨(),by first|rfl|trivial,t⟩
theorem SS {G:Act->World->Prop} (σ':Fr) (M' L':List aR) (hs:uA σ σ') (hM:aW M M') (hL:aD [] L L') (h:J c n σ' M' L' G):J c n σ M L G:=fun a w s t=>h a w (s.weak hs) (t.weakE hM hL)
theorem KS {kt:TypeId} {d:TypeDesc} (hu:P.underlying kt=some d) (chk:∀b k w,(Instr.checkKey b 10000 kt (ek k)).run P w = .ok () w) (now:∀a b,Instr.sameNow d (ek a) (ek b)=none)
  (eq:∀a b w,(Op.equal kt (ek a) (ek b)).run P w = .ok (decide (a=b)) w) (same:∀k,Instr.sameBits 10000 (ek k) (ek k)=true):EN P kt ek:=by
 refine⟨chk,fun {ν'} ev' k l w=> ?_,same⟩
 have ask:∀(l:List (κ×ν')) (i:Nat),(Instr.findAsking kt (ek k) (Al ek ev' i l) i).run P w = .ok (Om ev' k i l) w:=by
  intro l
  induction l with
  |nil=>intro i;simp[Al,Om,Instr.findAsking]
  |cons x xs ih=>
   intro i
   simp only[Al,Om,Instr.findAsking]
   simp[eq]
   by_cases h:k=x.1
   ·simp[h]
   ·simp[h,ih]
 unfold Instr.findKey
 cases l with
 |nil=>simp[Al,Om,Instr.findNow,run_underlying hu w]
 |cons x xs=>
  have h1:Instr.findNow d (ek k) (Al ek ev' 0 (x::xs)) 0=none:=by simp[Al,Instr.findNow,now]
  simp[run_underlying hu w,h1,ask]
def Px {R:Type} (c:rC) (n:Sz) (σ:Fr) (M L:List aR) (x:Option R) (r:R) (a:Act) (w:World):Prop:=x=some r∧BD n σ a∧St c M L w
theorem KQ {R:Type} {x:Option R} {r:R} (h:x=some r) (hs:uA σ' σ) (hM:aW M' M) (hL:aD [] L' L):J c n σ' M' L' (Px c n σ M L x r):=fun _ _ s t=>⟨h,s.weak hs,t.weakE hM hL⟩
theorem NL (step:κ×ν->Option R->Option R) {K:Option R} {r:R} (jm ji:Nat) {b m:Nat} {l:List (κ×ν)} (hc:∀a b x,step a (step b x)=step b (step a x)) (h:Gp step K l=some r)
  (hf:M[jm]? = some (Mp ek ev m l)) (hi:M[ji]? = some (It b m l.length [])) (hne:Nat.beq ji jm=false) {t0 t1 t2:Tmp} (hx:lk σ t0=some (.pointer (some ⟨b,0,none⟩))) (hd1:Nat.blt t1 n.sz=true) (hd2:Nat.blt t2 n.sz=true)
  {id ex:Nat} {y1 y2:TypeId} {q1 q2:String} {f1 f2:Array Edge} {body:Code}
  (round:∀(kv:κ×ν) (i:Nat) (seen:List Nat) (x:Option R),l[i]? = some kv->step kv x=some r->
   J c n ((t2,.bool true)::(t1,.tuple #[.bool true,ek kv.1,ev kv.2])::σ) (M.set ji (It b m l.length (seen++[i]))) L (body.wpr rd P (Exit.then (Px c n σ (M.set ji (It b m l.length (seen++[i]))) L x r) Q)))
  (fin:∀seen,K=some r->J c n ((t2,.bool false)::(t1,.tuple #[.bool false])::σ) (M.set ji (It b m l.length seen)) L (Q (.exit ex))):
  J c n σ M L ((Code.loop (Code.seq (Code.region id [⟨some t1,.next (.tmp t0) false,y1,q1,f1,none⟩,⟨some t2,.extract (.tmp t1) 0,y2,q2,f2,none⟩].toArray false) (Code.seq (Code.cond (.tmp t2) .skip (.exit ex)) body))).wpr rd P Q):=by
 have hjlt:=aU hi
 have hjm:jm≠ji:=fun e=>by subst e;simp at hne
 have hset:M.set ji (It b m l.length [])=M:=by
  apply List.ext_getElem?
  intro q
  by_cases eq:q=ji
  ·subst eq;rw[List.getElem?_set_self hjlt,hi]
  ·rw[List.getElem?_set_ne (Ne.symm eq)]
 refine Po (X:=List Nat) (fun seen=>seen.Nodup∧(∀i∈seen,i<l.length)∧Gp step K (rem l seen)=some r) (fun _=>σ) (fun seen=>M.set ji (It b m l.length seen)) (fun _=>L) (fun seen=>l.length - seen.length) [] ⟨List.nodup_nil,by simp,by rw[UF];exact h⟩ (uA.refl _) (by rw[hset];exact aW.refl _) (fun _ h=>h) ?_
 rintro seen ⟨hnd,hlt,hrun⟩
 have hf':(M.set ji (It b m l.length seen))[jm]? = some (Mp ek ev m l):=by rw[List.getElem?_set_ne (Ne.symm hjm)];exact hf
 have hi':(M.set ji (It b m l.length seen))[ji]? = some (It b m l.length seen):=List.getElem?_set_self hjlt
 refine aH (aK (aF (aJ.next jm ji (x:= .tmp t0) hx hf' hi') hd1 fun o=> ?_))
 refine Vv List.mem_cons_self fun ho=> ?_
 refine Vw (M':=Nf (M.set ji (It b m l.length seen)) ji b m l.length seen o) (L':=L) ?_ (uA.refl _) (aW.refl _) (fun f hf=>List.mem_cons_of_mem _ hf)
 cases o with
 | none =>
  refine aB (xN (vs:=[.bool false]) (by simp[Cv,lk,Go.Sx.ev]) rfl) hd2 (dA (uU (aH (El (by simp[lk,Go.Sx.ev]) (rE (eS (eS ?_)))))))
  refine fin seen ?_
  have:rem l seen=[]:=by
   unfold rem
   rw[List.filter_eq_nil_iff.2 (fun i hi=>by simpa using ho i (by simpa using hi))]
   rfl
  rw[this]at hrun
  exact hrun
 | some i =>
  obtain⟨h1,h2⟩:=ho
  obtain⟨kv,hkv⟩:∃kv,l[i]? = some kv:=⟨_,List.getElem?_eq_getElem h1⟩
  have hval:Cv ek ev l (some i) = .tuple #[.bool true,ek kv.1,ev kv.2]:=by simp[Cv,hkv]
  obtain⟨l1,l2,e1,e2⟩:=RP hkv h2
  have hstep:step kv (Gp step K (rem l (seen++[i])))=some r:=by
   rw[e2,<-Hf hc K kv l2 l1,<-e1];exact hrun
  have hMs:Nf (M.set ji (It b m l.length seen)) ji b m l.length seen (some i)=M.set ji (It b m l.length (seen++[i])):=by simp[Nf]
  rw[hval,hMs]
  refine aB (xN (vs:=[.bool true,ek kv.1,ev kv.2]) (by simp[lk,Go.Sx.ev]) rfl) hd2 (dA (uU (aH (Mg (by simp[lk,Go.Sx.ev]) (dO (uU ?_))))))
  refine Pp (round kv i seen _ hkv hstep) fun a w hw=>CS (fun e a' w' q=> ?_) hw
  cases e with
  | normal =>
   obtain⟨hx',hs',ht'⟩:=q
   refine⟨seen++[i],⟨?_,?_,hx'⟩,?_,hs',ht'⟩
   ·rw[List.nodup_append];exact⟨hnd,by simp,fun a ha b hb=>by simp at hb;subst hb;rintro rfl;exact h2 ha⟩
   ·intro j hj
    rcases List.mem_append.1 hj with hj|hj
    ·exact hlt j hj
    ·simp at hj;subst hj;exact h1
   ·have:seen.length<l.length:=by
     have hsub:(seen++[i]).length<=(List.range l.length).length:=by
      apply List.Nodup.length_le_of_subset
      ·rw[List.nodup_append];exact⟨hnd,by simp,fun a ha b hb=>by simp at hb;subst hb;rintro rfl;exact h2 ha⟩
      ·intro j hj
       rcases List.mem_append.1 hj with hj|hj
       ·simpa using hlt j hj
       ·simp at hj;subst hj;simpa using h1
     simp at hsub;omega
    simp;omega
  |exit id=>exact q
  |goto l=>exact q
  |ret=>exact q
  |panic ch=>exact q
  |outgrown=>exact q
end
end Go.Sx
end
section
namespace Go.Sx
open Go.RowKit
section
section
variable {P:Program} {rd:Option Nat} {c:rC} {n:Sz} {σ σ':Fr} {M L M' L':List aR} {Q:Exit->Act->World->Prop} {ops:Array Oper} {rest:List Oper} {K:Act->World->Prop} {G:Act->World->Prop}
variable {d:Option Tmp} {D:Nat} {ty:TypeId} {pos:String} {aft:Array Edge} {g:Option (Nat×Bool)}
variable {α β:Type} {e:dH α} {r:dJ α}


def BC (P:Program) (f:FuncId) (args:Array Value) (Min L:List aR) {A:Type} (ret:A->Value) (MO:A->List aR->List aR):Prop:=
 ∀c:rC,St c Min L c.w0->Calls P f args c.w0 fun e w'=>∃x:A,e = .returned (ret x)∧St c (MO x []) [] w'
theorem BC.of {A:Type} {ret:A->Value} {MO:A->List aR->List aR} {f:FuncId} {fn:Func} {code:Code} {vs:List Value} {m:Nat} {Min:List aR}
  (hf:P.funcs[f]? = some fn) (hb:fn.body=some code) (hn:fn.ntmps=m) (hm:Nat.ble vs.length m=true)
  (h:∀c:rC,J c ⟨m,[]⟩ (tC 0 vs) Min L (code.wpr none P (fG P fn (IV c ret MO (fun _ l=>l))))):BC P f vs.toArray Min L ret MO:=fun c t=>by
 have hle:vs.length<=m:=by simpa using hm
 refine oZ hf hb (h c _ _ ⟨rfl,by simp[hn,hle],?_⟩ t)
 intro t v hv
 obtain⟨_,h2⟩:=Ah vs 0 t v hv
 rw[Nat.sub_zero]at h2
 have hlt:t<vs.length:=by
  rcases Nat.lt_or_ge t vs.length with h'|h'
  ·exact h'
  ·rw[List.getElem?_eq_none h']at h2;cases h2
 rw[Array.getElem?_append_left (by simpa using hlt)]
 simpa using h2
theorem PL {w w':World} {Min Mr M1:List aR} {F:Nat->Nat->Prop} {U:Nat->Prop} (ho:xL c.O c.w0 w) (hF:UZ c w (Min++Mr) F) (hL:∀f∈L,f.p w (AX c F))
  (t:St ⟨w,U,fun k=>∃i,i<Min.length∧F i k⟩ M1 [] w'):St c (M1++Mr) L w':=by
 obtain⟨ho',F',hF',_⟩:=t
 have hsz:=ho'.size
 have hbl:∀k,k<w.heap.size->(∀i,i<Min.length->¬F i k)->w'.heap[k]? = w.heap[k]? := fun k hk hn=>ho'.block k hk (fun⟨i,hi,hF⟩=>hn i hi hF)
 have hmine:∀i k,F' i k->w.heap.size<=k∨∃j,j<Min.length∧F j k:=fun i k hk=>(hF'.rng i k hk).1
 refine⟨⟨ho'.os.trans ho.os,ho'.tape.trans ho.tape,ho'.output.trans ho.output,Nat.le_trans ho.size hsz,fun k hk hO=> ?_⟩,
  fun i k=>(i<M1.length∧F' i k)∨(M1.length<=i∧F (i - M1.length+Min.length) k),⟨?_,?_,?_⟩,fun f hf=> ?_⟩
 ·refine(hbl k (Nat.lt_of_lt_of_le hk ho.size) (fun i _ hFi=> ?_)).trans (ho.block k hk hO)
  rcases(hF.rng i k hFi).1 with h|h
  ·omega
  ·exact hO h
 ·intro i m hm
  by_cases hi:i<M1.length
  ·rw[List.getElem?_append_left hi]at hm
   exact aR.same (hF'.res i m hm) (fun k hk=> .inl ⟨hi,hk⟩) (fun _ _ _=>rfl)
  ·rw[List.getElem?_append_right (by omega)]at hm
   have hm':(Min++Mr)[i - M1.length+Min.length]? = some m:=by
    rw[List.getElem?_append_right (by omega),Nat.add_sub_cancel];exact hm
   exact aR.same (hF.res _ m hm') (fun k hk=> .inr ⟨by omega,hk⟩) (fun k hk hl=>hbl k hl (fun j hj hFj=>by have:=hF.dis _ _ k hFj hk;omega))
 ·rintro i k (⟨_,hk⟩|⟨_,hk⟩)
  ·refine⟨?_,(hF'.rng i k hk).2⟩
   rcases hmine i k hk with h|⟨j,_,h⟩
   ·exact .inl (Nat.le_trans ho.size h)
   ·exact(hF.rng j k h).1
  ·exact⟨(hF.rng _ k hk).1,Nat.lt_of_lt_of_le (hF.rng _ k hk).2 hsz⟩
 ·rintro i j k (⟨hi,h1⟩|⟨hi,h1⟩) (⟨hj,h2⟩|⟨hj,h2⟩)
  ·exact hF'.dis i j k h1 h2
  ·rcases hmine i k h1 with h|⟨q,hq,h⟩
   ·have:=(hF.rng _ k h2).2;omega
   ·have:=hF.dis _ _ k h h2;omega
  ·rcases hmine j k h2 with h|⟨q,hq,h⟩
   ·have:=(hF.rng _ k h1).2;omega
   ·have:=hF.dis _ _ k h h1;omega
  ·have:=hF.dis _ _ k h1 h2;omega
 ·refine f.mono (hL f hf) fun k hk hl=>⟨⟨hk.1,?_⟩,hbl k hl (fun i _=>hk.2 i)⟩
  rintro i (⟨_,h⟩|⟨_,h⟩)
  ·rcases hmine i k h with h'|⟨q,_,h'⟩
   ·omega
   ·exact hk.2 q h'
  ·exact hk.2 _ h
theorem St.enterM {w:World} {Min Mr L0:List aR} {F:Nat->Nat->Prop} (hF:UZ c w (Min++Mr) F) (hL:∀f∈L,f.p w (AX c F)) (hl:aD Mr L L0):
  St ⟨w,fun k=>∀i,i<Min.length->¬F i k,fun k=>∃i,i<Min.length∧F i k⟩ Min L0 w:=by
 refine⟨xL.refl _,fun i k=>i<Min.length∧F i k,⟨fun i m hm=> ?_,fun i k hk=>⟨.inr ⟨i,hk⟩,(hF.rng i k hk.2).2⟩,fun i j k h1 h2=>hF.dis i j k h1.2 h2.2⟩,fun f hf=> ?_⟩
 ·have hi:i<Min.length:=by
   rcases Nat.lt_or_ge i Min.length with h'|h'
   ·exact h'
   ·rw[List.getElem?_eq_none h']at hm;cases hm
  exact aR.same (hF.res i m (by rw[List.getElem?_append_left hi];exact hm)) (fun k hk=>⟨hi,hk⟩) (fun _ _ _=>rfl)
 ·refine hl f hf w (AX c F) (fun j k=>F (j+Min.length) k) _ hL (fun j m hj=> ?_) (fun k hk=> ?_) (fun j k hk=> ?_)
  ·exact hF.res _ m (by rw[List.getElem?_append_right (by omega),Nat.add_sub_cancel];exact hj)
  ·exact⟨.inl fun i _=>hk.2 i,fun i hi=>hk.2 i hi.2⟩
  ·exact⟨.inl fun i hi h=>by have:=hF.dis _ _ k h hk;omega,fun i hi=>by have:=hF.dis _ _ k hi.2 hk;omega⟩
theorem BB {A:Type} {ret:A->Value} {MO:A->List aR->List aR} {f:FuncId} {xs:List Operand} {vs:List Value} {ats:Array TypeId} {L0 Min Mr:List aR} (hb:aN P f)
  (hs:BC P f vs.toArray Min L0 ret MO) (hx:xs.map (ev σ)=vs.map some) (hM:aW M (Min++Mr)) (hL:aD Mr L L0) (hMO:∀x l,MO x l=MO x []++l):
  aJ P c n σ M L ⟨d,.call ⟨.value (.func f),xs.toArray,ats⟩,ty,pos,aft,g⟩ ret (fun x=>MO x Mr) (fun _=>L):=fun a w s t=>by
 have hrun:(execOp a.eval ⟨d,.call ⟨.value (.func f),xs.toArray,ats⟩,ty,pos,aft,g⟩).run P w = .ok (.enter f vs.toArray) w:=by
  have e:=Wu s hx
  simp[execOp,resolve,Act.eval,Deferred.ofValue,invoke,hb _ w,e]
 simp only[Oper.wp,hrun,Oper.upon]
 obtain⟨ho,F,hF,hLF⟩:=t.weak (L':=L) hM (fun _ h=>h)
 refine(hs _ (St.enterM hF hLF hL)).mono ?_
 rintro e w' ⟨x,rfl,ht⟩
 refine⟨x,rfl,?_⟩
 rw[hMO]
 exact PL ho hF hLF ht

def SV {A B:Type} (c:rC) (C:A->Prop) (val:A->B->Value) (MI LI:A->B->List aR) (e:Ending) (w:World):Prop:=∃x y,C x∧e = .returned (val x y)∧St c (MI x y) (LI x y) w
theorem Fu {fn:Func} {vs:List Value} {m:Nat} (hn:fn.ntmps=m) (hm:Nat.ble vs.length m=true):BD ⟨m,[]⟩ (tC 0 vs) {tmps:=vs.toArray++Array.replicate (fn.ntmps - vs.toArray.size) undef,defers:=[]}:=by
 have hle:vs.length<=m:=by simpa using hm
 refine⟨rfl,by simp[hn,hle],?_⟩
 intro t v hv
 obtain⟨_,h2⟩:=Ah vs 0 t v hv
 rw[Nat.sub_zero]at h2
 have hlt:t<vs.length:=by
  rcases Nat.lt_or_ge t vs.length with h'|h'
  ·exact h'
  ·rw[List.getElem?_eq_none h']at h2;cases h2
 rw[Array.getElem?_append_left (by simpa using hlt)]
 simpa using h2
structure uQ (P:Program) (c:rC) (n:Sz) (σ:Fr) (M L:List aR) (o:Oper) (f:FuncId) (vs:List Value):Prop where
 run:∀a w,BD n σ a->St c M L w->(execOp a.eval o).run P w = .ok (.enter f vs.toArray) w
theorem uQ.fn {f:FuncId} {xs:List Operand} {vs:List Value} {ats:Array TypeId} (hb:aN P f) (hx:xs.map (ev σ)=vs.map some):uQ P c n σ M L ⟨d,.call ⟨.value (.func f),xs.toArray,ats⟩,ty,pos,aft,g⟩ f vs:=⟨fun a w s _=>by
 have e:=Wu s hx
 simp[execOp,resolve,Act.eval,Deferred.ofValue,invoke,hb _ w,e]⟩
theorem NJ {f:FuncId} {t:Tmp} {xs:List Operand} {us cs vs:List Value} {ats:Array TypeId} (hb:aN P f) (ht:lk σ t=some (.func (.func f) #[] cs.toArray)) (hx:xs.map (ev σ)=us.map some) (hv:us++cs=vs):uQ P c n σ M L ⟨d,.call ⟨.value (.tmp t),xs.toArray,ats⟩,ty,pos,aft,g⟩ f vs:=⟨fun a w s _=>by
 have e:=Wu s hx
 have e2:a.eval (.tmp t) = .func (.func f) #[] cs.toArray:=s.eval (x:= .tmp t) ht
 subst hv
 simp[execOp,resolve,e2,Deferred.ofValue,invoke,hb _ w,e]⟩

def Gk (P:Program) (c:rC) (n:Sz) (σ:Fr) (M L:List aR) (fn:Func) (v:Value):Prop:=∀a w,BD n σ a->St c M L w->(results fn a.tmps).run P w = .ok v w
variable {fn:Func}
theorem Gk.r0 (hres:fn.results = #[]):Gk P c n σ M L fn (.tuple #[]):=fun a w _ _=>by simp[results,hres]
theorem Gk.r1 {r1:ResultVar} {v1:Value} (hres:fn.results = #[r1]) (h1:RV P c n σ M L r1 v1):Gk P c n σ M L fn v1:=fun a w s t=>by
 have:=h1 a w s t
 simp only[vX,hres]
 simp[this]
theorem Gk.r2 {r1 r2:ResultVar} {v1 v2:Value} (hres:fn.results = #[r1,r2]) (h1:RV P c n σ M L r1 v1) (h2:RV P c n σ M L r2 v2):Gk P c n σ M L fn (.tuple #[v1,v2]):=fun a w s t=>by
 have h1:=h1 a w s t
 have h2:=h2 a w s t
 simp only[vX,hres]
 simp[h1,h2]
theorem wX {A B:Type} {m:Sz} {v:Value} {ex:Exit} {C:A->Prop} {val:A->B->Value} {MI LI:A->B->List aR} (x:A) (y:B) (hC:C x) (hex:ex = .ret∨ex = .normal) (hr:Gk P c m σ' M L fn v) (hv:v=val x y) (hM:aW M (MI x y)) (hL:aD [] L (LI x y)) (hds:m.ds=[]:=by rfl):
  J c m σ' M L (fG P fn (SV c C val MI LI) ex):=fun a w s t=>by
 exact body_end hex (s.defers.trans hds) (hr a w s t) ⟨x,y,hC,by rw[hv],t.weakE hM hL⟩
end
end
section
section
variable {P:Program} {rd:Option Nat} {c:rC} {n:Sz} {σ σ':Fr} {M L M' L':List aR} {Q:Exit->Act->World->Prop} {ops:Array Oper} {rest:List Oper} {K:Act->World->Prop} {G:Act->World->Prop}
variable {d:Option Tmp} {D:Nat} {ty:TypeId} {pos:String} {aft:Array Edge} {g:Option (Nat×Bool)}
variable {α β:Type} {e:dH α} {r:dJ α}
theorem Je (i:Nat) {k:Int} {vs:List Value} {xss:List (List α)} (hf:M[i]? = some (jW e vs xss)) (h:0<=k∧k<xss.length):
  pU M L (Ar e (at' vs k) (at' xss k)::M.set i (jW e (vs.set k.toNat (.slice none 0 0)) (xss.set k.toNat []))) L:=fun c w t=>by
 obtain⟨ho,F,hF,hL⟩:=t
 obtain⟨hlen,G,g1,g2,g3⟩:=hF.res i _ hf
 have hkl:k.toNat<vs.length:=by omega
 have hlt:i<M.length:=(List.getElem?_eq_some_iff.1 hf).1
 have hrow:=g1 k.toNat _ _ (iW h.1 (by omega)) (iW h.1 h.2)
 refine⟨ho,fun j q=>match j with|0=>G k.toNat q|j+1=>(j=i∧∃j',j'≠k.toNat∧G j' q)∨(j≠i∧F j q),⟨?_,?_,?_⟩,fun f hf=> ?_⟩
 ·intro j m hm
  cases j with
  |zero=>simp at hm;subst hm;exact hrow
  | succ j =>
   rw[List.getElem?_cons_succ]at hm
   by_cases ej:j=i
   ·subst ej
    rw[List.getElem?_set_self hlt]at hm
    cases hm
    refine⟨by simp[hlen],fun j' q=>j'≠k.toNat∧G j' q,fun j' v xs hv hx=> ?_,fun j' q hq=> .inl ⟨rfl,j',hq⟩,fun j1 j2 q h1 h2=>g3 _ _ q h1.2 h2.2⟩
    by_cases e2:j'=k.toNat
    ·subst e2
     rw[List.getElem?_set_self hkl]at hv
     rw[List.getElem?_set_self (by omega)]at hx
     cases hv;cases hx
     exact⟨by simp,rfl,.inl ⟨rfl,rfl⟩⟩
    ·rw[List.getElem?_set_ne (Ne.symm e2)]at hv hx
     exact aR.same (f:=Ar e v xs) (g1 j' v xs hv hx) (fun q hq=>⟨e2,hq⟩) (fun _ _ _=>rfl)
   ·rw[List.getElem?_set_ne (Ne.symm ej)]at hm
    exact aR.same (hF.res j m hm) (fun q hq=> .inr ⟨ej,hq⟩) (fun _ _ _=>rfl)
 ·intro j q hq
  cases j with
  |zero=>exact hF.rng i q (g2 _ q hq)
  |succ j=>
   rcases hq with⟨_,j',_,hq⟩|⟨_,hq⟩
   ·exact hF.rng i q (g2 _ q hq)
   ·exact hF.rng j q hq
 ·intro j1 j2 q h1 h2
  cases j1 with
  | zero =>
   cases j2 with
   |zero=>rfl
   |succ j2=>
    rcases h2 with⟨_,j',hne,h2⟩|⟨hne,h2⟩
    ·exact absurd (g3 _ _ q h2 h1) hne
    ·exact absurd (hF.dis _ _ q h2 (g2 _ q h1)) hne
  | succ j1 =>
   cases j2 with
   |zero=>
    rcases h1 with⟨_,j',hne,h1⟩|⟨hne,h1⟩
    ·exact absurd (g3 _ _ q h1 h2) hne
    ·exact absurd (hF.dis _ _ q h1 (g2 _ q h2)) hne
   |succ j2=>
    congr 1
    rcases h1 with⟨e1,j',_,h1⟩|⟨e1,h1⟩<;>rcases h2 with⟨e2,j'',_,h2⟩|⟨e2,h2⟩
    ·rw[e1,e2]
    ·exact absurd (hF.dis _ _ q h2 (g2 _ q h1)) e2
    ·exact absurd (hF.dis _ _ q h1 (g2 _ q h2)) e1
    ·exact hF.dis _ _ q h1 h2
 ·refine aR.same (hL f hf) (fun q hq=>⟨hq.1,fun j hj=> ?_⟩) (fun _ _ _=>rfl)
  cases j with
  |zero=>exact hq.2 i (g2 _ q hj)
  |succ j=>
   rcases hj with⟨_,j',_,hj⟩|⟨_,hj⟩
   ·exact hq.2 i (g2 _ q hj)
   ·exact hq.2 j hj
theorem Ja (i j:Nat) {u:Value} {k:Int} {vs:List Value} {xss:List (List α)} {ys:List α} (hij:Nat.beq i j=false) (hf:M[i]? = some (jW e (vs.set k.toNat (.slice none 0 0)) (xss.set k.toNat []))) (hg:M[j]? = some (Ar e u ys)) (h:0<=k∧k<(xss.set k.toNat []).length):
  pU M L ((M.set i (jW e (vs.set k.toNat u) (xss.set k.toNat ys))).eraseIdx j) L:=by
 have:=sY (L:=L) i j hij hf hg h
 rwa[List.set_set,List.set_set]at this

theorem GK {α:Type} [Inhabited α] (l:List α) {j k:Int} (y:α) (h:j.toNat≠k.toNat):at' (l.set j.toNat y) k=at' l k:=by
 rw[at',at',List.getD_eq_getElem?_getD,List.getD_eq_getElem?_getD,List.getElem?_set_ne h]
theorem uH [bW P] (i:Nat) {r:dJ α} (hfit:e.Fits r) {x y:Operand} {u u0:Value} {k j:Int} {vs:List Value} {xss:List (List α)} {ys ys0:List α} {T E:TypeId} {s1 s2 s3 s4:Nat} {z z':Value} {dE:TypeDesc} (hx:ev σ x=some (at' vs k)) (hy:ev σ y=some u) (hf:M[i]? = some (jW e (vs.set j.toNat u0) (xss.set j.toNat ys0))) (hg:aC M L (Sl r u ys))
  (hT:bW.tab P T=some ⟨.slice E,s1,s2,z⟩) (hE:bW.tab P E=some ⟨dE,s3,s4,z'⟩) (h3:e.sz=s3) (h4:Nat.ble s4 1024=true) (h0:0<=k∧k<xss.length) (hl:((at' xss k).length:Int)+ys.length<=1099511627) (hz:z'.cells.size=s3) (hne:j.toNat≠k.toNat):
  aJ P c n σ M L ⟨d,.call ⟨.builtin .append,#[x,y],#[T,T]⟩,ty,pos,aft,g⟩ (fun v':Value=>v') (fun v'=>M.set i (jW e ((vs.set j.toNat u0).set k.toNat v') ((xss.set j.toNat ys0).set k.toNat (at' xss k++ys)))) (fun _=>L):=by
 have ex:at' (xss.set j.toNat ys0) k=at' xss k:=GK _ _ hne
 have:=nD (P:=P) (c:=c) (n:=n) (σ:=σ) (M:=M) (L:=L) (d:=d) (ty:=ty) (pos:=pos) (aft:=aft) (g:=g) (x:=x) (y:=y) (u:=u) (k:=k) (vs:=vs.set j.toNat u0) (xss:=xss.set j.toNat ys0) (ys:=ys) i hfit (by rw[GK _ _ hne];exact hx) hy hf hg hT hE h3 h4 (by simpa using h0) (by rw[ex];exact hl) hz
 rwa[ex]at this
theorem yD (q:Nat) {vs:List Value} {xss:List (List α)} {k j:Int} {u u2:Value} (hr:M[q]? = some (jW e ((vs.set k.toNat u).set j.toNat u2) xss)) (hne:k.toNat≠j.toNat) (h:0<=k∧k<xss.length):∀c w,St c M L w->Go.Sx.one u=true:=fun c w t=>by
 obtain⟨S,hl,G',g1,_⟩:=t.res hr
 have hlt:k.toNat<vs.length:=by simp at hl;omega
 obtain⟨_,_,hh⟩:=g1 k.toNat u _ (by rw[List.getElem?_set_ne (Ne.symm hne),List.getElem?_set_self hlt]) (List.getElem?_eq_getElem (by omega))
 rcases hh with⟨hu,_⟩|⟨b,off,cap,T,cur,hu,_⟩<;>(rw[hu];rfl)
theorem Mh {A:Type} {val:A->Value} {M' L':A->List aR} {op:Op} (ho:aJ P c n σ M L ⟨none,op,ty,pos,aft,none⟩ val M' L') (h:∀x,J c n σ (M' x) (L' x) (wpList P ops Q rest)):
  J c n σ M L (wpList P ops Q (⟨none,op,ty,pos,aft,none⟩::rest)):=fun a w s t=>
 jR rfl (FL (kL (fun a' w' ⟨x,he,ht⟩=>by subst he;exact h x _ w' s ht) (ho a w s t)))

end
end
section
section
variable {P:Program} {rd:Option Nat} {c:rC} {n:Sz} {σ σ':Fr} {M L M' L':List aR} {Q:Exit->Act->World->Prop} {ops:Array Oper} {rest:List Oper} {K:Act->World->Prop} {G:Act->World->Prop}
variable {d:Option Tmp} {D:Nat} {ty:TypeId} {pos:String} {aft:Array Edge} {g:Option (Nat×Bool)}
variable {α β:Type} {e:dH α} {r:dJ α}
theorem IQ [bW P] (j:Nat) {T:TypeId} {s2:Nat} {z:Value} {dT:TypeDesc} {x y:Operand} {v u:Value} {i:Int} {xs:List α} (yv:α) (hx:ev σ x=some (AK v (i.toNat*1))) (hy:ev σ y=some u) (hu:e.enc yv=[u]) (h1u:one u=true)
  (hf:M[j]? = some (Ar e v xs)) (hT:bW.tab P T=some ⟨dT,1,s2,z⟩) (hq:e.sz=1) (h0:0<=i) (h1:i<xs.length):
  aJ P c n σ M L ⟨none,.store T x y,ty,pos,aft,none⟩ (fun _:Unit=>undef) (fun _=>M.set j (Ar e v (xs.set i.toNat yv))) (fun _=>L):=fun a w s t=>by
 obtain⟨F,hF⟩:=t.res hf
 have hi:i.toNat<xs.length:=by omega
 have hget:xs[i.toNat]? = some xs[i.toNat]:=List.getElem?_eq_getElem hi
 have hne:xs≠[]:=by intro e;subst e;simp at hi
 obtain⟨p,hp⟩:∃p,e.enc xs[i.toNat]=[p]:=List.length_eq_one_iff.1 ((e.len _).trans hq)
 have hcell:=AC.cell hF hget (j:=0) (u:=p) (by rw[hp];rfl)
 rw[hq,Nat.add_zero,Nat.mul_one]at hcell
 rw[Nat.mul_one]at hx
 have hfree:=IF hF hne i.toNat
 have hrun:(execOp a.eval ⟨none,.store T x y,ty,pos,aft,none⟩).run P w = .ok .skip (w.setCell (Gl v i.toNat) u):=by
  simp only[execOp,s.eval hx,s.eval hy,AK]
  simp[yY (bW.ok hT) rfl h1u hcell hfree]
 simp only[Oper.wp,hrun,Oper.upon]
 refine⟨(),trivial,t.upd hf rfl rfl rfl (by simp[World.setCell]) fun F hF _=> ?_⟩
 obtain⟨hl,h1,hh⟩:=hF
 rcases hh with⟨_,hh⟩|⟨b,off,cap,T',cur,hv,hFb,hb,hk,hc,ht⟩
 ·exact absurd hh hne
 ·subst hv
  have ha:Gl (.slice (some ⟨b,off,none⟩) xs.length cap) i.toNat=⟨b,off+i.toNat,none⟩:=by simp[Gl,cY]
  rw[ha]
  refine⟨fun k _ hk'=>Below.heap_setCell _ _ _ _ (fun e=>hk' (by simp only at e;subst e;exact hFb)),F,⟨by simpa using hl,?_,.inr ⟨b,off,cap,T',cur.setIfInBounds (off+i.toNat) u,by simp,hFb,?_,by simpa using hk,by simpa using hc,?_⟩⟩,fun _ h=> .inl h⟩
  ·rw[rZ hq hu,List.all_eq_true]
   intro q hq'
   rcases List.mem_or_eq_of_mem_set hq' with h'|h'
   ·exact List.all_eq_true.1 h1 q h'
   ·rw[h'];exact h1u
  ·simp[World.setCell,Array.getElem?_modify,hb]
  ·rw[rZ hq hu,<-ht,Array.toList_setIfInBounds,List.length_set,<-take_set]
   congr 1
   rw[List.drop_set,if_neg (by omega),Nat.add_sub_cancel_left]
theorem IP [bW P] (i:Nat) {T T':TypeId} {s2:Nat} {z:Value} {dT:TypeDesc} {x y:Operand} {b o:Nat} {cs:List Value} {v:Value} (hx:ev σ x=some (.pointer (some ⟨b,o,none⟩)))
  (hy:ev σ y=some v) (hv:one v=true) (hM:M[i]? = some (bT b cs T')) (hT:bW.tab P T=some ⟨dT,1,s2,z⟩) (ho:Nat.blt o cs.length=true):
  aJ P c n σ M L ⟨none,.store T x y,ty,pos,aft,none⟩ (fun _:Unit=>undef) (fun _=>M.set i (bT b (cs.set o v) T')) (fun _=>L):=fun a w s t=>by
 obtain⟨F,hF⟩:=t.res hM
 have hlt:o<cs.length:=by simpa [Nat.blt_eq]using ho
 have hrun:(execOp a.eval ⟨none,.store T x y,ty,pos,aft,none⟩).run P w = .ok .skip (w.setCell ⟨b,o,none⟩ v):=by
  simp[execOp,s.eval hx,s.eval hy,yY (bW.ok hT) rfl hv (bT.cell hF (List.getElem?_eq_getElem hlt)) (IG hF o)]
 simp only[Oper.wp,hrun,Oper.upon]
 exact⟨(),trivial,t.store hM v⟩
theorem wZ [bW P] (j q:Nat) {T:TypeId} {s2:Nat} {z:Value} {dT:TypeDesc} {x y:Operand} {v u:Value} {i:Int} {vs vs':List Value} {xss:List (List α)} (h:0<=i∧i<xss.length) (hx:ev σ x=some (AK v (i.toNat*1))) (hy:ev σ y=some u)
  (hf:M[j]? = some (Ar dH.raw v vs)) (hr:M[q]? = some (jW e vs' xss)) (hl:vs'.length=vs.length) (h1u:one u=true) (hT:bW.tab P T=some ⟨dT,1,s2,z⟩):
  aJ P c n σ M L ⟨none,.store T x y,ty,pos,aft,none⟩ (fun _:Unit=>undef) (fun _=>M.set j (Ar dH.raw v (vs.set i.toNat u))) (fun _=>L):=fun a w s t=>by
 have hlen:vs'.length=xss.length:=by obtain⟨_,h⟩:=t.res hr;exact h.1
 exact IQ j u hx hy rfl h1u hf hT rfl h.1 (by omega) a w s t
section
variable {l:List Oper} {m:List Nat} {k0:Nat} {H Bs:List (Nat×List aR×List aR)} {rs:List Nat}
theorem zS {A:Type} {val:A->Value} {M' L':A->List aR} {i:Nat} {op:Op}
  (hi:l[i]? = some ⟨none,op,ty,pos,aft,none⟩) (hk:Nat.blt i k0=true) (hl:cU op=true) (ho:aJ P c n σ M L ⟨none,op,ty,pos,aft,none⟩ val M' L')
  (hB:∀x,wH (before m i) (M' x) (L' x) Bs) (h:∀x,JR c n σ (M' x) (L' x) ((i,M,L)::H) Bs (RW P l.toArray Q (before m) (cB l) k0 rs)):
  JR c n σ M L H Bs (RW P l.toArray Q (before m) (cB l) k0 (i::rs)):=fun a w X Y s t hX hY=>by
 have hi':l.toArray[i]? = some ⟨none,op,ty,pos,aft,none⟩:=by simpa using hi
 simp only[RW,hi']
 rw[if_pos (by simp[Region.wanted])]
 refine .inr (.inr ⟨by simpa [Nat.blt_eq]using hk,by simp[cB,hi,hl],kL ?_ (ho a w s t)⟩)
 rintro a' w' ⟨x,rfl,ht⟩
 exact⟨(hB x).use ht hY,h x _ w' _ Y s ht ⟨rfl,t,hX⟩ hY⟩
end

theorem GG {A B:Type} {f:FuncId} {fn:Func} {code:Code} {vs:List Value} {m:Nat} {op:Op} (C:A->Prop) (val:A->B->Value) (MI LI:A->B->List aR) (he:uQ P c n σ M L ⟨d,op,ty,pos,aft,g⟩ f vs) (hf:P.funcs[f]? = some fn) (hb:fn.body=some code) (hn:fn.ntmps=m) (hm:Nat.ble vs.length m=true)
  (h1:J c ⟨m,[]⟩ (tC 0 vs) M L (code.wpr none P (fG P fn (SV c C val MI LI)))):
  aJ P c n σ M L ⟨d,op,ty,pos,aft,g⟩ (fun x:{p:A×B // C p.1}=>val x.1.1 x.1.2) (fun x=>MI x.1.1 x.1.2) (fun x=>LI x.1.1 x.1.2):=fun a w s t=>by
 have hrun:=he.run a w s t
 simp only[Oper.wp,hrun,Oper.upon]
 refine(oZ hf hb (h1 _ w (Fu hn hm) t)).mono ?_
 rintro e w' ⟨x,y,hC,rfl,ht⟩
 exact⟨⟨(x,y),hC⟩,rfl,ht⟩
theorem Bz {A B:Type} {f:FuncId} {fn:Func} {code:Code} {vs:List Value} {m:Nat} {op:Op} (C:A->Prop) (val:A->B->Value) (MI LI:A->B->List aR) (he:uQ P c n σ M L ⟨some D,op,ty,pos,aft,none⟩ f vs) (hf:P.funcs[f]? = some fn) (hb:fn.body=some code) (hn:fn.ntmps=m) (hm:Nat.ble vs.length m=true) (hD:Nat.blt D n.sz=true)
  (h1:J c ⟨m,[]⟩ (tC 0 vs) M L (code.wpr none P (fG P fn (SV c C val MI LI)))) (h2:∀a b,C a->J c n ((D,val a b)::σ) (MI a b) (LI a b) (wpList P ops Q rest)):J c n σ M L (wpList P ops Q (⟨some D,op,ty,pos,aft,none⟩::rest)):=
 aF (GG C val MI LI he hf hb hn hm h1) hD fun⟨⟨a,b⟩,hC⟩=>h2 a b hC
section
variable {l:List Oper} {mm:List Nat} {k0:Nat} {H Bs:List (Nat×List aR×List aR)} {rs:List Nat}
theorem Mi {A B:Type} {i:Nat} {f:FuncId} {fn:Func} {code:Code} {vs:List Value} {m:Nat} {op:Op} (C:A->Prop) (val:A->B->Value) (MI LI:A->B->List aR) (hi:l[i]? = some ⟨some D,op,ty,pos,aft,none⟩) (hk:Nat.blt i k0=true) (hl:cU op=true) (he:uQ P c n σ M L ⟨some D,op,ty,pos,aft,none⟩ f vs) (hf:P.funcs[f]? = some fn) (hb:fn.body=some code) (hn:fn.ntmps=m) (hm:Nat.ble vs.length m=true) (hD:Nat.blt D n.sz=true)
  (hB:∀a b,wH (before mm i) (MI a b) (LI a b) Bs) (h1:J c ⟨m,[]⟩ (tC 0 vs) M L (code.wpr none P (fG P fn (SV c C val MI LI)))) (h2:∀a b,C a->JR c n ((D,val a b)::σ) (MI a b) (LI a b) ((i,M,L)::H) Bs (RW P l.toArray Q (before mm) (cB l) k0 rs)):
  JR c n σ M L H Bs (RW P l.toArray Q (before mm) (cB l) k0 (i::rs)):=
 JR.loud hi hk hl (GG C val MI LI he hf hb hn hm h1) hD (fun _=>hB _ _) fun⟨⟨a,b⟩,hC⟩=>h2 a b hC
end

theorem AG [bW P] {T E:TypeId} {k s1 s2 s3 s4:Nat} {z z':Value} {dE:TypeDesc} {x y:Operand} {v:Value} {o:Nat} {i:Int} (hx:ev σ x=some (AK v o)) (hy:ev σ y=some (.int .i64 i))
  (hT:bW.tab P T=some ⟨.array k E,s1,s2,z⟩) (hE:bW.tab P E=some ⟨dE,s3,s4,z'⟩) (_h3:(s3==0)=false) (h:0<=i∧i<(k:Int)):
  Y P c n σ M L ⟨d,.indexAddr T x y,ty,pos,aft,g⟩ (AK v (o+i.toNat*s3)):=fun a w s t=>by
 simp[execOp,s.eval hx,s.eval hy,Instr.indexAt,asIntOf,(bW.ok hT).run_und w,h,Instr.sureAddr,AK,(bW.ok hE).run_size w,Et]
theorem bL {x:Operand} {b o:Nat} (hx:ev σ x=some (.pointer (some ⟨b,o,none⟩))):Y P c n σ M L ⟨d,.nilCheck x,ty,pos,aft,g⟩ (.pointer (some ⟨b,o,none⟩)):=fun a w s t=>by
 simp[execOp,s.eval hx]

theorem IR [bW P] [Inhabited α] (j:Nat) {T:TypeId} {s2 k o q:Nat} {z:Value} {dT:TypeDesc} {x y:Operand} {v u:Value} {us:List Value} {i:Int} {xs:List α} (yv:α) (h:0<=i∧i<xs.length) (hx:ev σ x=some (AK v (i.toNat*q+o))) (hy:ev σ y=some u)
  (hf:M[j]? = some (Ar e v xs)) (hq:e.sz=q) (hu:u.cells=us.toArray) (hk:us.length=k) (ho:Nat.ble (o+k) q=true) (hyv:e.enc yv=(e.enc (at' xs i)).take o++us++(e.enc (at' xs i)).drop (o+k)) (h1u:us.all one=true) (hT:bW.tab P T=some ⟨dT,k,s2,z⟩):
  aJ P c n σ M L ⟨none,.store T x y,ty,pos,aft,none⟩ (fun _:Unit=>undef) (fun _=>M.set j (Ar e v (xs.set i.toNat yv))) (fun _=>L):=fun a w s t=>by
 subst hq hk
 have hok:o+us.length<=e.sz:=by simpa using ho
 have hi:i.toNat<xs.length:=by omega
 have t0:=t
 obtain⟨hoo,FF,hO,hLL⟩:=t0
 obtain⟨h0,hone,hh⟩:=hO.res j _ hf
 rcases hh with⟨_,rfl⟩|⟨b,off,cap,T',cur,rfl,hFb,hbk,hcp,hc,ht⟩
 ·simp at hi
 -- the parts of the row
 obtain⟨l,x0,tl,hxs,hl⟩:∃l x0 tl,xs=l++x0::tl∧l.length=i.toNat:=⟨xs.take i.toNat,xs[i.toNat],xs.drop (i.toNat+1),by rw[List.getElem_cons_drop,List.take_append_drop],by simp;omega⟩
 have hat:at' xs i=x0:=by
  rw[at',List.getD_eq_getElem?_getD,<-hl,hxs,List.getElem?_append_right (Nat.le_refl _)];simp
 rw[hat]at hyv
 have eE:=e.len x0
 have eA:(cellsOf e l).length=i.toNat*e.sz:=by rw[cR,hl]
 have hcells:cellsOf e xs=cellsOf e l++(e.enc x0++cellsOf e tl):=by rw[hxs];simp[cellsOf]
 have hset:cellsOf e (xs.set i.toNat yv)=cellsOf e l++(e.enc yv++cellsOf e tl):=by
  have:xs.set i.toNat yv=l++yv::tl:=by rw[hxs,<-hl,List.set_append_right _ _ (Nat.le_refl _)];simp
  rw[this];simp[cellsOf]
 have hmul:xs.length*e.sz<=cap*e.sz:=Nat.mul_le_mul_right _ hcp
 obtain⟨Hd,R,hcur,hH⟩:∃Hd R,cur.toList=Hd++(cellsOf e l++(e.enc x0++(cellsOf e tl++R)))∧Hd.length=off:=by
  refine⟨cur.toList.take off,(cur.toList.drop off).drop (xs.length*e.sz),?_,by simp;omega⟩
  have e1:cellsOf e l++(e.enc x0++(cellsOf e tl++(cur.toList.drop off).drop (xs.length*e.sz)))=cur.toList.drop off:=by
   have:cellsOf e l++(e.enc x0++(cellsOf e tl++(cur.toList.drop off).drop (xs.length*e.sz)))=cellsOf e xs++(cur.toList.drop off).drop (xs.length*e.sz):=by rw[hcells];simp
   rw[this,<-ht,List.take_append_drop]
  rw[e1,List.take_append_drop]
 have hsize:cur.size=cur.toList.length:=by simp
 have hp1:cur.toList.take (off+(i.toNat*e.sz+o))=Hd++(cellsOf e l++(e.enc x0).take o):=by
  have:cur.toList=(Hd++(cellsOf e l++(e.enc x0).take o))++((e.enc x0).drop o++(cellsOf e tl++R)):=by
   rw[hcur,List.append_assoc,List.append_assoc,<-List.append_assoc ((e.enc x0).take o),List.take_append_drop]
  rw[this]
  exact List.take_left' (by simp[hH,eA,eE];omega)
 have hp2:cur.toList.drop (off+(i.toNat*e.sz+o)+us.length)=(e.enc x0).drop (o+us.length)++(cellsOf e tl++R):=by
  have:cur.toList=(Hd++(cellsOf e l++(e.enc x0).take (o+us.length)))++((e.enc x0).drop (o+us.length)++(cellsOf e tl++R)):=by
   rw[hcur,List.append_assoc,List.append_assoc,<-List.append_assoc ((e.enc x0).take (o+us.length)),List.take_append_drop]
  rw[this]
  exact List.drop_left' (by simp[hH,eA,eE];omega)
 have hbound:(i.toNat+1)*e.sz<=xs.length*e.sz:=Nat.mul_le_mul_right _ (by omega)
 have hb2:(i.toNat+1)*e.sz=i.toNat*e.sz+e.sz:=by rw[Nat.add_mul,Nat.one_mul]
 have hfit:off+(i.toNat*e.sz+o)+0+us.length<=cur.size:=by omega
 have hst:=run_storeCells_at P b (off+(i.toNat*e.sz+o)) T' us 0 cur w hbk hfit (fun u hu=>mU (List.all_eq_true.1 h1u u hu))
 simp only[Nat.add_zero]at hst
 have hsz:(bW.ok hT).run_size w=(bW.ok hT).run_size w:=rfl
 have hrun:(execOp a.eval ⟨none,.store T x y,ty,pos,aft,none⟩).run P w = .ok .skip (w.setRow b (cur.toList.take (off+(i.toNat*e.sz+o))++us++cur.toList.drop (off+(i.toNat*e.sz+o)+us.length)).toArray):=by
  simp[execOp,s.eval hx,s.eval hy,AK,Gl,Instr.storeAt,Instr.sureAddr,storeVar,hu,(bW.ok hT).run_size w,cY,hst]
 simp only[Oper.wp,hrun,Oper.upon]
 refine⟨(),trivial,?_⟩
 refine Ep hoo hO hLL hf rfl rfl rfl (by simp) (fun k _ hk'=>setRow_other w b k _ (fun e=>hk' (by subst e;exact hFb))) (F':=FF j) ?_ (fun k hk=> .inl hk)
 have hlen2:(e.enc yv).length=e.sz:=e.len yv
 refine⟨by simpa using h0,?_,.inr ⟨b,off,cap,T',_,by simp,hFb,setRow_heap w b _ _ T' _ hbk,by simpa using hcp,?_,?_⟩⟩
 ·rw[hset]
  rw[hcells]at hone
  simp only[List.all_append,Bool.and_eq_true]at hone ⊢
  refine⟨hone.1,?_,hone.2.2⟩
  rw[hyv]
  simp only[List.all_append,Bool.and_eq_true]
  refine⟨⟨List.all_eq_true.2 fun u hu=>List.all_eq_true.1 hone.2.1 u (List.mem_of_mem_take hu),h1u⟩,List.all_eq_true.2 fun u hu=>List.all_eq_true.1 hone.2.1 u (List.mem_of_mem_drop hu)⟩
 ·simp only[List.size_toArray,List.length_append,List.length_take,List.length_drop]
  omega
 ·show((cur.toList.take _++us++cur.toList.drop _).drop off).take ((xs.set i.toNat yv).length*e.sz)=_
  rw[hp1,hp2,hset,hyv,List.length_set]
  have e3:(Hd++(cellsOf e l++(e.enc x0).take o)++us++((e.enc x0).drop (o+us.length)++(cellsOf e tl++R)))=Hd++((cellsOf e l++(((e.enc x0).take o++us++(e.enc x0).drop (o+us.length))++cellsOf e tl))++R):=by simp
  rw[e3,<-hH,List.drop_left]
  refine List.take_left' ?_
  have hT2:(cellsOf e tl).length=tl.length*e.sz:=cR e tl
  have hxl:xs.length=i.toNat+1+tl.length:=by rw[hxs,<-hl];simp;omega
  rw[hyv]at hlen2
  rw[List.length_append,List.length_append,hlen2,eA,hT2,hxl,Nat.add_mul,Nat.add_mul,Nat.one_mul]
  omega
end
end
section
def XH (D:Nat):aR where
 p w F:=F D∧w.heap[D]? = some (.deferred (some []))
 mono:=fun⟨h1,h2⟩ h=>by
  obtain⟨h3,h4⟩:=h D h1 (Array.getElem?_eq_some_iff.1 h2).1
  exact⟨h3,by rw[h4];exact h2⟩
structure PE where
 n:Nat
 σ:Fr
 ps:Array Tmp
 assign:Code
 body:Code
 D:Nat
def Lp (l:Nat) (R:PE) (st:LoopState) (pend:Option Code):aR where
 p w F:=F l∧∃(fn:FuncId) (tmps:Array Value),tmps.size=R.n∧(∀t v,lk R.σ t=some v->tmps[t]? = some v)∧
  w.heap[l]? = some (.loop {state:=st,pending:=pend,fn:=fn,tmps:=tmps,params:=R.ps,assign:=R.assign,body:=R.body,defers:=R.D})
 mono:=fun⟨h1,fn,tmps,h2,h3,h4⟩ h=>by
  obtain⟨h5,h6⟩:=h l h1 (Array.getElem?_eq_some_iff.1 h4).1
  exact⟨h5,fn,tmps,h2,h3,by rw[h6];exact h4⟩
def Ri (D:Nat):Deferred:={target:= .collected D,args:= #[]}
def sP (l:Nat):Value:= .func (.yield l) #[] #[]
section
variable {P:Program} {rd:Option Nat} {c:rC} {n m:Sz} {σ σ':Fr} {M L:List aR} {Q:Exit->Act->World->Prop} {K G:Act->World->Prop}
theorem St.putLp {w:World} {l i:Nat} {R:PE} {st st':LoopState} {pend pend':Option Code} (t:St c M L w) (hi:M[i]? = some (Lp l R st pend)) {r:Loop} (hr:w.heap[l]? = some (.loop r)):
  St c (M.set i (Lp l R st' pend')) L (w.putObj l (.loop {r with state:=st',pending:=pend'})):=by
 refine t.upd hi rfl rfl rfl (by simp) fun F hF _=>⟨fun k _ hk=> ?_,F,?_,fun _ h=> .inl h⟩
 ·exact World.putObj_heap_other (fun e=>hk (by subst e;exact hF.1))
 ·obtain⟨h1,fn,tmps,h2,h3,h4⟩:=hF
  rw[h4]at hr
  cases hr
  exact⟨h1,fn,tmps,h2,h3,World.putObj_heap_same (Array.getElem?_eq_some_iff.1 h4).1⟩
def PG (P:Program) (n:Sz) (σ:Fr) (l D:Nat) (Q:Exit->Act->World->Prop) (e:Ending) (w:World):Prop:=
 ∀a,BD ⟨n.sz,Ri D::n.ds⟩ σ a->rangePost (FR none) 0 P l Q a e w
theorem IK {g:Operand} {ps:Array Tmp} {assign body:Code} {f:FuncId} {fn:Func} {code:Code} {cs:List Value} {k:Nat} (hb:aN P f) (hx:ev σ g=some (.func (.func f) #[] cs.toArray)) (hf:P.funcs[f]? = some fn) (hbd:fn.body=some code) (hn:fn.ntmps=k) (hm:Nat.ble (cs.length+1) k=true)
  (h:∀l D,J c ⟨k,[]⟩ (tC 0 (sP l::cs)) (Lp l ⟨n.sz,σ,ps,assign,body,D⟩ .ready none::XH D::M) L (code.wpr none P (fG P fn (PG P n σ l D Q)))):
  J c n σ M L ((Code.rangeFunc g ps assign body).wpr none P Q):=fun a w s t=>by
 refine wpIn_rangeFunc fun fn' _=> ?_
 have hev:a.eval g = .func (.func f) #[] cs.toArray:=s.eval hx
 let W:World:=(w.alloc (.deferred (some []))).alloc (.loop {state:= .ready,pending:=none,fn:=fn',tmps:=a.tmps,params:=ps,assign:=assign,body:=body,defers:=w.heap.size})
 refine⟨_,_,_,{target:= .fn (.func f) cs.toArray,args:= #[sP (w.heap.size+1)]},W,f,(sP (w.heap.size+1)::cs).toArray,W,run_enterLoop_outer fn' a.tmps ps assign body,?_,fun _ _=>trivial,?_,(fun hc=>by cases hc),?_⟩
 ·have hc:∀v,a.eval (.const v)=v:=fun _=>rfl
  simp[resolve,hev,hc,Deferred.ofValue,sP,W]
 ·simp[invoke,hb _ _,sP]
 ·have t1:St c (XH w.heap.size::M) L (w.alloc (.deferred (some []))):=t.push _ ⟨rfl,heap_alloc_new w _⟩
  have t2:St c (Lp (w.heap.size+1) ⟨n.sz,σ,ps,assign,body,w.heap.size⟩ .ready none::XH w.heap.size::M) L ((w.alloc (.deferred (some []))).alloc (.loop {state:= .ready,pending:=none,fn:=fn',tmps:=a.tmps,params:=ps,assign:=assign,body:=body,defers:=w.heap.size})):=by
   have:=t1.push (.loop {state:= .ready,pending:=none,fn:=fn',tmps:=a.tmps,params:=ps,assign:=assign,body:=body,defers:=w.heap.size}) (m:=Lp (w.heap.size+1) ⟨n.sz,σ,ps,assign,body,w.heap.size⟩ .ready none)
    ⟨by simp,fn',a.tmps,s.size,s.slot,by rw[<-World.size_alloc w (.deferred (some []))];exact heap_alloc_new _ _⟩
   exact this
  refine MF ((oZ hf hbd (h (w.heap.size+1) w.heap.size _ _ (Fu hn (by simpa using hm)) t2)).mono ?_)
  intro e w' he
  exact he _ ⟨by simp[Ri,s.defers],s.size,s.slot⟩
theorem Pr {fn:Func} {ex:Exit} {v:Value} {l D i:Nat} {R:PE} (hex:ex = .ret∨ex = .normal) (hi:M[i]? = some (Lp l R .ready none)) (hr:Gk P c m σ' M L fn v) (h:J c ⟨n.sz,Ri D::n.ds⟩ σ (M.set i (Lp l R .exhausted none)) L (Q .normal)) (hds:m.ds=[]:=by rfl):
  J c m σ' M L (fG P fn (PG P n σ l D Q) ex):=fun a w s t=>by
 refine body_end hex (s.defers.trans hds) (hr a w s t) fun a' s'=> ?_
 obtain⟨F,h1,fn',tmps,h2,h3,h4⟩:=t.res hi
 exact⟨none,_,run_endLoop h4 (by simp),h a' _ s' (t.putLp hi h4)⟩
theorem SR {fn:Func} {ex:Exit} {v:Value} {l D i:Nat} {R:PE} (hex:ex = .ret∨ex = .normal) (hi:M[i]? = some (Lp l R .done (some .ret))) (hr:Gk P c m σ' M L fn v) (h:J c ⟨n.sz,Ri D::n.ds⟩ σ (M.set i (Lp l R .exhausted (some .ret))) L (Q .ret)) (hds:m.ds=[]:=by rfl):
  J c m σ' M L (fG P fn (PG P n σ l D Q) ex):=fun a w s t=>by
 refine body_end hex (s.defers.trans hds) (hr a w s t) fun a' s'=> ?_
 obtain⟨F,h1,fn',tmps,h2,h3,h4⟩:=t.res hi
 exact⟨some .ret,_,run_endLoop h4 (by simp),wpIn_ret (h a' _ s' (t.putLp hi h4))⟩
def Pb (P:Program) (l:Nat) (G:Act->World->Prop) (a:Act) (w:World):Prop:=∃w',(Instr.beginRound l).run P w = .ok () w'∧G a w'
theorem Mf {l i:Nat} {R:PE} {pend:Option Code} (hi:M[i]? = some (Lp l R .ready pend)) (h:J c n σ (M.set i (Lp l R .busy pend)) L G):J c n σ M L (Pb P l G):=fun a w s t=>by
 obtain⟨F,h1,fn',tmps,h2,h3,h4⟩:=t.res hi
 exact⟨_,run_beginRound h4 rfl,h a _ s (t.putLp hi h4)⟩
def PH (n:Sz) (σ:Fr) (d:Nat) (K:Act->World->Prop) (e:Ending) (w:World):Prop:=∃v,e = .returned v∧∀a,BD n ((d,v)::σ) a->K a w
theorem EM {l i d:Nat} {R:PE} {pend:Option Code} (hi:M[i]? = some (Lp l R .busy pend)) (h:J c m ((d,.bool true)::σ') (M.set i (Lp l R .ready none)) L K):J c n σ M L (roundPost P l (PH m σ' d K) .normal):=fun a w s t=>by
 obtain⟨F,h1,fn',tmps,h2,h3,h4⟩:=t.res hi
 exact⟨_,_,run_endRound none h4,_,rfl,fun a' s'=>h a' _ s' (t.putLp hi h4)⟩
theorem Ps {l i d:Nat} {R:PE} {pend:Option Code} (hi:M[i]? = some (Lp l R .busy pend)) (h:J c m ((d,.bool false)::σ') (M.set i (Lp l R .done (some .ret))) L K):J c n σ M L (roundPost P l (PH m σ' d K) .ret):=fun a w s t=>by
 obtain⟨F,h1,fn',tmps,h2,h3,h4⟩:=t.res hi
 exact⟨_,_,run_endRound (some .ret) h4,_,rfl,fun a' s'=>h a' _ s' (t.putLp hi h4)⟩
def BN:List Tmp->List Value->Fr->Fr
 |t::ts,v::vs,σ=>BN ts vs ((t,v)::σ)
 |_,_,σ=>σ
theorem Ft:∀(ps:List Tmp) (vs:List Value) (tmps:Array Value) (σ:Fr) (k:Nat),tmps.size=k->ps.all (fun t=>Nat.blt t k)=true->(∀t v,lk σ t=some v->tmps[t]? = some v)->
  ((ps.zip vs).foldl (fun tmps (x:Tmp×Value)=>tmps.setIfInBounds x.1 x.2) tmps).size=k∧∀t v,lk (BN ps vs σ) t=some v->((ps.zip vs).foldl (fun tmps (x:Tmp×Value)=>tmps.setIfInBounds x.1 x.2) tmps)[t]? = some v
 | [],_,tmps,σ,k,h1,_,h3=>by simpa [BN]using ⟨h1,h3⟩
 |_::_,[],tmps,σ,k,h1,_,h3=>by simpa [BN]using ⟨h1,h3⟩
 | p :: ps, x :: vs, tmps, σ, k, h1, h2, h3 => by
  simp only[List.all_cons,Bool.and_eq_true]at h2
  have hp:p<k:=by simpa [Nat.blt_eq]using h2.1
  simp only[List.zip_cons_cons,List.foldl_cons,BN]
  refine Ft ps vs _ _ k (by simp[h1]) h2.2 fun t v hv=> ?_
  simp only[lk]at hv
  by_cases e:t=p
  ·subst e
   simp at hv
   subst hv
   simp[h1,hp]
  ·rw[jZ e]at hv
   simp only[cond_false]at hv
   rw[Array.getElem?_setIfInBounds_ne (Ne.symm e)]
   exact h3 t v hv
theorem SU {ops:Array Oper} {rest:List Oper} {t:Tmp} {xs:List Operand} {us:List Value} {ats:Array TypeId} {d:Nat} {ty:TypeId} {pos:String} {aft:Array Edge} {l i:Nat} {R:PE} {ps:List Tmp} (ht:lk σ t=some (sP l)) (hx:xs.map (ev σ)=us.map some) (hi:M[i]? = some (Lp l R .ready none)) (hps:R.ps=ps.toArray) (hlen:us.length=ps.length) (hall:ps.all (fun t=>Nat.blt t R.n)=true) (hd:Nat.blt d n.sz=true)
  (h:J c ⟨R.n,[]⟩ (BN ps us R.σ) M L (R.assign.wpr (some l) P (Exit.then (Pb P l (R.body.wpr (some l) P (roundPost P l (PH n σ d (wpList P ops Q rest))))) (fun _ _ _=>False)))):
  J c n σ M L (wpList P ops Q (⟨some d,.call ⟨.value (.tmp t),xs.toArray,ats⟩,ty,pos,aft,none⟩::rest)):=fun a w s tt=>by
 obtain⟨F,h1,fn',tmps,h2,h3,h4⟩:=tt.res hi
 have e:=Wu s hx
 have e2:a.eval (.tmp t)=sP l:=s.eval (x:= .tmp t) ht
 have hy:=run_yield (P:=P) (args:=us.toArray) h4 (by simp[hps,hlen])
 have hrun:(execOp a.eval ⟨some d,.call ⟨.value (.tmp t),xs.toArray,ats⟩,ty,pos,aft,none⟩).run P w=(Instr.yield l us.toArray).run P w:=by
  simp[execOp,resolve,e2,sP,Deferred.ofValue,invoke,e]
 unfold wpList
 rw[if_pos (show Region.wanted _ _=true from rfl)]
 refine .inr ⟨_,_,_,_,_,_,hrun.trans hy,?_⟩
 refine RoundIn.mono (R:=PH n σ d (wpList P ops Q rest)) (roundIn_of_wpIn (F:=FR none) trivial ?_) ?_
 ·obtain⟨f1,f2⟩:=Ft ps us tmps R.σ R.n h2 hall h3
  have:=h {tmps:=(ps.zip us).foldl (fun tmps (x:Tmp×Value)=>tmps.setIfInBounds x.1 x.2) tmps,defers:=[]} w ⟨rfl,f1,f2⟩ tt
  simp only[hps,List.zip_toArray,List.foldl_toArray]
  exact this
 ·rintro e w'' ⟨v,rfl,hv⟩
  exact⟨v,rfl,hv _ (s.put d v hd)⟩
theorem HA {g:Operand} {ps:Array Tmp} {assign body:Code} {f:FuncId} {fn:Func} {code:Code} {cs:List Value} {k:Nat} (hb:aN P f) (hx:ev σ g=some (.func (.func f) #[] cs.toArray)) (hf:P.funcs[f]? = some fn) (hbd:fn.body=some code) (hn:fn.ntmps=k) (hm:Nat.ble (cs.length+1) k=true)
  (h:∀(l D:Nat) (R:PE),R.n=n.sz∧R.σ=σ∧R.ps=ps∧R.assign=assign∧R.body=body->J c ⟨k,[]⟩ (tC 0 (sP l::cs)) (Lp l R .ready none::XH D::M) L (code.wpr none P (fG P fn (PG P n σ l D Q)))):
  J c n σ M L ((Code.rangeFunc g ps assign body).wpr none P Q):=IK hb hx hf hbd hn hm fun l D=>h l D _ ⟨rfl,rfl,rfl,rfl,rfl⟩
theorem IM {ops:Array Oper} {rest:List Oper} {t:Tmp} {xs:List Operand} {us:List Value} {ats:Array TypeId} {d:Nat} {ty:TypeId} {pos:String} {aft:Array Edge} {l i k:Nat} {R:PE} {ps:List Tmp} {σR:Fr} {assign body:Code} (hR:R.n=k∧R.σ=σR∧R.ps=ps.toArray∧R.assign=assign∧R.body=body) (ht:lk σ t=some (sP l)) (hx:xs.map (ev σ)=us.map some) (hi:M[i]? = some (Lp l R .ready none)) (hlen:us.length=ps.length) (hall:ps.all (fun t=>Nat.blt t k)=true) (hd:Nat.blt d n.sz=true)
  (h:J c ⟨k,[]⟩ (BN ps us σR) M L (assign.wpr (some l) P (Exit.then (Pb P l (body.wpr (some l) P (roundPost P l (PH n σ d (wpList P ops Q rest))))) (fun _ _ _=>False)))):
  J c n σ M L (wpList P ops Q (⟨some d,.call ⟨.value (.tmp t),xs.toArray,ats⟩,ty,pos,aft,none⟩::rest)):=by
 obtain⟨rfl,rfl,h3,rfl,rfl⟩:=hR
 exact SU ht hx hi h3 hlen hall hd h
end
end
section
def FD (Ds:List Nat):List Deferred:=Ds.map Ri
def Hw (Ds:List Nat):aR where
 p w F:=Ds.Nodup∧∀D∈Ds,F D∧w.heap[D]? = some (.deferred (some []))
 mono:=fun⟨h1,h2⟩ h=>⟨h1,fun D hD=>by
  obtain⟨h3,h4⟩:=h D (h2 D hD).1 (Array.getElem?_eq_some_iff.1 (h2 D hD).2).1
  exact⟨h3,by rw[h4];exact(h2 D hD).2⟩⟩
section
variable {P:Program} {rd:Option Nat} {c:rC} {n m:Sz} {σ σ':Fr} {M L:List aR} {Q:Exit->Act->World->Prop} {K G:Act->World->Prop}
theorem Jc:pU M L (Hw []::M) L:=pU.add fun _=>⟨List.nodup_nil,by simp⟩
theorem Jd (i j:Nat) {D:Nat} {Ds:List Nat} (hij:i≠j) (hf:M[i]? = some (Hw Ds)) (hg:M[j]? = some (XH D)):pU M L ((M.set i (Hw (D::Ds))).eraseIdx j) L:=fun c w t=>
 t.merge i j hij hf hg (by
  rintro w F1 F2 ⟨h1,h2⟩ ⟨h3,h4⟩ hd
  refine⟨List.nodup_cons.2 ⟨fun hm=>hd D (h2 D hm).1 h3,h1⟩,fun E hE=> ?_⟩
  rcases List.mem_cons.1 hE with rfl|hE
  ·exact⟨.inr h3,h4⟩
  ·exact⟨.inl (h2 E hE).1,(h2 E hE).2⟩)
theorem BZ {g:Operand} {ps:Array Tmp} {assign body:Code} {f:FuncId} {fn:Func} {code:Code} {cs:List Value} {k i s:Nat} (Ds:List Nat) (hi:M[i]? = some (Hw Ds)) (hb:aN P f) (hx:ev σ g=some (.func (.func f) #[] cs.toArray)) (hf:P.funcs[f]? = some fn) (hbd:fn.body=some code) (hn:fn.ntmps=k) (hm:Nat.ble (cs.length+1) k=true)
  (h:∀(l D:Nat) (R:PE),R.n=s∧R.σ=σ∧R.ps=ps∧R.assign=assign∧R.body=body->J c ⟨k,[]⟩ (tC 0 (sP l::cs)) (Lp l R .ready none::M.set i (Hw (D::Ds))) L (code.wpr none P (fG P fn (PG P ⟨s,FD Ds⟩ σ l D Q)))):
  J c ⟨s,FD Ds⟩ σ M L ((Code.rangeFunc g ps assign body).wpr none P Q):=HA hb hx hf hbd hn hm fun l D R hR=>
 jC (Jd (i+2) 1 (by omega) hi rfl) (h l D R hR)
theorem oE {fn:Func} {R:Ending->World->Prop} {ex:Exit} {i k:Nat} (hex:ex = .ret∨ex = .normal):∀{Ds:List Nat} {M:List aR},M[i]? = some (Hw Ds)->J c ⟨k,[]⟩ σ (M.set i (Hw [])) L (fG P fn R ex)->J c ⟨k,FD Ds⟩ σ M L (fG P fn R ex)
 | [], M, hi, h => by
  have:M.set i (Hw [])=M:=by
   apply List.ext_getElem?
   intro j
   by_cases e:i=j
   ·subst e
    rw[hi]
    simp[(List.getElem?_eq_some_iff.1 hi).1]
   ·simp[List.getElem?_set_ne e]
  rw[this]at h
  exact h
 | D :: Ds, M, hi, h => fun a w s t => by
  obtain⟨F,h1,h2⟩:=t.res hi
  have t':St c (M.set i (Hw Ds)) L (w.putObj D (.deferred none)):=by
   refine t.upd hi rfl rfl rfl (by simp) fun F hF _=>⟨fun k _ hk=> ?_,F,?_,fun _ h=> .inl h⟩
   ·exact World.putObj_heap_other (fun e=>hk (e▸(hF.2 D (by simp)).1))
   ·obtain⟨hn,hF⟩:=hF
    refine⟨(List.nodup_cons.1 hn).2,fun E hE=>⟨(hF E (by simp[hE])).1,?_⟩⟩
    rw[World.putObj_heap_other (fun e=>(List.nodup_cons.1 hn).1 (by subst e;exact hE))]
    exact(hF E (by simp[hE])).2
  refine NY hex s.defers (h2 D (by simp)).2 ?_
  have hi':(M.set i (Hw Ds))[i]? = some (Hw Ds):=by simp[(List.getElem?_eq_some_iff.1 hi).1]
  have:=oE hex hi' (by rw[List.set_set];exact h) {tmps:=a.tmps,defers:=FD Ds} _ ⟨rfl,s.size,s.slot⟩ t'
  rcases hex with rfl|rfl<;>exact this
def XK {A B:Type} (c:rC) (nI:A->B->Sz) (C:A->Prop) (σI:A->B->Fr) (MI LI:A->B->List aR) (a:Act) (w:World):Prop:=∃x y,C x∧BD (nI x y) (σI x y) a∧St c (MI x y) (LI x y) w
theorem KR {A B:Type} {x:Code} (nI:A->B->Sz) (C:A->Prop) (σI:A->B->Fr) (MI LI:A->B->List aR) (h1:J c n σ M L (x.wpr rd P (Exit.then (XK c nI C σI MI LI) Q))) (h2:∀a b,C a->J c (nI a b) (σI a b) (MI a b) (LI a b) K):
  J c n σ M L (x.wpr rd P (Exit.then K Q)):=fun a w s t=>CS (fun e a' w' q=>by
 cases e with
 |normal=>obtain⟨z,y,hC,hs,ht⟩:=q;exact h2 z y hC a' w' hs ht
 |exit id=>exact q
 |goto l=>exact q
 |ret=>exact q
 |panic ch=>exact q
 |outgrown=>exact q) (h1 a w s t)
theorem En {A B:Type} {nI:A->B->Sz} {C:A->Prop} {σI:A->B->Fr} {MI LI:A->B->List aR} (x:A) (y:B) (hn:n=nI x y) (hC:C x) (hs:uA σ (σI x y)) (hM:aW M (MI x y)) (hL:aD [] L (LI x y)):J c n σ M L (XK c nI C σI MI LI):=
 fun _ _ s t=>⟨x,y,hC,hn▸s.weak hs,t.weakE hM hL⟩
end
end
section
def Gb (b:Nat) (cs:List Value):aR where
 p w S:=S b∧∃T,w.heap[b]? = some (.cells cs.toArray T (0,0))
 mono:=fun⟨h1,T,h2⟩ h=>by
  obtain⟨h3,h4⟩:=h b h1 (Array.getElem?_eq_some_iff.1 h2).1
  exact⟨h3,T,by rw[h4];exact h2⟩
section
variable {P:Program} {c:rC} {n:Sz} {σ:Fr} {M L:List aR} {d:Option Tmp} {ty:TypeId} {pos:String} {aft:Array Edge} {g:Option (Nat×Bool)} {α:Type} {e:dH α}
theorem Jk [bW P] {T E:TypeId} {ki:IntKind} {k s1 s2 s3 s4:Nat} {z z':Value} {dE:TypeDesc} {x y:Operand} {b:Nat} {i:Int} (hx:ev σ x=some (.pointer (some ⟨b,0,none⟩))) (hy:ev σ y=some (.int ki i))
  (hT:bW.tab P T=some ⟨.array k E,s1,s2,z⟩) (hE:bW.tab P E=some ⟨dE,s3,s4,z'⟩) (h3:(s3==0)=false) (h:0<=i∧i<(k:Int)):
  Y P c n σ M L ⟨d,.indexAddr T x y,ty,pos,aft,g⟩ (.pointer (some ⟨b,i.toNat*s3,none⟩)):=fun a w s t=>by
 have hne:s3≠0:=by simpa using h3
 simp[execOp,s.eval hx,s.eval hy,Instr.indexAt,asIntOf,(bW.ok hT).run_und w,h,Instr.sureAddr,(bW.ok hE).run_size w,hne,cY]
theorem NT [bW P] [Inhabited α] {T:TypeId} {s2:Nat} {z:Value} {dT:TypeDesc} {x:Operand} {b k:Nat} {i:Int} {xs:List α} {u:Value} (hx:ev σ x=some (.pointer (some ⟨b,i.toNat*1,none⟩)))
  (hM:aC M L (Gb b (cellsOf e xs))) (hT:bW.tab P T=some ⟨dT,1,s2,z⟩) (hd:s_ dT=false) (hq:e.sz=1) (hu:(e.enc (at' xs i))=[u]) (h:(0<=i∧i<(k:Int))∧xs.length=k):
  Y P c n σ M L ⟨d,.load T x,ty,pos,aft,g⟩ u:=fun a w s t=>by
 obtain⟨F,hF1,T',hF2⟩:=hM.st t
 have hF:(bT b (cellsOf e xs) T').p w F:=⟨hF1,hF2⟩
 have hg:=rJ e xs i.toNat (at' xs i) (iW h.1.1 (by omega)) 0 u (by rw[hu];rfl)
 rw[hq,Nat.add_zero]at hg
 rw[Nat.mul_one]at hx hg
 simp[execOp,s.eval hx,tG (bW.ok hT) hd (bT.cell hF hg)]
end
end
end Go.Sx
end
section
namespace Go.Sx
section
variable {P:Program} {M L:List aR} {α β γ:Type} {r:dJ α} {s:dJ γ} {q:dJ β}
def dJ.Deep (r:dJ α) (q:dJ β) (f:α->Value×List β):Prop:=∀{w S es x},r.R w S es x->HE q w S (f x).1 (f x).2
theorem zW (q:dJ β):(dJ.sl q).Deep q (fun x=>x):=fun h=>h.2
theorem NR {f:α->Value×List β} (h:r.Deep q f):(r.pair s).Deep q (fun x=>f x.1):=by
 rintro w S es x ⟨c1,c2,rfl,h1,_⟩
 exact h h1
theorem AF {f:α->Value×List β} (h:r.Deep q f):(s.pair r).Deep q (fun x=>f x.2):=by
 rintro w S es x ⟨c1,c2,rfl,_,h1⟩
 exact h h1
theorem rI [Inhabited α] {v:Value} {xs:List α} {i:Int} {f:α->Value×List β} (h:aC M L (Sl r v xs)) (hd:r.Deep q f) (h0:0<=i) (h1:i<xs.length):aC M L (Sl q (f (at' xs i)).1 (f (at' xs i)).2):=h.mono fun {w U} hs=>by
 obtain⟨es,hr,_⟩:=sl_cell hs (iW h0 h1)
 exact hd hr
def Fa (s:ByteArray):List Int:=s.data.toList.map fun b=>(b.toNat:Int)
theorem yI [bW P] {c:rC} {n:Sz} {σ:Fr} {d:Option Tmp} {ty:TypeId} {pos:String} {aft:Array Edge} {g:Option (Nat×Bool)} {T:TypeId} {s1 s2:Nat} {z:Value} {x y:Operand} {s:ByteArray} {xs:List Int} {k:IntKind} {i:Int} (hx:ev σ x=some (.string s)) (hy:ev σ y=some (.int k i)) (hT:bW.tab P T=some ⟨.string,s1,s2,z⟩) (hb:Fa s=xs) (h:0<=i∧i<xs.length):
  Y P c n σ M L ⟨d,.index T x y,ty,pos,aft,g⟩ (.int .u8 (at' xs i)):=fun a w st t=>by
 subst hb
 obtain⟨h0,h1⟩:=h
 obtain⟨j,rfl⟩:∃j:Nat,i=(j:Int):=⟨i.toNat,by omega⟩
 have hl:j<s.data.toList.length:=by unfold Fa at h1;simp at h1 ⊢;omega
 have hj:j<s.size:=by have:=Lib.size_eq s;simp at hl;omega
 have hg:s[j]? = some (s.data.toList[j]):=by
  rw[getElem?_pos s j hj];rfl
 have ha:at' (Fa s) (j:Int)=((s.data.toList[j]).toNat:Int):=by
  unfold at' Fa
  simp[List.getD_eq_getElem?_getD,List.getElem?_eq_getElem hl]
 rw[ha]
 simp[execOp,st.eval hx,st.eval hy,Instr.index,asIntOf,(bW.ok hT).run_und w,hg]
theorem Lc [bW P] {c:rC} {n:Sz} {σ:Fr} {d:Option Tmp} {ty:TypeId} {pos:String} {aft:Array Edge} {g:Option (Nat×Bool)} {T E:TypeId} {s1 s2 s3 s4 m b:Nat} {z z':Value} {dE:TypeDesc} {x hi:Operand} {k:Int} (hx:ev σ x=some (.pointer (some ⟨b,0,none⟩))) (hhi:ev σ hi=some (.int .i64 k))
  (hT:bW.tab P T=some ⟨.array m E,s1,s2,z⟩) (hE:bW.tab P E=some ⟨dE,s3,s4,z'⟩) {q:Int} (h:0<=k∧k<=((m:Nat):Int)∧k<=q):Y P c n σ M L ⟨d,.slice T x none (some hi) none,ty,pos,aft,g⟩ (.slice (some ⟨b,0,none⟩) k.toNat m):=fun a w s t=>by
 have h1:0<=k∧k<=(m:Int):=⟨h.1,h.2.1⟩
 simp[execOp,s.eval hx,s.eval hhi,Instr.sliceAt,Instr.slice,(bW.ok hT).run_und w,Instr.sliceBounds,Instr.sliceBound,asIntOf,(bW.ok hE).run_size w,h1,asAddr,Addr.add,Instr.sureAddr]
theorem Pv {e:dH α} {i b T m:Nat} {k:Int} {xs:List α} (hM:M[i]? = some (bT b (cellsOf e xs) T)) (hfit:e.Fits r) (h:0<=k∧k<=((m:Nat):Int)∧k<=(xs.length:Int)) (hmax:m<=9223372036854775807):aC M L (Sl r (.slice (some ⟨b,0,none⟩) k.toNat m) (xs.take k.toNat)):=fun w S T U hL hM' hS hT=>by
 have hB:=hM' i _ hM
 have hl:(xs.take k.toNat).length=k.toNat:=by simp;omega
 refine⟨some ⟨b,0,none⟩,m,by rw[hl],by rw[hl];omega,.inr ⟨b,0,rfl,hT _ _ hB.1,fun j x hx=> ?_⟩⟩
 have hx':xs[j]? = some x:=by
  rw[List.getElem?_take]at hx
  split at hx
  ·exact hx
  ·cases hx
 obtain⟨hsz,he,hr,_⟩:=hfit
 refine⟨e.enc x,fun q u hu=> ?_,hr⟩
 have hc:=rJ e xs _ _ hx' _ _ hu
 rw[hsz,Nat.zero_add]
 exact bT.cell hB hc
def dJ.All (r:dJ α) (n:Nat) (g:α->List Value):Prop:=r.sz=n∧∀{w S es x},r.R w S es x->es=g x
theorem KY {e:dH α} (h:e.Fits r):r.All e.sz e.enc:=⟨h.1,h.2.1⟩
theorem KZ (q:dJ β):(dJ.sl q).All 1 (fun x=>[x.1]):=⟨rfl,fun h=>h.1⟩
theorem HD {n m:Nat} {f:α->List Value} {g:γ->List Value} (h:r.All n f) (k:s.All m g):(r.pair s).All (n+m) (fun x=>f x.1++g x.2):=⟨by show r.sz+s.sz=_;rw[h.1,k.1],by
 rintro w S es x ⟨c1,c2,rfl,h1,h2⟩
 rw[h.2 h1,k.2 h2]⟩
theorem La [bW P] [Inhabited α] {c:rC} {n:Sz} {σ:Fr} {d:Option Tmp} {ty:TypeId} {pos:String} {aft:Array Edge} {g:Option (Nat×Bool)} {T:TypeId} {s2 q m:Nat} {z:Value} {dT:TypeDesc} {x:Operand} {v:Value} {i:Int} {xs:List α} {cs:List Value} {f:α->List Value} (hx:ev σ x=some (AK v (i.toNat*q))) (hf:aC M L (Sl r v xs)) (hD:r.All m f) (hcs:f (at' xs i)=cs)
  (hT:bW.tab P T=some ⟨dT,cs.length,s2,z⟩) (hd:s_ dT=true) (hq:m=q) (h:0<=i∧i<xs.length):Y P c n σ M L ⟨d,.load T x,ty,pos,aft,g⟩ (.agg cs.toArray):=fun a w s t=>by
 obtain⟨h0,h1⟩:=h
 obtain⟨S,h⟩:=hf.st t
 obtain⟨es,hr,hes⟩:=sl_cell h (iW h0 h1)
 have:=hD.2 hr
 subst this hcs
 rw[hD.1,hq]at hes
 have:=wT (w:=w) (A:=Gl v (i.toNat*q)) (cs:=f (at' xs i)) (bW.ok hT) hd rfl (fun j u hu=>by rw[Et];exact hes j u hu)
 simp[execOp,s.eval hx,AK,this]
end
end Go.Sx
end
section
namespace Go.Sx
open Go.RowKit
section
section
variable {P:Program} {c:rC} {n:Sz} {σ:Fr} {M L:List aR} {d:Option Tmp} {ty:TypeId} {pos:String} {aft:Array Edge} {g:Option (Nat×Bool)}
def XN (v:Value) (m:Nat):Prop:=∃a cap,v = .slice a m cap∧(m=0∨∃b off,a=some ⟨b,off,none⟩)
theorem Know.len {α:Type} {r:dJ α} {v:Value} {xs:List α} (hf:aC M L (Sl r v xs)):∀c w,St c M L w->XN v xs.length:=fun c w t=>by
 obtain⟨S,a',cap,hv,_,h⟩:=hf.st t
 exact⟨a',cap,hv,h.imp (fun h=>by simp[h]) fun⟨b,off,e,_⟩=>⟨b,off,e⟩⟩
theorem Jl [bW P] {T E:TypeId} {s1 s2 s3 s4 m:Nat} {z z':Value} {dE:TypeDesc} {x y:Operand} {v:Value} {i:Int} (hx:ev σ x=some v) (hy:ev σ y=some (.int .i64 i)) (hv:XN v m)
  (hT:bW.tab P T=some ⟨.slice E,s1,s2,z⟩) (hE:bW.tab P E=some ⟨dE,s3,s4,z'⟩) (h:0<=i∧i<(m:Int)):Y P c n σ M L ⟨d,.indexAddr T x y,ty,pos,aft,g⟩ (AK v (i.toNat*s3)):=fun a w st t=>by
 obtain⟨a',cap,rfl,hv⟩:=hv
 obtain⟨h0,h1⟩:=h
 rcases hv with rfl|⟨b,off,rfl⟩
 ·omega
 ·simp[execOp,st.eval hx,st.eval hy,Dv w (bW.ok hT) rfl (bW.ok hE) b off _ cap i h0 h1]
theorem EP [bW P] (i:Nat) {T T':TypeId} {s2 m o b:Nat} {z:Value} {dT:TypeDesc} {x y:Operand} {cs cs' us:List Value} {u:Value} (hx:ev σ x=some (.pointer (some ⟨b,o,none⟩))) (hy:ev σ y=some u) (hu:u.cells=us.toArray) (hm:us.length=m)
  (h1:us.all one=true) (hM:M[i]? = some (bT b cs T')) (hT:bW.tab P T=some ⟨dT,m,s2,z⟩) (ho:Nat.ble (o+m) cs.length=true) (hcs:cs.take o++us++cs.drop (o+m)=cs'):
  aJ P c n σ M L ⟨none,.store T x y,ty,pos,aft,none⟩ (fun _:Unit=>undef) (fun _=>M.set i (bT b cs' T')) (fun _=>L):=fun a w s t=>by
 subst hm hcs
 obtain⟨F,hF⟩:=t.res hM
 have ho':o+us.length<=cs.length:=by simpa using ho
 have hst:=run_storeCells_at P b o T' us 0 cs.toArray w hF.2 (by simp;omega) (fun u hu=>mU (List.all_eq_true.1 h1 u hu))
 simp only[Nat.add_zero]at hst
 have hrun:(execOp a.eval ⟨none,.store T x y,ty,pos,aft,none⟩).run P w = .ok .skip (w.setRow b (cs.take o++us++cs.drop (o+us.length)).toArray):=by
  simp[execOp,s.eval hx,s.eval hy,Instr.storeAt,Instr.sureAddr,storeVar,hu,(bW.ok hT).run_size w,hst]
 simp only[Oper.wp,hrun,Oper.upon]
 exact⟨(),trivial,t.fill hM⟩
theorem FQ {α:Type} [Inhabited α] (l:List α) (k:Int) (h:k.toNat<l.length) (h0:0<=k):l.set k.toNat (at' l k)=l:=by
 have:=iW (xs:=l) h0 (by omega)
 refine List.ext_getElem? fun i=> ?_
 by_cases e:k.toNat=i
 ·subst e
  rw[List.getElem?_set_self h,this]
 ·rw[List.getElem?_set_ne e]
theorem zU [bW P] {α:Type} [Inhabited α] {e:dH α} (j:Nat) {T:TypeId} {s2 m o q:Nat} {z:Value} {dT:TypeDesc} {x y:Operand} {u:Value} {us:List Value} {i k:Int} {vs:List Value} {xss:List (List α)} (yv:α) (hk:0<=k∧k<xss.length) (h:0<=i∧i<(at' xss k).length) (hx:ev σ x=some (AK (at' vs k) (i.toNat*q+o))) (hy:ev σ y=some u)
  (hf:M[j]? = some (jW e vs xss)) (hq:e.sz=q) (hu:u.cells=us.toArray) (hm:us.length=m) (ho:Nat.ble (o+m) q=true) (hyv:e.enc yv=(e.enc (at' (at' xss k) i)).take o++us++(e.enc (at' (at' xss k) i)).drop (o+m)) (h1u:us.all one=true) (hT:bW.tab P T=some ⟨dT,m,s2,z⟩):
  aJ P c n σ M L ⟨none,.store T x y,ty,pos,aft,none⟩ (fun _:Unit=>undef) (fun _=>M.set j (jW e vs (xss.set k.toNat ((at' xss k).set i.toNat yv)))) (fun _=>L):=fun a w s t=>by
 have hl:=cJ j hf c w t
 have hj:j<M.length:=(List.getElem?_eq_some_iff.1 hf).1
 refine kL (fun a' w' ⟨x,he,ht⟩=>⟨x,he,?_⟩) (IR 0 yv h hx hy rfl hq hu hm ho hyv h1u hT a w s (Je j hf hk c w t))
 have hb:=Ja (j+1) 0 (u:=at' vs k) (k:=k) (vs:=vs) (xss:=xss) (ys:=(at' xss k).set i.toNat yv) (e:=e) rfl (by simp[hj]) rfl (by simpa using hk) c w' ht
 simp only[List.set_cons_zero,List.set_cons_succ,List.eraseIdx_cons_zero,List.set_set]at hb
 rw[FQ vs k (by omega) hk.1]at hb
 exact hb
end
theorem aW.ix {M M':List aR} (l:List Nat) (hn:decide l.Nodup=true) (h:l.map (fun i=>M[i]?)=M'.map some):aW M M':=by
 have hn:l.Nodup:=of_decide_eq_true hn
 have hl:l.length=M'.length:=by simpa using congrArg List.length h
 refine⟨fun i=>l.getD i 0,fun i j hi hj e=> ?_,fun i m hm=> ?_⟩
 ·have h1:i<l.length:=by omega
  have h2:j<l.length:=by omega
  simp only[List.getD_eq_getElem?_getD,List.getElem?_eq_getElem h1,List.getElem?_eq_getElem h2,Option.getD_some]at e
  exact(List.getElem_inj hn).1 e
 ·have hi:i<l.length:=by rw[hl];exact(List.getElem?_eq_some_iff.1 hm).1
  have:=congrArg (fun q=>q[i]?) h
  simp only[List.getElem?_map,List.getElem?_eq_getElem hi,hm,Option.map_some,Option.some.injEq]at this
  simpa [List.getD_eq_getElem?_getD,List.getElem?_eq_getElem hi]using this
def dH.fn:dH Nat:=⟨1,Nat.one_pos,fun f=>[.func (.func f) #[] #[]],fun _=>rfl⟩
def dJ.fn:dJ Nat:=⟨1,Nat.one_pos,fun _ _ cs x=>cs=[.func (.func x) #[] #[]],fun h=>by simp[h],fun h _=>h⟩
theorem II:dH.fn.Fits dJ.fn:=⟨rfl,fun h=>h,rfl,fun _=>rfl⟩
end
section
variable {P:Program} {rd:Option Nat} {c:rC} {n:Sz} {σ:Fr} {M L:List aR} {Q:Exit->Act->World->Prop} {ops:Array Oper} {rest:List Oper} {d:Nat} {ty:TypeId} {pos:String} {aft:Array Edge} {x y:Operand} {v:Value} {K:Act->World->Prop}
abbrev vS (x:ByteArray):Value:= .string x
abbrev vB (x:Bool):Value:= .bool x
theorem ckE {β:Type} {p G:Prop} {_:Decidable p} {u:Option β} {r:β} (h:ck p u=some r) (k:p->u=some r->G):G:=k (MH h).1 (MH h).2
theorem bnE {β γ:Type} {G:Prop} {u:Option β} {f:β->Option γ} {r:γ} (h:u.bind f=some r) (k:∀y,u=some y->f y=some r->G):G:=by
  obtain⟨y,h1,h2⟩:=bnd h
  exact k y h1 h2
theorem nY (l:List Nat) {L0:List aR} (h:l.map (L[·]?)=L0.map some):aD M L L0:=fun f hf=>by
  have hm:some f∈l.map (L[·]?):=h▸List.mem_map_of_mem hf
  obtain⟨j,_,hj⟩:=List.mem_map.1 hm
  exact aC.fact j hj
theorem uY.ix (l:List Nat) {L0:List aR} (h:l.map (L[·]?)=L0.map some):uY L L0:=fun f hf=>by
  have hm:some f∈l.map (L[·]?):=h▸List.mem_map_of_mem hf
  obtain⟨j,_,hj⟩:=List.mem_map.1 hm
  exact List.mem_of_getElem? hj
theorem qF {f:aR} (i:Nat) (h:L[i]? = some f):uY L [f]:=uY.cons (List.mem_of_getElem? h) uY.nil
/-- which of the early loads must still hold,with the numbers of what they have read -/
def Wc (A:Nat->Bool):List (List Nat×List Nat)->List (Nat×List aR×List aR)->List (List Nat×List Nat×List aR×List aR)
  |_,[]=>[]
  |q,(j,Mx,Lx)::B=>bif A j||(Mx.isEmpty&&Lx.isEmpty)then Wc A q B else((q.headD ([],[])).1,(q.headD ([],[])).2,Mx,Lx)::Wc A q.tail B
theorem vG {A:Nat->Bool} (q:List (List Nat×List Nat)) {B:List (Nat×List aR×List aR)} (h:(Wc A q B).map (fun z=>(decide z.1.Nodup,z.1.map (M[·]?),z.2.1.map (L[·]?)))=(Wc A q B).map (fun z=>(true,z.2.2.1.map some,z.2.2.2.map some))):wH A M L B:=by
  induction B generalizing q with
  |nil=>exact wH.z
  | cons b B ih =>
    obtain⟨j,Mx,Lx⟩:=b
    cases ha:A j with
    |true=>exact wH.b ha (ih q (by simpa [Wc,ha]using h))
    | false =>
      cases he:(Mx.isEmpty&&Lx.isEmpty)with
      | true =>
        obtain⟨e1,e2⟩:=Bool.and_eq_true_iff.1 he
        rw[List.isEmpty_iff]at e1 e2
        subst e1;subst e2
        exact wH.h aW.nil uY.nil (ih q (by simpa [Wc,ha]using h))
      | false =>
        simp only[Wc,ha,he,Bool.or_self,cond_false,List.map_cons,List.cons.injEq,Prod.mk.injEq]at h
        exact wH.h (aW.ix _ h.1.1 h.1.2.1) (uY.ix _ h.1.2.2) (ih q.tail h.2)
def YH (A:Nat->Bool):List (Nat×List aR×List aR)->Bool
  | []=>true
  |(j,_,_)::H=>bif A j then YH A H else false
theorem Ou {A:Nat->Bool} {Mx Lx:List aR} {H:List (Nat×List aR×List aR)} (h:YH A H=true):aO A Mx Lx H:=by
  induction H with
  |nil=>exact aO.z
  | cons b B ih =>
    obtain⟨j,_,_⟩:=b
    cases ha:A j with
    |false=>simp[YH,ha]at h
    |true=>exact aO.b ha (ih (by simpa [YH,ha]using h))
theorem hkN {A:Nat->Bool} {H:List (Nat×List aR×List aR)}:aO A [] [] H:=by
  induction H with
  |nil=>exact aO.z
  |cons b B ih=>exact aO.h aW.nil uY.nil ih
theorem qkPkT {T:Operand} (h:(ev σ T,ev σ x,Nat.blt d n.sz)=(some (.bool true),some v,true)) (k:J c n ((d,v)::σ) M L (wpList P ops Q rest)):J c n σ M L (wpList P ops Q (⟨some d,.pick T x y,ty,pos,aft,none⟩::rest)):=by
  simp only[Prod.mk.injEq]at h
  exact aB (Ml h.1 h.2.1) h.2.2 k
theorem qkPkF {T:Operand} (h:(ev σ T,ev σ y,Nat.blt d n.sz)=(some (.bool false),some v,true)) (k:J c n ((d,v)::σ) M L (wpList P ops Q rest)):J c n σ M L (wpList P ops Q (⟨some d,.pick T x y,ty,pos,aft,none⟩::rest)):=by
  simp only[Prod.mk.injEq]at h
  exact aB (Mk h.1 h.2.1) h.2.2 k
theorem qkExt {vs:List Value} {i:Nat} (h:(ev σ x,vs[i]?,Nat.blt d n.sz)=(some (.tuple vs.toArray),some v,true)) (k:J c n ((d,v)::σ) M L (wpList P ops Q rest)):J c n σ M L (wpList P ops Q (⟨some d,.extract x i,ty,pos,aft,none⟩::rest)):=by
  simp only[Prod.mk.injEq]at h
  exact aB (xN h.1 h.2.1) h.2.2 k
theorem qkNeq {t t':TypeId} {i:IntKind} {p q:Int} (h:(ev σ x,ev σ y,Nat.blt d n.sz)=(some (.int i p),some (.int i q),true)) (k:J c n ((d,.bool (decide (p≠q)))::σ) M L (wpList P ops Q rest)):J c n σ M L (wpList P ops Q (⟨some d,.binOp .neq t x y t',ty,pos,aft,none⟩::rest)):=by
  simp only[Prod.mk.injEq]at h
  exact aB (EU h.1 h.2.1) h.2.2 k
theorem qkAnd {t t':TypeId} {i:IntKind} {p q:Int} (h:(ev σ x,ev σ y,Nat.blt d n.sz)=(some (.int i p),some (.int i q),true)) (k:J c n ((d,.int i (cH i p q))::σ) M L (wpList P ops Q rest)):J c n σ M L (wpList P ops Q (⟨some d,.binOp .and t x y t',ty,pos,aft,none⟩::rest)):=by
  simp only[Prod.mk.injEq]at h
  exact aB (Ji h.1 h.2.1) h.2.2 k
theorem qkLen [bW P] {α:Type} {r:dJ α} {T E:TypeId} {s1 s2:Nat} {z:Value} {xs:List α} (hf:aC M L (Sl r v xs)) (h:(ev σ x,bW.tab P T,Nat.blt d n.sz)=(some v,some ⟨.slice E,s1,s2,z⟩,true)) (k:J c n ((d,.int .i64 xs.length)::σ) M L (wpList P ops Q rest)):J c n σ M L (wpList P ops Q (⟨some d,.call ⟨.builtin .len,#[x],#[T]⟩,ty,pos,aft,none⟩::rest)):=by
  simp only[Prod.mk.injEq]at h
  exact aB (jF h.1 hf h.2.1) h.2.2 k
variable {l:List Oper} {m:List Nat} {k0:Nat} {H Bs:List (Nat×List aR×List aR)} {rs:List Nat}
theorem jqN {i dd:Nat} {op:Op} (hi:l[i]? = some ⟨some dd,op,ty,pos,aft,none⟩) (hy:Y P c n σ [] [] ⟨some dd,op,ty,pos,aft,none⟩ v)
    (h:JR c n ((dd,v)::σ) M L H ((i,[],[])::Bs) (RW P l.toArray Q (before m) (cB l) k0 rs))
    (hk:Nat.blt i k0=true:=by exact rfl) (hl:cU op=false:=by exact rfl) (hd:Nat.blt dd n.sz=true:=by exact rfl):JR c n σ M L H Bs (RW P l.toArray Q (before m) (cB l) k0 (i::rs)):=bH hi aW.nil uY.nil hy hkN h hk hl hd
end
end Go.Sx
end
section
namespace Go.Sx
section
abbrev aL:=List Int
abbrev eM:=List (Int×Int)
abbrev bG:=List aL
abbrev dQ:=List eM
abbrev Dx:=(ByteArray×(List (ByteArray×Int×Int×Int×Int×Int))×(List (ByteArray×(Value×eM)×(Value×List (Int×(Value×eM))))))×((ByteArray×(List (ByteArray×Int×Int×Int×Int×Int))×(List (ByteArray×(Value×eM)×(Value×List (Int×(Value×eM))))))×(aL×dQ)×Int×bG)×dQ
abbrev vF:=ByteArray×(List (ByteArray×Int×Int×Int×Int×Int))×(List (ByteArray×(Value×eM)×(Value×List (Int×(Value×eM)))))
abbrev IB:=((ByteArray×(List (ByteArray×Int×Int×Int×Int×Int))×(List (ByteArray×(Value×eM)×(Value×List (Int×(Value×eM))))))×(aL×dQ)×Int×bG)×bG×Int×eM
abbrev zB:=((aL×aL×bG×(Int×Int×Int×Int×Int))×Int)
abbrev OU:=(ByteArray×(List (ByteArray×Int×Int×Int×Int×Int))×(List (ByteArray×(Value×eM)×(Value×List (Int×(Value×eM))))))×(aL×dQ)×Int×bG
abbrev mT:=List (Value×eM)
abbrev dN:=aL×dQ
abbrev UP:=(((ByteArray×(List (ByteArray×Int×Int×Int×Int×Int))×(List (ByteArray×(Value×eM)×(Value×List (Int×(Value×eM))))))×(aL×dQ)×Int×bG)×bG×Int×eM)
abbrev zR:=Int×aL×aL×aL×Bool×Bool
abbrev qK:=List (Value×aL)
abbrev c_:=(Int×Int)
abbrev Az:=ByteArray×Int×Int×Int×Int×Int
abbrev fP:=List Value
abbrev dM:=Int×Int
abbrev DZ:=List (ByteArray×Int×Int×Int×Int×Int)
abbrev pK:=((aL×dQ))
abbrev D_:=Int×(List ((Int×Int)×Int))
abbrev Bu:=Int×Int×Int×Int×Int
abbrev iO:=List Nat
abbrev Sd:=(ByteArray×List (ByteArray×Int×Int×Int×Int×Int)×List (eM×List (Int×eM)))
abbrev Kq:=aL×aL×bG×(Int×Int×Int×Int×Int)
abbrev Hl:=(Int×(List ((Int×Int)×Int)))
abbrev oU:=Int×aL
abbrev uT:=(Int×aL)
abbrev Kr:=List (eM×List (Int×eM))
abbrev Gf:=Value×List Value
end
section
abbrev kX:Value:=Value.slice none 0 0
abbrev Dz:List Value:=[kX,kX,kX,vI (0:Int),vI (0:Int),vI (0:Int),vI (0:Int),vU (0:Int)]
abbrev Vp:List Value:=[vI (0:Int),vI (0:Int),vI (0:Int),vI (0:Int),vU (0:Int)]
abbrev Xc:List Value:=[Value.pointer none,kX,vI (0:Int),vU (0:Int),Value.nilFunc]
abbrev Sp:List Value:=[vI (0:Int),vI (0:Int)]
abbrev vD4:List Value:=[vS (ByteArray.mk #[]),vI (0:Int),vI (0:Int),vI (0:Int),vI (0:Int),vI (0:Int)]
abbrev vD5:List Value:=[vU (0:Int),vI (0:Int),vI (0:Int),vI (0:Int),vB (false),kX]
end
end Go.Sx
end
section
namespace Go.Proofs.YtjlbcgddhnjcjaaGreatDoor
open Go.Sx
section
def SD:aL:=[0,1,1,2,1,2,2,3,1,2,2,3,2,3,3,4,1,2,2,3,2,3,3,4,2,3,3,4,3,4,4,5,1,2,2,3,2,3,3,4,2,3,3,4,3,4,4,5,2,3,3,4,3,4,4,5,3,4,4,5,4,5,5,6,1,2,2,3,2,3,3,4,2,3,3,4,3,4,4,5,2,3,3,4,3,4,4,5,3,4,4,5,4,5,5,6,2,3,3,4,3,4,4,5,3,4,4,5,4,5,5,6,3,4,4,5,4,5,5,6,4,5,5,6,5,6,6,7,1,2,2,3,2,3,3,4,2,3,3,4,3,4,4,5,2,3,3,4,3,4,4,5,3,4,4,5,4,5,5,6,2,3,3,4,3,4,4,5,3,4,4,5,4,5,5,6,3,4,4,5,4,5,5,6,4,5,5,6,5,6,6,7,2,3,3,4,3,4,4,5,3,4,4,5,4,5,5,6,3,4,4,5,4,5,5,6,4,5,5,6,5,6,6,7,3,4,4,5,4,5,5,6,4,5,5,6,5,6,6,7,4,5,5,6,5,6,6,7,5,6,6,7,6,7,7,8]
theorem HQ:Fa (ByteArray.mk #[0,1,1,2,1,2,2,3,1,2,2,3,2,3,3,4,1,2,2,3,2,3,3,4,2,3,3,4,3,4,4,5,1,2,2,3,2,3,3,4,2,3,3,4,3,4,4,5,2,3,3,4,3,4,4,5,3,4,4,5,4,5,5,6,1,2,2,3,2,3,3,4,2,3,3,4,3,4,4,5,2,3,3,4,3,4,4,5,3,4,4,5,4,5,5,6,2,3,3,4,3,4,4,5,3,4,4,5,4,5,5,6,3,4,4,5,4,5,5,6,4,5,5,6,5,6,6,7,1,2,2,3,2,3,3,4,2,3,3,4,3,4,4,5,2,3,3,4,3,4,4,5,3,4,4,5,4,5,5,6,2,3,3,4,3,4,4,5,3,4,4,5,4,5,5,6,3,4,4,5,4,5,5,6,4,5,5,6,5,6,6,7,2,3,3,4,3,4,4,5,3,4,4,5,4,5,5,6,3,4,4,5,4,5,5,6,4,5,5,6,5,6,6,7,3,4,4,5,4,5,5,6,4,5,5,6,5,6,6,7,4,5,5,6,5,6,6,7,5,6,6,7,6,7,7,8])=SD:=by kernel_rfl
def rU:aL:=[0,1,28,2,29,14,24,3,30,22,20,15,25,17,4,8,31,27,13,23,21,19,16,7,26,12,18,6,11,5,10,9]
theorem _root_.Go.Sx.Y.bld5 {P:Program} {c:rC} {n:Sz} {σ:Fr} {M L:List aR} {d:Option Tmp} {ty:TypeId} {pos:String} {aft:Array Edge} {g:Option (Nat×Bool)} {T:TypeId} {i0 i1 i2 i3 i4:Nat} {x0 x1 x2 x3 x4:Operand} {v0 v1 v2 v3 v4:Value} {r:Value} (h0:ev σ x0=some v0) (h1:ev σ x1=some v1) (h2:ev σ x2=some v2) (h3:ev σ x3=some v3) (h4:ev σ x4=some v4) (hr:∀w,(Instr.build T ([(i0,v0),(i1,v1),(i2,v2),(i3,v3),(i4,v4)]:List (Nat×Value)).toArray).run P w = .ok r w):Y P c n σ M L ⟨d,.build T #[(i0,x0),(i1,x1),(i2,x2),(i3,x3),(i4,x4)],ty,pos,aft,g⟩ r:=
 sZ (ps:=[(i0,x0),(i1,x1),(i2,x2),(i3,x3),(i4,x4)]) (vs:=[(i0,v0),(i1,v1),(i2,v2),(i3,v3),(i4,v4)]) (by simp[h0,h1,h2,h3,h4]) hr
theorem _root_.Go.Sx.Y.bld6 {P:Program} {c:rC} {n:Sz} {σ:Fr} {M L:List aR} {d:Option Tmp} {ty:TypeId} {pos:String} {aft:Array Edge} {g:Option (Nat×Bool)} {T:TypeId} {i0 i1 i2 i3 i4 i5:Nat} {x0 x1 x2 x3 x4 x5:Operand} {v0 v1 v2 v3 v4 v5:Value} {r:Value} (h0:ev σ x0=some v0) (h1:ev σ x1=some v1) (h2:ev σ x2=some v2) (h3:ev σ x3=some v3) (h4:ev σ x4=some v4) (h5:ev σ x5=some v5) (hr:∀w,(Instr.build T ([(i0,v0),(i1,v1),(i2,v2),(i3,v3),(i4,v4),(i5,v5)]:List (Nat×Value)).toArray).run P w = .ok r w):Y P c n σ M L ⟨d,.build T #[(i0,x0),(i1,x1),(i2,x2),(i3,x3),(i4,x4),(i5,x5)],ty,pos,aft,g⟩ r:=
 sZ (ps:=[(i0,x0),(i1,x1),(i2,x2),(i3,x3),(i4,x4),(i5,x5)]) (vs:=[(i0,v0),(i1,v1),(i2,v2),(i3,v3),(i4,v4),(i5,v5)]) (by simp[h0,h1,h2,h3,h4,h5]) hr
abbrev ESt:dH ByteArray:=⟨1,Nat.one_pos,fun x=>[.string x],fun _=>rfl⟩
abbrev YQ:dJ ByteArray:=⟨1,Nat.one_pos,fun _ _ cs x=>cs=[.string x],fun h=>by simp[h],fun h _=>h⟩
theorem FSt:ESt.Fits YQ:=⟨rfl,fun h=>h,rfl,fun _=>rfl⟩
abbrev bV:dH Int:=dH.int .i64
abbrev bK:dJ Int:=dJ.int .i64
theorem cW:bV.Fits bK:=BX .i64
theorem eI:bK.Cell 0 (fun x=> .int .i64 x):=Cb .i64
abbrev pL:dH (ByteArray×Int×Int×Int×Int×Int):=dH.pair ESt (dH.pair bV (dH.pair bV (dH.pair bV (dH.pair bV (bV)))))
abbrev aI:dJ (ByteArray×Int×Int×Int×Int×Int):=dJ.pair YQ (dJ.pair bK (dJ.pair bK (dJ.pair bK (dJ.pair bK (bK)))))
theorem pN:pL.Fits aI:=lM FSt (lM cW (lM cW (lM cW (lM cW (cW)))))
theorem sS:aI.Cell 1 (fun x=> .int .i64 x.2.1):=bX (mC (eI))
theorem zJ:aI.Cell 2 (fun x=> .int .i64 x.2.2.1):=bX (bX (mC (eI)))
theorem zK:aI.Cell 3 (fun x=> .int .i64 x.2.2.2.1):=bX (bX (bX (mC (eI))))
theorem zL:aI.Cell 4 (fun x=> .int .i64 x.2.2.2.2.1):=bX (bX (bX (bX (mC (eI)))))
theorem zM:aI.Cell 5 (fun x=> .int .i64 x.2.2.2.2.2):=bX (bX (bX (bX (bX (eI)))))
abbrev bR:dH c_:=dH.pair bV (bV)
abbrev aZ:dJ c_:=dJ.pair bK (bK)
theorem bI:bR.Fits aZ:=lM cW (cW)
theorem yE:aZ.Cell 0 (fun x=> .int .i64 x.1):=mC (eI)
theorem KW:aZ.Cell 1 (fun x=> .int .i64 x.2):=bX (eI)
abbrev nQ:dJ (Int×(Value×eM)):=dJ.pair bK ((dJ.sl aZ))
theorem Gm:nQ.All 2 (fun x=>[Value.int .i64 (x.1),x.2.1]):=(HD (KY cW) (KZ aZ))
theorem zE:nQ.Deep aZ (fun x=>x.2):=AF (zW aZ)
abbrev aE:dJ (ByteArray×(Value×eM)×(Value×List (Int×(Value×eM)))):=dJ.pair YQ (dJ.pair (dJ.sl aZ) ((dJ.sl nQ)))
theorem uV:aE.Cell 1 (fun x=>x.2.1.1):=bX (mC (dJ.sl_cell aZ))
theorem uX:aE.Deep aZ (fun x=>x.2.1):=AF (NR (zW aZ))
theorem uW:aE.Cell 2 (fun x=>x.2.2.1):=bX (bX (dJ.sl_cell nQ))
theorem eO:aE.Deep nQ (fun x=>x.2.2):=AF (AF (zW nQ))
abbrev mS:dH Int:=dH.int .u32
abbrev sW:dJ Int:=dJ.int .u32
theorem l_:mS.Fits sW:=BX .u32
theorem zV:sW.Cell 0 (fun x=> .int .u32 x):=Cb .u32
abbrev XI:dH Bool:=dH.bool
abbrev EFn:dH Nat:=dH.fn
abbrev RFn:dJ Nat:=dJ.fn
theorem FFn:EFn.Fits RFn:=II
abbrev Ek:dH (Int×Nat):=dH.pair bV (EFn)
abbrev SX:dJ (Int×Nat):=dJ.pair bK (RFn)
theorem wL:Ek.Fits SX:=lM cW (FFn)
abbrev CX:dH Int:=dH.int .u8
def Kv (x:Int):Value:=Value.int .i64 (x)
def kM (x:dM):Value:=Value.agg #[Value.int .i64 (x.1),Value.int .i64 (x.2)]
theorem Ra (x y:dM) (m:Nat) (w:World):(Op.equalIn (m+2) 114 (.agg #[.int .i64 x.1,.int .i64 x.2]) (.agg #[.int .i64 y.1,.int .i64 y.2])).run Tryz.prog w = .ok (decide (x=y)) w:=by
 have h3:∀a b:Int,(Op.equalIn (m+1) 3 (.int .i64 a) (.int .i64 b)).run Tryz.prog w = .ok (a==b) w:=by
  intro a b
  simp[Op.equalIn]
 unfold Op.equalIn
 simp[show List.range' 0 2=[0,1]from rfl,part,isAgg,h3]
 obtain⟨a0,a1⟩:=x
 obtain⟨c0,c1⟩:=y
 by_cases e0:a0=c0<;>by_cases e1:a1=c1<;>simp[e0,e1,h3]
theorem Qk (b:Bool) (k:dM) (w:World):(Instr.checkKey b 10000 114 (kM k)).run Tryz.prog w = .ok () w:=by
 have key:∀m:Nat,(Instr.checkKey b (m+2) 114 (kM k)).run Tryz.prog w = .ok () w:=by
  intro m
  simp[Instr.checkKey,kM,part,isAgg,show List.range' 0 2=[0,1]from rfl]
 exact key 9998
theorem Ib:EN Tryz.prog 114 kM:=KS Tryz.underlying114 Qk (fun _ _=>rfl) (fun a b w=>Ra a b 9998 w) (fun k=>by
 have key:∀m:Nat,Instr.sameBits (m+2) (kM k) (kM k)=true:=fun m=>by simp[Instr.sameBits,kM]
 exact key 9998)
theorem nG (u0:Value) (h0:one u0=true) (init:Array Value) (h:init.size=1*1):Instr.fill (fun i=>some (i*1,1)) init [(0,u0)]=some [u0].toArray:=by
 obtain⟨l⟩:=init
 match l,h with
 | [z0],_=>simp[Instr.fill,iN h0]
theorem uC (u0 u1:Value) (init:Array Value) (h:init.size=1*2):Instr.fill (fun i=>some (i*2,2)) init [(0,.agg #[u0,u1])]=some [u0,u1].toArray:=by
 obtain⟨l⟩:=init
 match l,h with
 | [z0,z1],_=>simp[Instr.fill,Value.cells]
theorem QI (u0 u1 u2 u3 u4 u5:Value) (init:Array Value) (h:init.size=1*6):Instr.fill (fun i=>some (i*6,6)) init [(0,.agg #[u0,u1,u2,u3,u4,u5])]=some [u0,u1,u2,u3,u4,u5].toArray:=by
 obtain⟨l⟩:=init
 match l,h with
 | [z0,z1,z2,z3,z4,z5],_=>simp[Instr.fill,Value.cells]
theorem QJ (u0 u1:Value) (h0:one u0=true) (h1:one u1=true) (init:Array Value) (h:init.size=2*1):Instr.fill (fun i=>some (i*1,1)) init [(0,u0),(1,u1)]=some [u0,u1].toArray:=by
 obtain⟨l⟩:=init
 match l,h with
 | [z0,z1],_=>simp[Instr.fill,iN h0,iN h1]
theorem QK (u0 u1 u2 u3 u4 u5:Value) (init:Array Value) (h:init.size=3*2):Instr.fill (fun i=>some (i*2,2)) init [(0,.agg #[u0,u1]),(1,.agg #[u2,u3]),(2,.agg #[u4,u5])]=some [u0,u1,u2,u3,u4,u5].toArray:=by
 obtain⟨l⟩:=init
 match l,h with
 | [z0,z1,z2,z3,z4,z5],_=>simp[Instr.fill,Value.cells]
end
section
def tW (p0:Int) (a2:Bool):Option (Int):=
 if a2=true then(some (-1:Int))else(if p0<=(17:Int)then(some (0:Int))else(if p0<=(29:Int)then(some (1:Int))else(if p0<=(42:Int)then(some (2:Int))else(some (3:Int)))))
def sI (U:Nat) (p0:Int):Option (Int):=
 if p0<(1:Int)then(tW p0 (true))else(tW p0 (decide ((43:Int)<p0)))
theorem TK:aN Tryz.prog 217:=Tryz.call217
theorem Iz (U:Nat) {p0:Int} (r:Int) (h:sI U p0=some r):
  aT Tryz.prog 217 #[vI (p0)] [] (fun x:Unit=>vI (r)) (fun x l=>l) (fun _ l=>l):=by
 refine aT.of Tryz.func217 rfl Tryz.ntmps217 rfl fun c=>?_
 refine sqR<|qkAsg rfl<|dtN<|aH<|aM<|aH<|midU (fun a2=>tW p0 a2=some r) (fun a2 b3=>[(0,vI (p0)),(3,vB (a2))]) (fun a2 b3=>[]) ?_ ?_
 ·refine aK<|qkMove rfl<|qkLss rfl<|qkMove rfl ?_
  refine Bi h rfl (fun _ h=>?_) fun _ h=>?_
  ·refine gdSkip rfl<|gdSkip rfl<|qkPkT rfl<|qkAsg rfl<|dtN ?_
   exact iG (true) () h SF rfl
  refine gyMove rfl<|aS rfl (vM rfl rfl) rfl<|qkPkF rfl<|qkAsg rfl<|dtN ?_
  exact iG (decide ((43:Int)<p0)) () h SF rfl
 intro a2 b3 h
 refine Ab h rfl (fun _ h=>?_) fun _ h=>?_
 ·refine sqR<|qkAsg rfl<|dtN<|aP<|bJ<|aG ?_
  cases h
  exact kW rfl
 refine sqR<|qkMove rfl<|aB (wN rfl rfl) rfl<|qkAsg rfl<|dtN ?_
 refine eN h rfl (fun h=>?_) fun h=>?_
 ·refine sqR<|qkAsg rfl<|dtN<|aP<|bJ<|aG ?_
  cases h
  exact kW rfl
 refine sqR<|qkMove rfl<|aB (wN rfl rfl) rfl<|qkAsg rfl<|dtN ?_
 refine eN h rfl (fun h=>?_) fun h=>?_
 ·refine sqR<|qkAsg rfl<|dtN<|aP<|bJ<|aG ?_
  cases h
  exact kW rfl
 refine sqR<|qkMove rfl<|aB (wN rfl rfl) rfl<|qkAsg rfl<|dtN ?_
 refine eN h rfl (fun h=>?_) fun h=>?_
 ·refine sqR<|qkAsg rfl<|dtN<|aP<|bJ<|aG ?_
  cases h
  exact kW rfl
 refine dO<|inT<|sqR<|qkAsg rfl<|dtN<|aP ?_
 cases h
 exact kW rfl
end
section
def Ay  (a5:Unit):Option (Int):=
 some (-1:Int)
def jA (U:Nat) (p0:eM) (a10:dM) (ag9:c_->Option (Int)):Option (Int):=
 if a10.1<(List.length p0:Int)then(ck (0<=a10.1∧a10.1<(List.length p0:Int)) (Option.bind (sI U ((at' p0 a10.1).1)) fun r15=>(if r15<(0:Int)then(some (-1:Int))else(if(wI .i64 (a10.2+(wI .i64 (r15 - (1:Int)))))=(0:Int)then(some (wI .i64 (a10.1+(1:Int))))else(ag9 ((wI .i64 (a10.1+(1:Int))),(wI .i64 (a10.2+(wI .i64 (r15 - (1:Int)))))))))))else(Ay  (()))
def wU (U:Nat) (p0:eM) (p1:Int) (a2:Bool):Option (Int):=
 if a2=true then(some (-1:Int))else(bD (jA U p0) U (p1,(1:Int)))
def yU (U:Nat) (p0:eM) (p1:Int):Option (Int):=
 if p1<(0:Int)then(wU U p0 p1 (true))else(wU U p0 p1 (decide ((List.length p0:Int)<=p1)))
theorem TJ:aN Tryz.prog 199:=Tryz.call199
theorem LX (U:Nat) {p0:eM} {p1:Int} (v0:Value) (r:Int) (h:yU U p0 p1=some r):
  aT Tryz.prog 199 #[v0,vI (p1)] [Sl aZ v0 p0] (fun x:Unit=>vI (r)) (fun x l=>l) (fun _ l=>l):=by
 refine aT.of Tryz.func199 rfl Tryz.ntmps199 rfl fun c=>?_
 refine sqR<|qkAsg rfl<|dtN<|aH<|aH<|midU (fun a2=>wU U p0 p1 a2=some r) (fun a2 b3=>[(0,v0),(1,vI (p1)),(14,vB (a2))]) (fun a2 b3=>[]) ?_ ?_
 ·refine aK<|qkMove rfl<|qkLss rfl<|qkMove rfl ?_
  refine Bi h rfl (fun _ h=>?_) fun _ h=>?_
  ·refine gdSkip rfl<|gdSkip rfl<|gdSkip rfl<|gdSkip rfl<|qkPkT rfl<|dtN ?_
   exact iG (true) () h SF rfl
  refine gyMove rfl<|gyMove rfl<|aS rfl (jF rfl (aC.fact 0 rfl) rfl) rfl<|aS rfl (Bf rfl rfl) rfl<|qkPkF rfl<|dtN ?_
  exact iG (decide ((List.length p0:Int)<=p1)) () h SF rfl
 intro a2 b3 h
 refine Ab h rfl (fun _ h=>?_) fun _ h=>?_
 ·refine sqR<|qkAsg rfl<|dtN<|aP<|aG ?_
  cases h
  exact kW rfl
 refine cF<|aH<|midU (fun a5=>Ay  a5=some r) (fun a5 b6=>[]) (fun a5 b6=>[]) ?_ ?_
 ·refine sqR<|qkAsg rfl<|dtN<|aM<|loopL (jA U p0) (fun a10 b11=>[(0,v0),(1,vI (a10.1)),(5,vI (a10.2))]) (fun a10 b11=>[]) (p1,(1:Int)) () h SF (aW.refl _) ?_
  intro k12 a10 b11 h
  refine aH<|sqR<|qkMove rfl<|qkMove rfl<|qkLen (aC.fact 0 rfl) rfl<|qkLss rfl<|dtN ?_
  refine eN h rfl (fun h=>?_) fun h=>?_
  ·refine cF<|aH<|aM<|sqR<|qkMove rfl<|qkMove rfl<|ckE h fun j14 h=>aB (aY rfl rfl (aC.fact 0 rfl) rfl rfl j14) rfl<|aB (mD rfl rfl rfl rfl rfl) rfl<|aB (nZ rfl (aC.fact 0 rfl) rfl rfl rfl yE j14) rfl<|bnE h fun r15 w16 h=>aF (aJ.callQ TK (Iz U  r15 w16) rfl .nil) rfl fun x17=>qkAsg rfl<|dtN<|aH<|sqR<|qkMove rfl<|qkLss rfl<|dtN ?_
   refine eN h rfl (fun h=>?_) fun h=>?_
   ·refine sqR<|qkAsg rfl<|dtN<|aP<|aG<|bJ<|aG<|aG<|bJ<|aG ?_
    cases h
    exact kW rfl
   refine cF<|sqR<|qkMove rfl<|qkMove rfl<|aB (nW rfl rfl) rfl<|qkAdd rfl<|qkAsg rfl<|dtN<|sqR<|qkMove rfl<|qkEql rfl<|dtN ?_
   refine eN h rfl (fun h=>?_) fun h=>?_
   ·refine sqR<|qkMove rfl<|qkAdd rfl<|qkAsg rfl<|dtN<|aP<|bJ<|aG<|aG<|bJ<|aG ?_
    cases h
    exact kW rfl
   refine dO<|inT<|aK<|qkMove rfl<|qkAdd rfl<|qkAsg rfl<|dtN ?_
   exact xO ((wI .i64 (a10.1+(1:Int))),(wI .i64 (a10.2+(wI .i64 (r15 - (1:Int)))))) () h SF rfl
  refine fL ?_
  exact iG () (()) h SF rfl
 intro a5 b6 h
 unfold Ay at h
 refine sqR<|qkAsg rfl<|dtN<|aP ?_
 cases h
 exact kW rfl
end
section
def fT (U:Nat) (p0:Bool):Option (Int):=
 if p0=true then(some (1:Int))else(some (0:Int))
theorem tI:aN Tryz.prog 256:=Tryz.call256
theorem iS (U:Nat) {p0:Bool} (r:Int) (h:fT U p0=some r):
  aT Tryz.prog 256 #[vB (p0)] [] (fun x:Unit=>vI (r)) (fun x l=>l) (fun _ l=>l):=by
 refine aT.of Tryz.func256 rfl Tryz.ntmps256 rfl fun c=>?_
 refine sqR<|qkAsg rfl<|dtN<|aH<|sqR<|qkMove rfl<|dtN ?_
 refine Ab h rfl (fun _ h=>?_) fun _ h=>?_
 ·refine sqR<|qkAsg rfl<|dtN<|aP<|aG ?_
  cases h
  exact kW rfl
 refine cF<|sqR<|qkAsg rfl<|dtN<|aP ?_
 cases h
 exact kW rfl
end
section
def oO (U:Nat) (p0:OU) (p1:Int) (p2:Int) (p3:Int):Option (Int):=
 if p1=(6:Int)then(some (List.length p0.2.1.1:Int))else(if p1=(7:Int)then(some (p0.2.2.1))else(if p1=(8:Int)then(ck (0<=p2∧p2<(List.length p0.2.1.1:Int)) (some (at' p0.2.1.1 p2)))else(if p1=(9:Int)then(ck (0<=p2∧p2<(List.length p0.2.1.2:Int)) (some (List.length (at' p0.2.1.2 p2):Int)))else(if p1=(10:Int)then(Option.bind (fT U (decide (p2=(0:Int)))) fun r8=>(some (r8)))else(if p1=(11:Int)then(some (p3))else(ck (0<=p2∧p2<(List.length p0.2.1.2:Int)) (ck (0<=p3∧p3<(List.length (at' p0.2.1.2 p2):Int)) (if p1=(13:Int)then(ck (0<=((at' (at' p0.2.1.2 p2) p3).1)∧((at' (at' p0.2.1.2 p2) p3).1)<(List.length p0.2.1.1:Int)) (some (at' p0.2.1.1 ((at' (at' p0.2.1.2 p2) p3).1))))else(if p1=(14:Int)then(ck (0<=((at' (at' p0.2.1.2 p2) p3).1)∧((at' (at' p0.2.1.2 p2) p3).1)<(List.length p0.2.1.2:Int)) (some (List.length (at' p0.2.1.2 ((at' (at' p0.2.1.2 p2) p3).1)):Int)))else(if p1=(15:Int)then(Option.bind (fT U (decide (((at' (at' p0.2.1.2 p2) p3).1)=(0:Int)))) fun r20=>(some (r20)))else(if p1=(16:Int)then(some ((at' (at' p0.2.1.2 p2) p3).2))else(ck (0<=p2∧p2<(List.length p0.2.2.2:Int)) (ck (0<=p3∧p3<(List.length (at' p0.2.2.2 p2):Int)) (some (at' (at' p0.2.2.2 p2) p3)))))))))))))))
theorem TO:aN Tryz.prog 255:=Tryz.call255
theorem Ao (U:Nat) {p0:OU} {p1:Int} {p2:Int} {p3:Int} (bx0:Nat)  (v1:Value)  (v2:Value)  (v3:Value)  (v4:Value)  (z5:mT)  (v6:Value)  (z7:qK) (r:Int) (h:oO U p0 p1 p2 p3=some r):
  aT Tryz.prog 255 #[vP bx0,vI (p1),vI (p2),vI (p3)] [bT bx0 [vS (p0.1.1),v1,v2,v3,v4,vI (p0.2.2.1),v6] 218,Sl aI v1 p0.1.2.1,Sl aE v2 p0.1.2.2,Sl bK v3 p0.2.1.1,S2 aZ v4 z5 p0.2.1.2,S2 bK v6 z7 p0.2.2.2] (fun x:Unit=>vI (r)) (fun x l=>l) (fun _ l=>l):=by
 refine aT.of Tryz.func255 rfl Tryz.ntmps255 rfl fun c=>?_
 refine sqR<|qkAsg rfl<|dtN<|aH<|sqR<|qkMove rfl<|dtN<|aM<|sqR<|qkEql rfl<|qkAsg rfl<|dtN ?_
 refine eN h rfl (fun h=>?_) fun h=>?_
 ·refine sqR<|qkMove rfl<|aB (bL rfl) rfl<|qkFld rfl<|qkFld rfl<|aB (cQ rfl (aC.fact 0 rfl) rfl rfl rfl) rfl<|qkLen (aC.fact 3 rfl) rfl<|qkAsg rfl<|dtN<|aP<|bJ<|aG ?_
  cases h
  exact kW rfl
 refine sqR<|qkEql rfl<|qkAsg rfl<|dtN ?_
 refine eN h rfl (fun h=>?_) fun h=>?_
 ·refine sqR<|qkMove rfl<|aB (bL rfl) rfl<|qkFld rfl<|aB (cQ rfl (aC.fact 0 rfl) rfl rfl rfl) rfl<|qkAsg rfl<|dtN<|aP<|bJ<|aG ?_
  cases h
  exact kW rfl
 refine sqR<|qkEql rfl<|qkAsg rfl<|dtN ?_
 refine eN h rfl (fun h=>?_) fun h=>?_
 ·refine sqR<|qkMove rfl<|aB (bL rfl) rfl<|qkFld rfl<|qkFld rfl<|aB (cQ rfl (aC.fact 0 rfl) rfl rfl rfl) rfl<|qkMove rfl<|ckE h fun j4 h=>aB (aY rfl rfl (aC.fact 3 rfl) rfl rfl j4) rfl<|aB (bY rfl (aC.fact 3 rfl) rfl rfl rfl eI j4) rfl<|qkAsg rfl<|dtN<|aP<|bJ<|aG ?_
  cases h
  exact kW rfl
 refine sqR<|qkEql rfl<|qkAsg rfl<|dtN ?_
 refine eN h rfl (fun h=>?_) fun h=>?_
 ·refine sqR<|qkMove rfl<|aB (bL rfl) rfl<|qkFld rfl<|qkFld rfl<|aB (cQ rfl (aC.fact 0 rfl) rfl rfl rfl) rfl<|qkMove rfl<|ckE h fun j6 h=>aB (dL rfl rfl (aC.fact 4 rfl) rfl rfl j6) rfl<|aB (dW rfl (aC.fact 4 rfl) rfl rfl j6) rfl<|aB (jF rfl (aC.el (aC.fact 4 rfl) j6.1 j6.2) rfl) rfl<|qkAsg rfl<|dtN<|aP<|bJ<|aG ?_
  cases h
  exact kW rfl
 refine sqR<|qkEql rfl<|qkAsg rfl<|dtN ?_
 refine eN h rfl (fun h=>?_) fun h=>?_
 ·refine sqR<|qkMove rfl<|qkEql rfl<|bnE h fun r8 w9 h=>aF (aJ.callQ tI (iS U  r8 w9) rfl .nil) rfl fun x10=>qkAsg rfl<|dtN<|aP<|bJ<|aG ?_
  cases h
  exact kW rfl
 refine sqR<|qkEql rfl<|qkAsg rfl<|dtN ?_
 refine eN h rfl (fun h=>?_) fun h=>?_
 ·refine sqR<|qkMove rfl<|qkAsg rfl<|dtN<|aP<|bJ<|aG ?_
  cases h
  exact kW rfl
 refine dO<|inT<|sqR<|qkMove rfl<|aB (bL rfl) rfl<|qkFld rfl<|qkFld rfl<|aB (cQ rfl (aC.fact 0 rfl) rfl rfl rfl) rfl<|qkMove rfl<|ckE h fun j12 h=>aB (dL rfl rfl (aC.fact 4 rfl) rfl rfl j12) rfl<|aB (dW rfl (aC.fact 4 rfl) rfl rfl j12) rfl<|qkMove rfl<|ckE h fun j13 h=>aB (aY rfl rfl (aC.el (aC.fact 4 rfl) j12.1 j12.2) rfl rfl j13) rfl<|aB (iJ (cs:=[vI ((at' (at' p0.2.1.2 p2) p3).1),vI ((at' (at' p0.2.1.2 p2) p3).2)]) rfl (aC.el (aC.fact 4 rfl) j12.1 j12.2) bI rfl rfl rfl rfl j13) rfl<|aF (aJ.alloc (cs:=Sp) rfl rfl) rfl fun b14=>bB 0 (vs:=[vI ((at' (at' p0.2.1.2 p2) p3).1),vI ((at' (at' p0.2.1.2 p2) p3).2)]) rfl rfl rfl rfl rfl rfl<|dtN<|aH<|sqR<|qkMove rfl<|dtN<|aM<|sqR<|qkEql rfl<|qkAsg rfl<|dtN ?_
 refine eN h rfl (fun h=>?_) fun h=>?_
 ·refine aH ?_
  refine JR.start [0,1,3,7,15,0,32,127,255,511] 7 mixedOrders (by decide +kernel) ?_
  refine JR.open (by exact rfl) ?_
  refine jkMove rfl<|jqN rfl (bL rfl)<|jkFld rfl<|jkFld rfl<|bH rfl .nil (qF 0 rfl) (cQ rfl (aC.fact 0 rfl) rfl rfl rfl) aO.z<|jkFld rfl<|jkLd 0 rfl<|bS 7 rfl rfl<|ckE h fun j16 h=>aB (aY rfl rfl (aC.fact 3 rfl) rfl rfl j16) rfl<|aB (bY rfl (aC.fact 3 rfl) rfl rfl rfl eI j16) rfl<|qkAsg rfl<|dtN<|aP<|bJ<|aG ?_
  cases h
  exact wG rfl
 refine sqR<|qkEql rfl<|qkAsg rfl<|dtN ?_
 refine eN h rfl (fun h=>?_) fun h=>?_
 ·refine aH ?_
  refine JR.start [0,1,3,7,15,0,32,127,255,511,1023] 7 mixedOrders (by decide +kernel) ?_
  refine JR.open (by exact rfl) ?_
  refine jkMove rfl<|jqN rfl (bL rfl)<|jkFld rfl<|jkFld rfl<|bH rfl .nil (qF 0 rfl) (cQ rfl (aC.fact 0 rfl) rfl rfl rfl) aO.z<|jkFld rfl<|jkLd 0 rfl<|bS 7 rfl rfl<|ckE h fun j18 h=>aB (dL rfl rfl (aC.fact 4 rfl) rfl rfl j18) rfl<|aB (dW rfl (aC.fact 4 rfl) rfl rfl j18) rfl<|aB (jF rfl (aC.el (aC.fact 4 rfl) j18.1 j18.2) rfl) rfl<|qkAsg rfl<|dtN<|aP<|bJ<|aG ?_
  cases h
  exact wG rfl
 refine sqR<|qkEql rfl<|qkAsg rfl<|dtN ?_
 refine eN h rfl (fun h=>?_) fun h=>?_
 ·refine sqR<|qkFld rfl<|qkLd 0 rfl<|qkEql rfl<|bnE h fun r20 w21 h=>aF (aJ.callQ tI (iS U  r20 w21) rfl .nil) rfl fun x22=>qkAsg rfl<|dtN<|aP<|bJ<|aG ?_
  cases h
  exact wG rfl
 refine sqR<|qkEql rfl<|qkAsg rfl<|dtN ?_
 refine eN h rfl (fun h=>?_) fun h=>?_
 ·refine sqR<|qkFld rfl<|qkLd 0 rfl<|qkAsg rfl<|dtN<|aP<|bJ<|aG ?_
  cases h
  exact wG rfl
 refine dO<|inT<|sqR<|qkMove rfl<|aB (bL rfl) rfl<|qkFld rfl<|aB (cQ rfl (aC.fact 0 rfl) rfl rfl rfl) rfl<|qkMove rfl<|ckE h fun j24 h=>aB (dL rfl rfl (aC.fact 5 rfl) rfl rfl j24) rfl<|aB (dW rfl (aC.fact 5 rfl) rfl rfl j24) rfl<|qkMove rfl<|ckE h fun j25 h=>aB (aY rfl rfl (aC.el (aC.fact 5 rfl) j24.1 j24.2) rfl rfl j25) rfl<|aB (bY rfl (aC.el (aC.fact 5 rfl) j24.1 j24.2) rfl rfl rfl eI j25) rfl<|qkAsg rfl<|dtN<|aP ?_
 cases h
 exact wG rfl
end
section
def jJ (U:Nat) (p0:IB) (p1:dM) (p2:Int):Option (Int):=
 if p1.1=(1:Int)then(some (p1.2))else(if p1.1=(2:Int)then(some (1:Int))else(if p1.1=(3:Int)then(some (0:Int))else(if p1.1=(4:Int)then(some (-1:Int))else(if p1.1=(5:Int)then(ck (0<=p0.2.2.1∧p0.2.2.1<(List.length p0.2.1:Int)) (ck (0<=p1.2∧p1.2<(List.length (at' p0.2.1 p0.2.2.1):Int)) (some (at' (at' p0.2.1 p0.2.2.1) p1.2))))else(if p1.1=(12:Int)then(ck (0<=p0.2.2.1∧p0.2.2.1<(List.length p0.1.2.1.2:Int)) (ck (0<=p2∧p2<(List.length (at' p0.1.2.1.2 p0.2.2.1):Int)) (ck (0<=((at' (at' p0.1.2.1.2 p0.2.2.1) p2).1)∧((at' (at' p0.1.2.1.2 p0.2.2.1) p2).1)<(List.length p0.2.1:Int)) (ck (0<=p1.2∧p1.2<(List.length (at' p0.2.1 ((at' (at' p0.1.2.1.2 p0.2.2.1) p2).1)):Int)) (some (at' (at' p0.2.1 ((at' (at' p0.1.2.1.2 p0.2.2.1) p2).1)) p1.2))))))else(Option.bind (oO U ((((p0.1.1.1,p0.1.1.2.1,p0.1.1.2.2)),((p0.1.2.1.1,p0.1.2.1.2)),p0.1.2.2.1,p0.1.2.2.2)) p1.1 p0.2.2.1 p2) fun r14=>(some (r14))))))))
theorem TL:aN Tryz.prog 233:=Tryz.call233
theorem Ba (U:Nat) {p0:IB} {p1:dM} {p2:Int} (bx0:Nat)  (bx1:Nat)  (v2:Value)  (v3:Value)  (v4:Value)  (v5:Value)  (z6:mT)  (v7:Value)  (z8:qK)  (v9:Value)  (z10:qK)  (v11:Value) (r:Int) (h:jJ U p0 p1 p2=some r):
  aT Tryz.prog 233 #[vP bx0,Value.agg #[vI (p1.1),vI (p1.2)],vI (p2)] [bT bx0 [vP bx1,v9,vI (p0.2.2.1),v11] 262,bT bx1 [vS (p0.1.1.1),v2,v3,v4,v5,vI (p0.1.2.2.1),v7] 218,Sl aI v2 p0.1.1.2.1,Sl aE v3 p0.1.1.2.2,Sl bK v4 p0.1.2.1.1,S2 aZ v5 z6 p0.1.2.1.2,S2 bK v7 z8 p0.1.2.2.2,S2 bK v9 z10 p0.2.1,Sl aZ v11 p0.2.2.2] (fun x:Unit=>vI (r)) (fun x l=>l) (fun _ l=>l):=by
 refine aT.of Tryz.func233 rfl Tryz.ntmps233 rfl fun c=>?_
 refine sqR<|aF (aJ.box (cs:=[vI (p1.1),vI (p1.2)]) rfl rfl) rfl fun b1=>qkAsg rfl<|dtN<|aH<|sqR<|qkFld rfl<|qkLd 0 rfl<|dtN<|aM<|sqR<|qkEql rfl<|qkAsg rfl<|dtN ?_
 refine eN h rfl (fun h=>?_) fun h=>?_
 ·refine sqR<|qkFld rfl<|qkLd 0 rfl<|qkAsg rfl<|dtN<|aP<|bJ<|aG ?_
  cases h
  exact wG rfl
 refine sqR<|qkEql rfl<|qkAsg rfl<|dtN ?_
 refine eN h rfl (fun h=>?_) fun h=>?_
 ·refine sqR<|qkAsg rfl<|dtN<|aP<|bJ<|aG ?_
  cases h
  exact wG rfl
 refine sqR<|qkEql rfl<|qkAsg rfl<|dtN ?_
 refine eN h rfl (fun h=>?_) fun h=>?_
 ·refine sqR<|qkAsg rfl<|dtN<|aP<|bJ<|aG ?_
  cases h
  exact wG rfl
 refine sqR<|qkEql rfl<|qkAsg rfl<|dtN ?_
 refine eN h rfl (fun h=>?_) fun h=>?_
 ·refine sqR<|qkAsg rfl<|dtN<|aP<|bJ<|aG ?_
  cases h
  exact wG rfl
 refine sqR<|qkEql rfl<|qkAsg rfl<|dtN ?_
 refine eN h rfl (fun h=>?_) fun h=>?_
 ·refine aH ?_
  refine JR.start [0,1,3,7,0,16,48,112,255,511,0,1024,4095,8191,16383] 12 mixedOrders (by decide +kernel) ?_
  refine JR.open (by exact rfl) ?_
  refine jkMove rfl<|jqN rfl (bL rfl)<|jkFld rfl<|bH rfl .nil (qF 0 rfl) (cQ rfl (aC.fact 0 rfl) rfl rfl rfl) aO.z<|jkMove rfl<|jqN rfl (bL rfl)<|jkFld rfl<|bH rfl .nil (qF 0 rfl) (cQ rfl (aC.fact 0 rfl) rfl rfl rfl) aO.z<|ckE h fun j7 h=>bH rfl .nil (qF 7 rfl) (dL rfl rfl (aC.fact 0 rfl) rfl rfl j7) aO.z<|bH rfl .nil (qF 7 rfl) (dW rfl (aC.fact 0 rfl) rfl rfl j7) aO.z<|jkFld rfl<|jkLd 0 rfl<|bS 12 rfl rfl<|ckE h fun j8 h=>aB (aY rfl rfl (aC.el (aC.fact 7 rfl) j7.1 j7.2) rfl rfl j8) rfl<|aB (bY rfl (aC.el (aC.fact 7 rfl) j7.1 j7.2) rfl rfl rfl eI j8) rfl<|qkAsg rfl<|dtN<|aP<|bJ<|aG ?_
  cases h
  exact wG rfl
 refine sqR<|qkEql rfl<|qkAsg rfl<|dtN ?_
 refine eN h rfl (fun h=>?_) fun h=>?_
 ·refine aH ?_
  refine JR.start [0,1,3,7,0,16,48,112,240,496,1008,2032,0,4096,12288,28672,65520,131056,0,524272,1048560,2097136,4194303,8388607,0,16777216,67108863,134217727,268435455] 26 mixedOrders (by decide +kernel) ?_
  refine JR.open (by exact rfl) ?_
  refine jkMove rfl<|jqN rfl (bL rfl)<|jkFld rfl<|bH rfl .nil (qF 0 rfl) (cQ rfl (aC.fact 0 rfl) rfl rfl rfl) aO.z<|jkMove rfl<|jqN rfl (bL rfl)<|jkFld rfl<|bH rfl .nil (qF 0 rfl) (cQ rfl (aC.fact 0 rfl) rfl rfl rfl) aO.z<|jqN rfl (bL rfl)<|jkFld rfl<|jkFld rfl<|bH rfl .nil (qF 1 rfl) (cQ rfl (aC.fact 0 rfl) rfl rfl rfl) aO.z<|jkMove rfl<|jqN rfl (bL rfl)<|jkFld rfl<|bH rfl .nil (qF 0 rfl) (cQ rfl (aC.fact 0 rfl) rfl rfl rfl) aO.z<|ckE h fun j10 h=>bH rfl .nil (qF 5 rfl) (dL rfl rfl (aC.fact 0 rfl) rfl rfl j10) aO.z<|bH rfl .nil (qF 5 rfl) (dW rfl (aC.fact 0 rfl) rfl rfl j10) aO.z<|jkMove rfl<|ckE h fun j11 h=>bH rfl .nil (qF 5 rfl) (aY rfl rfl (aC.el (aC.fact 0 rfl) j10.1 j10.2) rfl rfl j11) aO.z<|jqN rfl (mD rfl rfl rfl rfl rfl)<|bH rfl .nil (qF 5 rfl) (nZ rfl (aC.el (aC.fact 0 rfl) j10.1 j10.2) rfl rfl rfl yE j11) aO.z<|ckE h fun j12 h=>bH rfl .nil (qF 7 rfl) (dL rfl rfl (aC.fact 0 rfl) rfl rfl j12) aO.z<|bH rfl .nil (qF 7 rfl) (dW rfl (aC.fact 0 rfl) rfl rfl j12) aO.z<|jkFld rfl<|jkLd 0 rfl<|bS 26 rfl rfl<|ckE h fun j13 h=>aB (aY rfl rfl (aC.el (aC.fact 7 rfl) j12.1 j12.2) rfl rfl j13) rfl<|aB (bY rfl (aC.el (aC.fact 7 rfl) j12.1 j12.2) rfl rfl rfl eI j13) rfl<|qkAsg rfl<|dtN<|aP<|bJ<|aG ?_
  cases h
  exact wG rfl
 refine dO<|inT<|aH ?_
 refine JR.start [0,1,3,7,0,16,0,64,192,448,0,2047,4095] 11 mixedOrders (by decide +kernel) ?_
 refine JR.open (by exact rfl) ?_
 refine jkMove rfl<|jqN rfl (bL rfl)<|jkFld rfl<|bH rfl .nil (qF 0 rfl) (cQ rfl (aC.fact 0 rfl) rfl rfl rfl) aO.z<|jkFld rfl<|jkLd 0 rfl<|jkMove rfl<|jqN rfl (bL rfl)<|jkFld rfl<|bH rfl .nil (qF 0 rfl) (cQ rfl (aC.fact 0 rfl) rfl rfl rfl) aO.z<|jkMove rfl<|bS 11 rfl rfl<|bnE h fun r14 w15 h=>aF (aJ.callQ TO (Ao U bx1 v2 v3 v4 v5 z6 v7 z8 r14 w15) rfl (nY [1,2,3,4,5,6] rfl)) rfl fun x16=>qkAsg rfl<|dtN<|aP ?_
 cases h
 exact wG rfl
end
section
def vA (U:Nat) (p0:Int) (p1:Int):Option (Int):=
 if p0=(18:Int)then(some (wI .i64 (0 - p1)))else(Option.bind (fT U (decide (p1=(0:Int)))) fun r2=>(some (r2)))
theorem TM:aN Tryz.prog 234:=Tryz.call234
theorem Iv (U:Nat) {p0:Int} {p1:Int} (r:Int) (h:vA U p0 p1=some r):
  aT Tryz.prog 234 #[vI (p0),vI (p1)] [] (fun x:Unit=>vI (r)) (fun x l=>l) (fun _ l=>l):=by
 refine aT.of Tryz.func234 rfl Tryz.ntmps234 rfl fun c=>?_
 refine sqR<|qkAsg rfl<|dtN<|aH<|sqR<|qkMove rfl<|qkEql rfl<|dtN ?_
 refine eN h rfl (fun h=>?_) fun h=>?_
 ·refine sqR<|qkMove rfl<|aB (Mj rfl) rfl<|qkAsg rfl<|dtN<|aP<|aG ?_
  cases h
  exact kW rfl
 refine cF<|sqR<|qkMove rfl<|qkEql rfl<|bnE h fun r2 w3 h=>aF (aJ.callQ tI (iS U  r2 w3) rfl .nil) rfl fun x4=>qkAsg rfl<|dtN<|aP ?_
 cases h
 exact kW rfl
end
section
def gG (U:Nat) (p0:Int):Option (Int):=
 some (max (-1073741824:Int) (min p0 (1073741824:Int)))
theorem AI:aN Tryz.prog 258:=Tryz.call258
theorem jV (U:Nat) {p0:Int} (r:Int) (h:gG U p0=some r):
  aT Tryz.prog 258 #[vI (p0)] [] (fun x:Unit=>vI (r)) (fun x l=>l) (fun _ l=>l):=by
 refine aT.of Tryz.func258 rfl Tryz.ntmps258 rfl fun c=>?_
 unfold gG at h
 refine sqR<|qkAsg rfl<|dtN<|sqR<|qkMove rfl<|aB (Vb rfl rfl) rfl<|aB (ES rfl rfl) rfl<|qkAsg rfl<|dtN<|aP ?_
 cases h
 exact kW rfl
end
section
def mM  (a4:Int):Option (Int):=
 some (a4)
def pE (p0:Int) (p1:Int) (a7:Bool):Option (Int):=
 if a7=true then(mM  (wI .i64 ((wI .i64 (Int.tdiv p0 p1)) - (1:Int))))else(mM  (wI .i64 (Int.tdiv p0 p1)))
def nL (U:Nat) (p0:Int) (p1:Int):Option (Int):=
 if p1=(0:Int)then(some (0:Int))else(ck (p1≠0) (ck (p1≠0) (if(Int.tmod p0 p1)≠(0:Int)then(pE p0 p1 (((decide (p0<(0:Int))) != (decide (p1<(0:Int))))))else(pE p0 p1 (false)))))
theorem MC:aN Tryz.prog 259:=Tryz.call259
theorem zI (U:Nat) {p0:Int} {p1:Int} (r:Int) (h:nL U p0 p1=some r):
  aT Tryz.prog 259 #[vI (p0),vI (p1)] [] (fun x:Unit=>vI (r)) (fun x l=>l) (fun _ l=>l):=by
 refine aT.of Tryz.func259 rfl Tryz.ntmps259 rfl fun c=>?_
 refine sqR<|qkAsg rfl<|dtN<|aH<|sqR<|qkMove rfl<|qkEql rfl<|dtN ?_
 refine eN h rfl (fun h=>?_) fun h=>?_
 ·refine sqR<|qkAsg rfl<|dtN<|aP<|aG ?_
  cases h
  exact kW rfl
 refine cF<|sqR<|qkMove rfl<|qkMove rfl<|ckE h fun j2 h=>aB (PP rfl rfl j2) rfl<|qkAsg rfl<|dtN<|aH<|midU (fun a4=>mM  a4=some r) (fun a4 b5=>[(5,vI (a4))]) (fun a4 b5=>[]) ?_ ?_
 ·refine aH<|midU (fun a7=>pE p0 p1 a7=some r) (fun a7 b8=>[(5,vI (wI .i64 (Int.tdiv p0 p1))),(21,vB (a7))]) (fun a7 b8=>[]) ?_ ?_
  ·refine aK<|qkMove rfl<|qkMove rfl<|ckE h fun j10 h=>aB (Jn rfl rfl j10) rfl<|qkNeq rfl<|qkMove rfl ?_
   refine Bi h rfl (fun _ h=>?_) fun _ h=>?_
   ·refine gyMove rfl<|aS rfl (Bg rfl rfl) rfl<|gyMove rfl<|aS rfl (Bg rfl rfl) rfl<|aS rfl (VC rfl rfl rfl) rfl<|qkPkT rfl<|dtN ?_
    exact iG (((decide (p0<(0:Int))) != (decide (p1<(0:Int))))) () h SF rfl
   refine gdSkip rfl<|gdSkip rfl<|gdSkip rfl<|gdSkip rfl<|gdSkip rfl<|qkPkF rfl<|dtN ?_
   exact iG (false) () h SF rfl
  intro a7 b8 h
  refine Ab h rfl (fun _ h=>?_) fun _ h=>?_
  ·refine aK<|qkMove rfl<|aB (nW rfl rfl) rfl<|qkAsg rfl<|dtN ?_
   exact iG (wI .i64 ((wI .i64 (Int.tdiv p0 p1)) - (1:Int))) () h SF rfl
  refine cF ?_
  exact iG (wI .i64 (Int.tdiv p0 p1)) () h SF rfl
 intro a4 b5 h
 unfold mM at h
 refine sqR<|qkMove rfl<|qkAsg rfl<|dtN<|aP ?_
 cases h
 exact kW rfl
end
section
def qU (U:Nat) (p0:Int) (p1:Int) (p2:Int):Option (Bool):=
 if p0=(35:Int)then(some (decide (p1=p2)))else(if p0=(36:Int)then(some (decide (p1≠p2)))else(if p0=(37:Int)then(some (decide (p1<p2)))else(if p0=(38:Int)then(some (decide (p1<=p2)))else(if p0=(39:Int)then(some (decide (p2<p1)))else(some (decide (p2<=p1)))))))
theorem TQ:aN Tryz.prog 260:=Tryz.call260
theorem Eg (U:Nat) {p0:Int} {p1:Int} {p2:Int} (r:Bool) (h:qU U p0 p1 p2=some r):
  aT Tryz.prog 260 #[vI (p0),vI (p1),vI (p2)] [] (fun x:Unit=>vB (r)) (fun x l=>l) (fun _ l=>l):=by
 refine aT.of Tryz.func260 rfl Tryz.ntmps260 rfl fun c=>?_
 refine sqR<|qkAsg rfl<|dtN<|aH<|sqR<|qkMove rfl<|dtN<|aM<|sqR<|qkEql rfl<|qkAsg rfl<|dtN ?_
 refine eN h rfl (fun h=>?_) fun h=>?_
 ·refine sqR<|qkMove rfl<|qkMove rfl<|qkEql rfl<|qkAsg rfl<|dtN<|aP<|bJ<|aG ?_
  cases h
  exact kW rfl
 refine sqR<|qkEql rfl<|qkAsg rfl<|dtN ?_
 refine eN h rfl (fun h=>?_) fun h=>?_
 ·refine sqR<|qkMove rfl<|qkMove rfl<|qkNeq rfl<|qkAsg rfl<|dtN<|aP<|bJ<|aG ?_
  cases h
  exact kW rfl
 refine sqR<|qkEql rfl<|qkAsg rfl<|dtN ?_
 refine eN h rfl (fun h=>?_) fun h=>?_
 ·refine sqR<|qkMove rfl<|qkMove rfl<|qkLss rfl<|qkAsg rfl<|dtN<|aP<|bJ<|aG ?_
  cases h
  exact kW rfl
 refine sqR<|qkEql rfl<|qkAsg rfl<|dtN ?_
 refine eN h rfl (fun h=>?_) fun h=>?_
 ·refine sqR<|qkMove rfl<|qkMove rfl<|aB (wN rfl rfl) rfl<|qkAsg rfl<|dtN<|aP<|bJ<|aG ?_
  cases h
  exact kW rfl
 refine sqR<|qkEql rfl<|qkAsg rfl<|dtN ?_
 refine eN h rfl (fun h=>?_) fun h=>?_
 ·refine sqR<|qkMove rfl<|qkMove rfl<|aB (vM rfl rfl) rfl<|qkAsg rfl<|dtN<|aP<|bJ<|aG ?_
  cases h
  exact kW rfl
 refine dO<|inT<|sqR<|qkMove rfl<|qkMove rfl<|aB (Bf rfl rfl) rfl<|qkAsg rfl<|dtN<|aP ?_
 cases h
 exact kW rfl
end
section
def mK  (a30:Int):Option (Int):=
 some (a30)
def mL  (a41:Int):Option (Int):=
 some (a41)
def tM (U:Nat) (p0:Int) (p1:Int) (p2:Int):Option (Int):=
 if p0=(30:Int)then(Option.bind (gG U (wI .i64 (p1*p2))) fun r2=>(some (r2)))else(if p0=(31:Int)then(Option.bind (nL U p1 p2) fun r6=>(Option.bind (gG U r6) fun r9=>(some (r9))))else(if p0=(32:Int)then(if p2=(0:Int)then(some (0:Int))else(Option.bind (nL U p1 p2) fun r14=>(Option.bind (gG U (wI .i64 (p1 - (wI .i64 (p2*r14))))) fun r17=>(some (r17)))))else(if p0=(33:Int)then(Option.bind (gG U (wI .i64 (p1+p2))) fun r21=>(some (r21)))else(if p0=(34:Int)then(Option.bind (gG U (wI .i64 (p1 - p2))) fun r25=>(some (r25)))else(if p0=(41:Int)then(if p1≠(0:Int)then(Option.bind (fT U (decide (p2≠(0:Int)))) fun r33=>(mK  (r33)))else(Option.bind (fT U false) fun r36=>(mK  (r36))))else(if p0=(42:Int)then(if p1≠(0:Int)then(Option.bind (fT U true) fun r44=>(mL  (r44)))else(Option.bind (fT U (decide (p2≠(0:Int)))) fun r47=>(mL  (r47))))else(Option.bind (qU U p0 p1 p2) fun r50=>(Option.bind (fT U r50) fun r53=>(some (r53))))))))))
theorem TN:aN Tryz.prog 236:=Tryz.call236
theorem Gu (U:Nat) {p0:Int} {p1:Int} {p2:Int} (r:Int) (h:tM U p0 p1 p2=some r):
  aT Tryz.prog 236 #[vI (p0),vI (p1),vI (p2)] [] (fun x:Unit=>vI (r)) (fun x l=>l) (fun _ l=>l):=by
 refine aT.of Tryz.func236 rfl Tryz.ntmps236 rfl fun c=>?_
 refine sqR<|qkAsg rfl<|dtN<|aH<|sqR<|qkMove rfl<|dtN<|aM<|sqR<|qkEql rfl<|qkAsg rfl<|dtN ?_
 refine eN h rfl (fun h=>?_) fun h=>?_
 ·refine sqR<|qkMove rfl<|qkMove rfl<|aB (yK rfl rfl) rfl<|bnE h fun r2 w3 h=>aF (aJ.callQ AI (jV U  r2 w3) rfl .nil) rfl fun x4=>qkAsg rfl<|dtN<|aP<|bJ<|aG ?_
  cases h
  exact kW rfl
 refine sqR<|qkEql rfl<|qkAsg rfl<|dtN ?_
 refine eN h rfl (fun h=>?_) fun h=>?_
 ·refine sqR<|qkMove rfl<|qkMove rfl<|bnE h fun r6 w7 h=>aF (aJ.callQ MC (zI U  r6 w7) rfl .nil) rfl fun x8=>bnE h fun r9 w10 h=>aF (aJ.callQ AI (jV U  r9 w10) rfl .nil) rfl fun x11=>qkAsg rfl<|dtN<|aP<|bJ<|aG ?_
  cases h
  exact kW rfl
 refine sqR<|qkEql rfl<|qkAsg rfl<|dtN ?_
 refine eN h rfl (fun h=>?_) fun h=>?_
 ·refine aH<|sqR<|qkMove rfl<|qkEql rfl<|dtN ?_
  refine eN h rfl (fun h=>?_) fun h=>?_
  ·refine sqR<|qkAsg rfl<|dtN<|aP<|aG<|bJ<|aG ?_
   cases h
   exact kW rfl
  refine cF<|sqR<|qkMove rfl<|qkMove rfl<|qkMove rfl<|qkMove rfl<|bnE h fun r14 w15 h=>aF (aJ.callQ MC (zI U  r14 w15) rfl .nil) rfl fun x16=>aB (yK rfl rfl) rfl<|aB (nW rfl rfl) rfl<|bnE h fun r17 w18 h=>aF (aJ.callQ AI (jV U  r17 w18) rfl .nil) rfl fun x19=>qkAsg rfl<|dtN<|aP<|bJ<|aG ?_
  cases h
  exact kW rfl
 refine sqR<|qkEql rfl<|qkAsg rfl<|dtN ?_
 refine eN h rfl (fun h=>?_) fun h=>?_
 ·refine sqR<|qkMove rfl<|qkMove rfl<|qkAdd rfl<|bnE h fun r21 w22 h=>aF (aJ.callQ AI (jV U  r21 w22) rfl .nil) rfl fun x23=>qkAsg rfl<|dtN<|aP<|bJ<|aG ?_
  cases h
  exact kW rfl
 refine sqR<|qkEql rfl<|qkAsg rfl<|dtN ?_
 refine eN h rfl (fun h=>?_) fun h=>?_
 ·refine sqR<|qkMove rfl<|qkMove rfl<|aB (nW rfl rfl) rfl<|bnE h fun r25 w26 h=>aF (aJ.callQ AI (jV U  r25 w26) rfl .nil) rfl fun x27=>qkAsg rfl<|dtN<|aP<|bJ<|aG ?_
  cases h
  exact kW rfl
 refine sqR<|qkEql rfl<|qkAsg rfl<|dtN ?_
 refine eN h rfl (fun h=>?_) fun h=>?_
 ·refine aH<|midU (fun a30=>mK  a30=some r) (fun a30 b31=>[(6,vI (a30))]) (fun a30 b31=>[]) ?_ ?_
  ·refine aK<|qkMove rfl<|qkNeq rfl<|qkMove rfl ?_
   refine Bi h rfl (fun _ h=>?_) fun _ h=>?_
   ·refine gyMove rfl<|aS rfl (EU rfl rfl) rfl<|qkPkT rfl<|bnE h fun r33 w34 h=>aF (aJ.callQ tI (iS U  r33 w34) rfl .nil) rfl fun x35=>qkAsg rfl<|dtN ?_
    exact iG (r33) () h SF rfl
   refine gdSkip rfl<|gdSkip rfl<|qkPkF rfl<|bnE h fun r36 w37 h=>aF (aJ.callQ tI (iS U  r36 w37) rfl .nil) rfl fun x38=>qkAsg rfl<|dtN ?_
   exact iG (r36) () h SF rfl
  intro a30 b31 h
  unfold mK at h
  refine aP<|bJ<|aG ?_
  cases h
  exact kW rfl
 refine sqR<|qkEql rfl<|qkAsg rfl<|dtN ?_
 refine eN h rfl (fun h=>?_) fun h=>?_
 ·refine aH<|midU (fun a41=>mL  a41=some r) (fun a41 b42=>[(6,vI (a41))]) (fun a41 b42=>[]) ?_ ?_
  ·refine aK<|qkMove rfl<|qkNeq rfl<|qkMove rfl ?_
   refine Bi h rfl (fun _ h=>?_) fun _ h=>?_
   ·refine gdSkip rfl<|gdSkip rfl<|qkPkT rfl<|bnE h fun r44 w45 h=>aF (aJ.callQ tI (iS U  r44 w45) rfl .nil) rfl fun x46=>qkAsg rfl<|dtN ?_
    exact iG (r44) () h SF rfl
   refine gyMove rfl<|aS rfl (EU rfl rfl) rfl<|qkPkF rfl<|bnE h fun r47 w48 h=>aF (aJ.callQ tI (iS U  r47 w48) rfl .nil) rfl fun x49=>qkAsg rfl<|dtN ?_
   exact iG (r47) () h SF rfl
  intro a41 b42 h
  unfold mL at h
  refine aP<|bJ<|aG ?_
  cases h
  exact kW rfl
 refine dO<|inT<|sqR<|qkMove rfl<|qkMove rfl<|qkMove rfl<|bnE h fun r50 w51 h=>aF (aJ.callQ TQ (Eg U  r50 w51) rfl .nil) rfl fun x52=>bnE h fun r53 w54 h=>aF (aJ.callQ tI (iS U  r53 w54) rfl .nil) rfl fun x55=>qkAsg rfl<|dtN<|aP ?_
 cases h
 exact kW rfl
end
section
def tJ  (a2:Int):Option (Int):=
 some (a2)
def pW (a7:dM) (ag6:c_->Option (Int)) (a12:Int):Option (Int):=
 ag6 (a12,(wI .i64 (a7.2+(1:Int))))
def nR (p0:aL) (a7:dM) (ag6:c_->Option (Int)):Option (Int):=
 if a7.2<(List.length p0:Int)then(ck (0<=a7.2∧a7.2<(List.length p0:Int)) (if(at' p0 a7.2)≠(0:Int)then(pW a7 ag6 (wI .i64 (a7.1+(1:Int))))else(pW a7 ag6 (a7.1))))else(tJ  (a7.1))
def mY (U:Nat) (p0:aL):Option (Int):=
 bD (nR p0) U ((0:Int),(0:Int))
theorem HN:aN Tryz.prog 269:=Tryz.call269
theorem y_ (U:Nat) {p0:aL} (v0:Value) (r:Int) (h:mY U p0=some r):
  aT Tryz.prog 269 #[v0] [Sl bK v0 p0] (fun x:Unit=>vI (r)) (fun x l=>l) (fun _ l=>l):=by
 refine aT.of Tryz.func269 rfl Tryz.ntmps269 rfl fun c=>?_
 unfold mY at h
 refine sqR<|qkAsg rfl<|dtN<|sqR<|qkAsg rfl<|dtN<|aH<|midU (fun a2=>tJ  a2=some r) (fun a2 b3=>[(3,vI (a2))]) (fun a2 b3=>[]) ?_ ?_
 ·refine sqR<|qkMove rfl<|qkLen (aC.fact 0 rfl) rfl<|qkMove rfl<|dtN<|aM<|loopL (nR p0) (fun a7 b8=>[(3,vI (a7.1)),(6,v0),(7,vI (List.length p0:Int)),(8,vI (a7.2))]) (fun a7 b8=>[]) ((0:Int),(0:Int)) () h SF (aW.refl _) ?_
  intro k9 a7 b8 h
  refine sqR<|qkLss rfl<|dtN<|aH ?_
  refine eN h rfl (fun h=>?_) fun h=>?_
  ·refine cF<|aH<|midU (fun a12=>pW a7 (bD (nR p0) k9) a12=some r) (fun a12 b13=>[(3,vI (a12)),(6,v0),(7,vI (List.length p0:Int)),(8,vI (a7.2))]) (fun a12 b13=>[]) ?_ ?_
   ·refine aM<|sqR<|ckE h fun j14 h=>aB (aY rfl rfl (aC.fact 0 rfl) rfl rfl j14) rfl<|aB (bY rfl (aC.fact 0 rfl) rfl rfl rfl eI j14) rfl<|qkAsg rfl<|dtN<|sqR<|qkMove rfl<|qkNeq rfl<|dtN ?_
    refine eN h rfl (fun h=>?_) fun h=>?_
    ·refine aK<|qkMove rfl<|qkAdd rfl<|qkAsg rfl<|dA<|inT ?_
     exact iG (wI .i64 (a7.1+(1:Int))) () h SF rfl
    refine dO<|inT ?_
    exact iG (a7.1) () h SF rfl
   intro a12 b13 h
   unfold pW at h
   refine aK<|qkAdd rfl<|qkMove rfl<|dtN ?_
   exact xO (a12,(wI .i64 (a7.2+(1:Int)))) () h SF rfl
  refine fL ?_
  exact iG (a7.1) () h SF rfl
 intro a2 b3 h
 unfold tJ at h
 refine sqR<|qkMove rfl<|qkAsg rfl<|dtN<|aP ?_
 cases h
 exact kW rfl
end
section
def lZ  (a1:Unit):Option (Int):=
 some (-1:Int)
def eG (p0:aL) (g1:Int->Option Bool) (a5:Int) (ag4:(Int)->Option (Int)):Option (Int):=
 if a5<(List.length p0:Int)then(ck (0<=a5∧a5<(List.length p0:Int)) (Option.bind (g1 (at' p0 a5)) fun r10=>(if r10=true then(some (a5))else(ag4 (wI .i64 (a5+(1:Int)))))))else(lZ  (()))
def kI (U:Nat) (p0:aL) (g1:Int->Option Bool):Option (Int):=
 bD (eG p0 g1) U (0:Int)
theorem TR:aN Tryz.prog 270:=Tryz.call270
theorem BR (U:Nat) {p0:aL} {g1:Int->Option Bool} (f1:FuncId) (cs1:fP) (Lf:List aR) (hb_g1:aN Tryz.prog f1) (hm_g1:∀(y0:Int) (r:Bool),g1 y0=some r->aT Tryz.prog f1 ([vI (y0)]++cs1).toArray Lf (fun _:Unit=>vB (r)) (fun _ l=>l) (fun _ l=>l)) (v0:Value) (r:Int) (h:kI U p0 g1=some r):
  aT Tryz.prog 270 #[v0,Value.func (.func f1) #[] (cs1).toArray] ([Sl bK v0 p0]++Lf) (fun x:Unit=>vI (r)) (fun x l=>l) (fun _ l=>l):=by
 refine aT.of Tryz.func270 rfl Tryz.ntmps270 rfl fun c=>?_
 unfold kI at h
 refine sqR<|qkAsg rfl<|dtN<|aH<|wW (B:=Unit) (fun a1=>lZ  a1=some r) (fun a1 b2=>[]) (fun a1 b2=>[]) (fun a1 b2=>([Sl bK v0 p0]++Lf)) ?_ ?_
 ·refine sqR<|qkMove rfl<|qkLen (aC.fact 0 rfl) rfl<|qkMove rfl<|dtN<|aM<|Em (B:=Unit) (eG p0 g1) (fun a5 b6=>[(0,v0),(1,Value.func (.func f1) #[] (cs1).toArray),(7,vI (List.length p0:Int)),(8,vI (a5))]) (fun a5 b6=>[]) (fun a5 b6=>([Sl bK v0 p0]++Lf)) (0:Int) () h SF (aW.refl _) (aD.refl _ _) ?_
  intro k7 a5 b6 h
  refine sqR<|qkLss rfl<|dtN<|aH ?_
  refine eN h rfl (fun h=>?_) fun h=>?_
  ·refine cF<|aH<|aM<|sqR<|qkMove rfl<|qkAsg rfl<|dtN<|sqR<|qkMove rfl<|qkMove rfl<|qkMove rfl<|ckE h fun j9 h=>aB (aY rfl rfl (aC.fact 0 rfl) rfl rfl j9) rfl<|aB (bY rfl (aC.fact 0 rfl) rfl rfl rfl eI j9) rfl<|bnE h fun r10 w11 h=>aF (oF (vs:=[vI (at' p0 a5)]) (cs:=cs1) hb_g1 rfl (hm_g1 (at' p0 a5) r10 w11) rfl (aD.tail _) (fun _ _=>rfl)) rfl fun x12=>dtN ?_
   refine Ab h rfl (fun _ h=>?_) fun _ h=>?_
   ·refine sqR<|qkMove rfl<|qkAsg rfl<|dtN<|aP<|bJ<|aG<|aG<|bJ<|aG ?_
    cases h
    exact kW rfl
   refine dO<|inT<|aK<|qkAdd rfl<|qkMove rfl<|dtN ?_
   exact xO (wI .i64 (a5+(1:Int))) () h SF rfl
  refine fL ?_
  exact iG () (()) h SF rfl
 intro a1 b2 h
 unfold lZ at h
 refine sqR<|qkAsg rfl<|dtN<|aP ?_
 cases h
 exact kW rfl
end
section
def lP (U:Nat) (p0:Int):Option (Bool):=
 some (decide (p0≠(0:Int)))
theorem TS:aN Tryz.prog 271:=Tryz.call271
theorem Gv (U:Nat) {p0:Int} (r:Bool) (h:lP U p0=some r):
  aT Tryz.prog 271 #[vI (p0)] [] (fun x:Unit=>vB (r)) (fun x l=>l) (fun _ l=>l):=by
 refine aT.of Tryz.func271 rfl Tryz.ntmps271 rfl fun c=>?_
 unfold lP at h
 refine sqR<|qkAsg rfl<|dtN<|sqR<|qkMove rfl<|qkNeq rfl<|qkAsg rfl<|dtN<|aP ?_
 cases h
 exact kW rfl
end
section
def pQ  (a3:dM):Option c_:=
 some (a3.1,a3.2)
def lX (a9:Int×Int×Int) (ag8:(Int×Int×Int)->Option c_) (a15:dM):Option c_:=
 ag8 (a15.1,a15.2,(wI .i64 (a9.2.2+(1:Int))))
def pR (p0:aL) (a9:Int×Int×Int) (ag8:(Int×Int×Int)->Option c_):Option c_:=
 if a9.2.2<(List.length p0:Int)then(ck (0<=a9.2.2∧a9.2.2<(List.length p0:Int)) (if a9.1<(at' p0 a9.2.2)then(lX a9 ag8 ((at' p0 a9.2.2),a9.1))else(lX a9 ag8 (a9.1,(max a9.2.1 (at' p0 a9.2.2))))))else(pQ  (a9.1,a9.2.1))
def mZ (U:Nat) (p0:aL):Option c_:=
 bD (pR p0) U ((-1073741824:Int),(-1073741824:Int),(0:Int))
theorem MD:aN Tryz.prog 272:=Tryz.call272
theorem wD (U:Nat) {p0:aL} (v0:Value) (r:dM) (h:mZ U p0=some r):
  aT Tryz.prog 272 #[v0] [Sl bK v0 p0] (fun x:Unit=>Value.tuple #[vI (r.1),vI (r.2)]) (fun x l=>l) (fun _ l=>l):=by
 refine aT.of Tryz.func272 rfl Tryz.ntmps272 rfl fun c=>?_
 unfold mZ at h
 refine sqR<|qkAsg rfl<|qkAsg rfl<|dtN<|sqR<|qkAsg rfl<|qkAsg rfl<|dtN<|aH<|midU (fun a3=>pQ  a3=some r) (fun a3 b4=>[(2,vI (a3.1)),(3,vI (a3.2))]) (fun a3 b4=>[]) ?_ ?_
 ·refine sqR<|qkMove rfl<|qkLen (aC.fact 0 rfl) rfl<|qkMove rfl<|dtN<|aM<|loopL (pR p0) (fun a9 b10=>[(2,vI (a9.1)),(3,vI (a9.2.1)),(6,v0),(7,vI (List.length p0:Int)),(8,vI (a9.2.2))]) (fun a9 b10=>[]) ((-1073741824:Int),(-1073741824:Int),(0:Int)) () h SF (aW.refl _) ?_
  intro k11 a9 b10 h
  refine sqR<|qkLss rfl<|dtN<|aH ?_
  refine eN h rfl (fun h=>?_) fun h=>?_
  ·refine cF<|aH<|midU (fun a15=>lX a9 (bD (pR p0) k11) a15=some r) (fun a15 b16=>[(2,vI (a15.1)),(3,vI (a15.2)),(6,v0),(7,vI (List.length p0:Int)),(8,vI (a9.2.2))]) (fun a15 b16=>[]) ?_ ?_
   ·refine aM<|sqR<|ckE h fun j17 h=>aB (aY rfl rfl (aC.fact 0 rfl) rfl rfl j17) rfl<|aB (bY rfl (aC.fact 0 rfl) rfl rfl rfl eI j17) rfl<|qkAsg rfl<|dtN<|sqR<|qkMove rfl<|qkMove rfl<|aB (vM rfl rfl) rfl<|dtN ?_
    refine eN h rfl (fun h=>?_) fun h=>?_
    ·refine aK<|qkMove rfl<|qkMove rfl<|qkAsg rfl<|qkAsg rfl<|dA<|inT ?_
     exact iG ((at' p0 a9.2.2),a9.1) () h SF rfl
    refine aK<|qkMove rfl<|qkMove rfl<|aB (ES rfl rfl) rfl<|qkAsg rfl<|dA<|inT ?_
    exact iG (a9.1,(max a9.2.1 (at' p0 a9.2.2))) () h SF rfl
   intro a15 b16 h
   unfold lX at h
   refine aK<|qkAdd rfl<|qkMove rfl<|dtN ?_
   exact xO (a15.1,a15.2,(wI .i64 (a9.2.2+(1:Int)))) () h SF rfl
  refine fL ?_
  exact iG (a9.1,a9.2.1) () h SF rfl
 intro a3 b4 h
 unfold pQ at h
 refine sqR<|qkMove rfl<|qkMove rfl<|qkAsg rfl<|qkAsg rfl<|dtN<|aP ?_
 cases h
 exact fI () rfl rfl (RV.tmp rfl) (RV.tmp rfl) (aW.refl _) aD.nil
end
section
def qY  (a1:Unit):Option (Int):=
 some (-1:Int)
def gT (p0:aL) (p1:Int) (a5:Int) (ag4:(Int)->Option (Int)):Option (Int):=
 if a5<(List.length p0:Int)then(ck (0<=a5∧a5<(List.length p0:Int)) (if p1=(at' p0 a5)then(some (a5))else(ag4 (wI .i64 (a5+(1:Int))))))else(qY  (()))
def mP (U:Nat) (p0:aL) (p1:Int):Option (Int):=
 bD (gT p0 p1) U (0:Int)
theorem TV:aN Tryz.prog 291:=Tryz.call291
theorem F_ (U:Nat) {p0:aL} {p1:Int} (v0:Value) (r:Int) (h:mP U p0 p1=some r):
  aT Tryz.prog 291 #[v0,vI (p1)] [Sl bK v0 p0] (fun x:Unit=>vI (r)) (fun x l=>l) (fun _ l=>l):=by
 refine aT.of Tryz.func291 rfl Tryz.ntmps291 rfl fun c=>?_
 unfold mP at h
 refine sqR<|qkAsg rfl<|dtN<|aH<|midU (fun a1=>qY  a1=some r) (fun a1 b2=>[]) (fun a1 b2=>[]) ?_ ?_
 ·refine sqR<|qkMove rfl<|qkLen (aC.fact 0 rfl) rfl<|qkMove rfl<|dtN<|aM<|loopL (gT p0 p1) (fun a5 b6=>[(0,v0),(1,vI (p1)),(7,vI (List.length p0:Int)),(8,vI (a5))]) (fun a5 b6=>[]) (0:Int) () h SF (aW.refl _) ?_
  intro k7 a5 b6 h
  refine sqR<|qkLss rfl<|dtN<|aH ?_
  refine eN h rfl (fun h=>?_) fun h=>?_
  ·refine cF<|aH<|aM<|sqR<|qkMove rfl<|qkAsg rfl<|dtN<|sqR<|qkMove rfl<|qkMove rfl<|qkMove rfl<|ckE h fun j9 h=>aB (aY rfl rfl (aC.fact 0 rfl) rfl rfl j9) rfl<|aB (bY rfl (aC.fact 0 rfl) rfl rfl rfl eI j9) rfl<|qkEql rfl<|dtN ?_
   refine eN h rfl (fun h=>?_) fun h=>?_
   ·refine sqR<|qkMove rfl<|qkAsg rfl<|dtN<|aP<|bJ<|aG<|aG<|bJ<|aG ?_
    cases h
    exact kW rfl
   refine dO<|inT<|aK<|qkAdd rfl<|qkMove rfl<|dtN ?_
   exact xO (wI .i64 (a5+(1:Int))) () h SF rfl
  refine fL ?_
  exact iG () (()) h SF rfl
 intro a1 b2 h
 unfold qY at h
 refine sqR<|qkAsg rfl<|dtN<|aP ?_
 cases h
 exact kW rfl
end
section
def oA (U:Nat) (p0:aL) (p1:Int):Option (Bool):=
 Option.bind (mP U p0 p1) fun r1=>(some (decide ((0:Int)<=r1)))
theorem TU:aN Tryz.prog 287:=Tryz.call287
theorem CR (U:Nat) {p0:aL} {p1:Int} (v0:Value) (r:Bool) (h:oA U p0 p1=some r):
  aT Tryz.prog 287 #[v0,vI (p1)] [Sl bK v0 p0] (fun x:Unit=>vB (r)) (fun x l=>l) (fun _ l=>l):=by
 refine aT.of Tryz.func287 rfl Tryz.ntmps287 rfl fun c=>?_
 refine sqR<|qkAsg rfl<|dtN<|sqR<|qkMove rfl<|qkMove rfl<|bnE h fun r1 w2 h=>aF (aJ.callQ TV (F_ U v0 r1 w2) rfl (nY [0] rfl)) rfl fun x3=>aB (Bf rfl rfl) rfl<|qkAsg rfl<|dtN<|aP ?_
 cases h
 exact kW rfl
end
section
def wQ  (a2:Int):Option (Int):=
 some (a2)
def uB (U:Nat) (p0:aL) (a6:Int) (ag5:(Int)->Option (Int)):Option (Int):=
 Option.bind (oA U p0 a6) fun r9=>(if r9=true then(ag5 (wI .i64 (a6+(1:Int))))else(wQ  (a6)))
def vW (U:Nat) (p0:aL):Option (Int):=
 bD (uB U p0) U (0:Int)
theorem TT:aN Tryz.prog 273:=Tryz.call273
theorem LW (U:Nat) {p0:aL} (v0:Value) (r:Int) (h:vW U p0=some r):
  aT Tryz.prog 273 #[v0] [Sl bK v0 p0] (fun x:Unit=>vI (r)) (fun x l=>l) (fun _ l=>l):=by
 refine aT.of Tryz.func273 rfl Tryz.ntmps273 rfl fun c=>?_
 unfold vW at h
 refine sqR<|qkAsg rfl<|dtN<|sqR<|qkAsg rfl<|dtN<|aH<|midU (fun a2=>wQ  a2=some r) (fun a2 b3=>[(3,vI (a2))]) (fun a2 b3=>[]) ?_ ?_
 ·refine aM<|loopL (uB U p0) (fun a6 b7=>[(0,v0),(3,vI (a6))]) (fun a6 b7=>[]) (0:Int) () h SF (aW.refl _) ?_
  intro k8 a6 b7 h
  refine aH<|sqR<|qkMove rfl<|qkMove rfl<|bnE h fun r9 w10 h=>aF (aJ.callQ TU (CR U v0 r9 w10) rfl (nY [0] rfl)) rfl fun x11=>dtN ?_
  refine Ab h rfl (fun _ h=>?_) fun _ h=>?_
  ·refine cF<|aM<|aK<|qkMove rfl<|qkAdd rfl<|qkAsg rfl<|dA<|inT ?_
   exact xO (wI .i64 (a6+(1:Int))) () h SF rfl
  refine fL ?_
  exact iG (a6) () h SF rfl
 intro a2 b3 h
 unfold wQ at h
 refine sqR<|qkMove rfl<|qkAsg rfl<|dtN<|aP ?_
 cases h
 exact kW rfl
end
section
def uZ  (a25:Int):Option (Int):=
 some (a25)
def pC (p1:aL) (a30:dM) (ag29:c_->Option (Int)):Option (Int):=
 if a30.2<(List.length p1:Int)then(ck (0<=a30.2∧a30.2<(List.length p1:Int)) (ag29 ((min a30.1 (at' p1 a30.2)),(wI .i64 (a30.2+(1:Int))))))else(uZ  (a30.1))
def yO (U:Nat) (a41:Int):Option (Int):=
 Option.bind (gG U a41) fun r43=>(some (r43))
def pD (U:Nat) (p1:aL) (a49:dM) (ag48:c_->Option (Int)):Option (Int):=
 if a49.2<(List.length p1:Int)then(ck (0<=a49.2∧a49.2<(List.length p1:Int)) (ag48 ((wI .i64 (a49.1+(at' p1 a49.2))),(wI .i64 (a49.2+(1:Int))))))else(yO U (a49.1))
def wR (U:Nat) (p0:Int) (p1:aL):Option (Int):=
 if p0=(20:Int)then(Option.bind (mY U p1) fun r2=>(Option.bind (fT U (decide (r2=(List.length p1:Int)))) fun r5=>(some (r5))))else(if p0=(21:Int)then(Option.bind (mY U p1) fun r9=>(Option.bind (fT U (decide ((0:Int)<r9))) fun r12=>(some (r12))))else(if p0=(22:Int)then(Option.bind (mY U p1) fun r16=>(some (r16)))else(if p0=(23:Int)then(Option.bind (kI U p1 (fun y0=>lP U y0)) fun r20=>(some (r20)))else(if p0=(24:Int)then(bD (pC p1) U ((1073741824:Int),(0:Int)))else(if p0=(25:Int)then(Option.bind (mZ U p1) fun r36=>(some (r36.1)))else(if p0=(26:Int)then(bD (pD U p1) U ((0:Int),(0:Int)))else(if p0=(27:Int)then(Option.bind (vW U p1) fun r55=>(some (r55)))else(if p0=(28:Int)then(Option.bind (mZ U p1) fun r59=>(some (r59.2)))else(if(List.length p1:Int)=(0:Int)then(some (0:Int))else(ck (0<=(0:Int)∧(0:Int)<(List.length p1:Int)) (some (at' p1 (0:Int)))))))))))))
theorem TP:aN Tryz.prog 257:=Tryz.call257
theorem Kk (U:Nat) {p0:Int} {p1:aL} (v0:Value) (r:Int) (h:wR U p0 p1=some r):
  aT Tryz.prog 257 #[vI (p0),v0] [Sl bK v0 p1] (fun x:Unit=>vI (r)) (fun x l=>l) (fun _ l=>l):=by
 refine aT.of Tryz.func257 rfl Tryz.ntmps257 rfl fun c=>?_
 refine sqR<|qkAsg rfl<|dtN<|aH<|sqR<|qkMove rfl<|dtN<|aM<|sqR<|qkEql rfl<|qkAsg rfl<|dtN ?_
 refine eN h rfl (fun h=>?_) fun h=>?_
 ·refine sqR<|qkMove rfl<|bnE h fun r2 w3 h=>aF (aJ.callQ HN (y_ U v0 r2 w3) rfl (nY [0] rfl)) rfl fun x4=>qkMove rfl<|qkLen (aC.fact 0 rfl) rfl<|qkEql rfl<|bnE h fun r5 w6 h=>aF (aJ.callQ tI (iS U  r5 w6) rfl .nil) rfl fun x7=>qkAsg rfl<|dtN<|aP<|bJ<|aG ?_
  cases h
  exact kW rfl
 refine sqR<|qkEql rfl<|qkAsg rfl<|dtN ?_
 refine eN h rfl (fun h=>?_) fun h=>?_
 ·refine sqR<|qkMove rfl<|bnE h fun r9 w10 h=>aF (aJ.callQ HN (y_ U v0 r9 w10) rfl (nY [0] rfl)) rfl fun x11=>aB (vM rfl rfl) rfl<|bnE h fun r12 w13 h=>aF (aJ.callQ tI (iS U  r12 w13) rfl .nil) rfl fun x14=>qkAsg rfl<|dtN<|aP<|bJ<|aG ?_
  cases h
  exact kW rfl
 refine sqR<|qkEql rfl<|qkAsg rfl<|dtN ?_
 refine eN h rfl (fun h=>?_) fun h=>?_
 ·refine sqR<|qkMove rfl<|bnE h fun r16 w17 h=>aF (aJ.callQ HN (y_ U v0 r16 w17) rfl (nY [0] rfl)) rfl fun x18=>qkAsg rfl<|dtN<|aP<|bJ<|aG ?_
  cases h
  exact kW rfl
 refine sqR<|qkEql rfl<|qkAsg rfl<|dtN ?_
 refine eN h rfl (fun h=>?_) fun h=>?_
 ·refine sqR<|qkMove rfl<|bnE h fun r20 w21 h=>aF (aJ.callQ TR (BR U 271 [] [] TS (fun y0 r h=>Gv U  r h) v0 r20 w21) rfl (nY [0] rfl)) rfl fun x22=>qkAsg rfl<|dtN<|aP<|bJ<|aG ?_
  cases h
  exact kW rfl
 refine sqR<|qkEql rfl<|qkAsg rfl<|dtN ?_
 refine eN h rfl (fun h=>?_) fun h=>?_
 ·refine sqR<|qkAsg rfl<|dtN<|aH<|midU (fun a25=>uZ  a25=some r) (fun a25 b26=>[(5,vI (a25))]) (fun a25 b26=>[]) ?_ ?_
  ·refine sqR<|qkMove rfl<|qkLen (aC.fact 0 rfl) rfl<|qkMove rfl<|dtN<|aM<|loopL (pC p1) (fun a30 b31=>[(5,vI (a30.1)),(40,v0),(41,vI (List.length p1:Int)),(42,vI (a30.2))]) (fun a30 b31=>[]) ((1073741824:Int),(0:Int)) () h SF (aW.refl _) ?_
   intro k32 a30 b31 h
   refine sqR<|qkLss rfl<|dtN<|aH ?_
   refine eN h rfl (fun h=>?_) fun h=>?_
   ·refine cF<|aH<|aM<|sqR<|ckE h fun j34 h=>aB (aY rfl rfl (aC.fact 0 rfl) rfl rfl j34) rfl<|aB (bY rfl (aC.fact 0 rfl) rfl rfl rfl eI j34) rfl<|qkAsg rfl<|dtN<|aK<|qkMove rfl<|qkMove rfl<|aB (Vb rfl rfl) rfl<|qkAsg rfl<|dA<|inT<|aK<|qkAdd rfl<|qkMove rfl<|dtN ?_
    exact xO ((min a30.1 (at' p1 a30.2)),(wI .i64 (a30.2+(1:Int)))) () h SF rfl
   refine fL ?_
   exact iG (a30.1) () h SF rfl
  intro a25 b26 h
  unfold uZ at h
  refine sqR<|qkMove rfl<|qkAsg rfl<|dtN<|aP<|bJ<|aG ?_
  cases h
  exact kW rfl
 refine sqR<|qkEql rfl<|qkAsg rfl<|dtN ?_
 refine eN h rfl (fun h=>?_) fun h=>?_
 ·refine sqR<|qkMove rfl<|bnE h fun r36 w37 h=>aF (aJ.callQ MD (wD U v0 r36 w37) rfl (nY [0] rfl)) rfl fun x38=>qkMove rfl<|qkExt rfl<|qkExt rfl<|qkAsg rfl<|qkAsg rfl<|dtN<|sqR<|qkMove rfl<|qkAsg rfl<|dtN<|aP<|bJ<|aG ?_
  cases h
  exact kW rfl
 refine sqR<|qkEql rfl<|qkAsg rfl<|dtN ?_
 refine eN h rfl (fun h=>?_) fun h=>?_
 ·refine sqR<|qkAsg rfl<|dtN<|aH<|midU (fun a41=>yO U a41=some r) (fun a41 b42=>[(10,vI (a41))]) (fun a41 b42=>[]) ?_ ?_
  ·refine sqR<|qkMove rfl<|qkLen (aC.fact 0 rfl) rfl<|qkMove rfl<|dtN<|aM<|loopL (pD U p1) (fun a49 b50=>[(10,vI (a49.1)),(61,v0),(62,vI (List.length p1:Int)),(63,vI (a49.2))]) (fun a49 b50=>[]) ((0:Int),(0:Int)) () h SF (aW.refl _) ?_
   intro k51 a49 b50 h
   refine sqR<|qkLss rfl<|dtN<|aH ?_
   refine eN h rfl (fun h=>?_) fun h=>?_
   ·refine cF<|aH<|aM<|sqR<|ckE h fun j53 h=>aB (aY rfl rfl (aC.fact 0 rfl) rfl rfl j53) rfl<|aB (bY rfl (aC.fact 0 rfl) rfl rfl rfl eI j53) rfl<|qkAsg rfl<|dtN<|aK<|qkMove rfl<|qkMove rfl<|qkAdd rfl<|qkAsg rfl<|dA<|inT<|aK<|qkAdd rfl<|qkMove rfl<|dtN ?_
    exact xO ((wI .i64 (a49.1+(at' p1 a49.2))),(wI .i64 (a49.2+(1:Int)))) () h SF rfl
   refine fL ?_
   exact iG (a49.1) () h SF rfl
  intro a41 b42 h
  refine sqR<|qkMove rfl<|bnE h fun r43 w44 h=>aF (aJ.callQ AI (jV U  r43 w44) rfl .nil) rfl fun x45=>qkAsg rfl<|dtN<|aP<|bJ<|aG ?_
  cases h
  exact kW rfl
 refine sqR<|qkEql rfl<|qkAsg rfl<|dtN ?_
 refine eN h rfl (fun h=>?_) fun h=>?_
 ·refine sqR<|qkMove rfl<|bnE h fun r55 w56 h=>aF (aJ.callQ TT (LW U v0 r55 w56) rfl (nY [0] rfl)) rfl fun x57=>qkAsg rfl<|dtN<|aP<|bJ<|aG ?_
  cases h
  exact kW rfl
 refine sqR<|qkEql rfl<|qkAsg rfl<|dtN ?_
 refine eN h rfl (fun h=>?_) fun h=>?_
 ·refine sqR<|qkMove rfl<|bnE h fun r59 w60 h=>aF (aJ.callQ MD (wD U v0 r59 w60) rfl (nY [0] rfl)) rfl fun x61=>qkMove rfl<|qkExt rfl<|qkExt rfl<|qkAsg rfl<|qkAsg rfl<|dtN<|sqR<|qkMove rfl<|qkAsg rfl<|dtN<|aP<|bJ<|aG ?_
  cases h
  exact kW rfl
 refine dO<|inT<|aH<|sqR<|qkMove rfl<|qkLen (aC.fact 0 rfl) rfl<|qkEql rfl<|dtN ?_
 refine eN h rfl (fun h=>?_) fun h=>?_
 ·refine sqR<|qkAsg rfl<|dtN<|aP<|aG ?_
  cases h
  exact kW rfl
 refine cF<|sqR<|qkMove rfl<|ckE h fun j63 h=>aB (aY rfl rfl (aC.fact 0 rfl) rfl rfl j63) rfl<|aB (bY rfl (aC.fact 0 rfl) rfl rfl rfl eI j63) rfl<|qkAsg rfl<|dtN<|aP ?_
 cases h
 exact kW rfl
end
section
def kN  (a17:dM):Option c_:=
 some (a17.1,a17.2)
def g_ (U:Nat) (p0:IB) (p1:Int) (a23:oU) (a26:Int):Option c_:=
 ck (0<=(List.length (at' p0.1.2.1.2 p0.2.2.1):Int)∧(List.length (at' p0.1.2.1.2 p0.2.2.1):Int)<=((24:Nat):Int)∧(List.length (at' p0.1.2.1.2 p0.2.2.1):Int)<=(List.length a23.2:Int)) (Option.bind (wR U ((at' p0.2.2.2 p1).1) (List.take (Int.toNat (List.length (at' p0.1.2.1.2 p0.2.2.1):Int)) a23.2)) fun r29=>(kN  (r29,a26)))
def nX (U:Nat) (p0:IB) (p1:Int) (a23:oU):Option c_:=
 if(List.length (at' p0.1.2.1.2 p0.2.2.1):Int)=(0:Int)then(Option.bind (yU U p0.2.2.2 p1) fun r33=>(g_ U p0 p1 a23 (r33)))else(g_ U p0 p1 a23 (a23.1))
def hZ (U:Nat) (p0:IB) (p1:Int) (rc:UP->Int->Int->Option c_) (a40:Int×Int×aL) (ag39:(Int×Int×aL)->Option c_):Option c_:=
 if a40.2.1<(List.length (at' p0.1.2.1.2 p0.2.2.1):Int)then(Option.bind (rc ((((((p0.1.1.1,p0.1.1.2.1,p0.1.1.2.2)),((p0.1.2.1.1,p0.1.2.1.2)),p0.1.2.2.1,p0.1.2.2.2)),p0.2.1,p0.2.2.1,p0.2.2.2)) (wI .i64 (p1+(1:Int))) a40.2.1) fun r44=>(ck ((0<=a40.2.1∧a40.2.1<((24:Nat):Int))∧List.length a40.2.2=24) (ag39 (r44.2,(wI .i64 (a40.2.1+(1:Int))),(List.set a40.2.2 (Int.toNat a40.2.1) r44.1)))))else(nX U p0 p1 (a40.1,a40.2.2))
def cA (rc:UP->Int->Int->Option c_) (U:Nat) (p0:IB) (p1:Int) (p2:Int):Option c_:=
 ck (0<=p1∧p1<(List.length p0.2.2.2:Int)) (if((at' p0.2.2.2 p1).1)<=(17:Int)then(Option.bind (jJ U ((((((p0.1.1.1,p0.1.1.2.1,p0.1.1.2.2)),((p0.1.2.1.1,p0.1.2.1.2)),p0.1.2.2.1,p0.1.2.2.2)),p0.2.1,p0.2.2.1,p0.2.2.2)) ((((at' p0.2.2.2 p1).1),((at' p0.2.2.2 p1).2))) p2) fun r4=>(some (r4,(wI .i64 (p1+(1:Int))))))else(if((at' p0.2.2.2 p1).1)<=(19:Int)then(Option.bind (rc ((((((p0.1.1.1,p0.1.1.2.1,p0.1.1.2.2)),((p0.1.2.1.1,p0.1.2.1.2)),p0.1.2.2.1,p0.1.2.2.2)),p0.2.1,p0.2.2.1,p0.2.2.2)) (wI .i64 (p1+(1:Int))) p2) fun r8=>(Option.bind (vA U ((at' p0.2.2.2 p1).1) r8.1) fun r11=>(some (r11,r8.2))))else(if((at' p0.2.2.2 p1).1)<=(29:Int)then(ck (0<=p0.2.2.1∧p0.2.2.1<(List.length p0.1.2.1.2:Int)) (bD (hZ U p0 p1 rc) U ((0:Int),(0:Int),(List.replicate 24 (0:Int)))))else(if((at' p0.2.2.2 p1).1)<=(42:Int)then(Option.bind (rc ((((((p0.1.1.1,p0.1.1.2.1,p0.1.1.2.2)),((p0.1.2.1.1,p0.1.2.1.2)),p0.1.2.2.1,p0.1.2.2.2)),p0.2.1,p0.2.2.1,p0.2.2.2)) (wI .i64 (p1+(1:Int))) p2) fun r49=>(Option.bind (rc ((((((p0.1.1.1,p0.1.1.2.1,p0.1.1.2.2)),((p0.1.2.1.1,p0.1.2.1.2)),p0.1.2.2.1,p0.1.2.2.2)),p0.2.1,p0.2.2.1,p0.2.2.2)) r49.2 p2) fun r52=>(Option.bind (tM U ((at' p0.2.2.2 p1).1) r49.1 r52.1) fun r55=>(some (r55,r52.2)))))else(Option.bind (rc ((((((p0.1.1.1,p0.1.1.2.1,p0.1.1.2.2)),((p0.1.2.1.1,p0.1.2.1.2)),p0.1.2.2.1,p0.1.2.2.2)),p0.2.1,p0.2.2.1,p0.2.2.2)) (wI .i64 (p1+(1:Int))) p2) fun r58=>(Option.bind (rc ((((((p0.1.1.1,p0.1.1.2.1,p0.1.1.2.2)),((p0.1.2.1.1,p0.1.2.1.2)),p0.1.2.2.1,p0.1.2.2.2)),p0.2.1,p0.2.2.1,p0.2.2.2)) r58.2 p2) fun r61=>(Option.bind (rc ((((((p0.1.1.1,p0.1.1.2.1,p0.1.1.2.2)),((p0.1.2.1.1,p0.1.2.1.2)),p0.1.2.2.1,p0.1.2.2.2)),p0.2.1,p0.2.2.1,p0.2.2.2)) r61.2 p2) fun r64=>(if r58.1≠(0:Int)then(some (r61.1,r64.2))else(some (r64.1,r64.2))))))))))
def bE:Nat->UP->Int->Int->Option c_
 |0,_,_,_=>none
 |U+1,p0,p1,p2=>cA (bE U) U p0 p1 p2
theorem wP:aN Tryz.prog 209:=Tryz.call209
theorem yZ (rc:UP->Int->Int->Option c_) (U:Nat) (hrc:∀{p0:IB} {p1:Int} {p2:Int} (bx0:Nat)  (bx1:Nat)  (v2:Value)  (v3:Value)  (v4:Value)  (v5:Value)  (z6:mT)  (v7:Value)  (z8:qK)  (v9:Value)  (z10:qK)  (v11:Value) (r:dM),rc p0 p1 p2=some r->aT Tryz.prog 209 #[vP bx0,vI (p1),vI (p2)] [bT bx0 [vP bx1,v9,vI (p0.2.2.1),v11] 262,bT bx1 [vS (p0.1.1.1),v2,v3,v4,v5,vI (p0.1.2.2.1),v7] 218,Sl aI v2 p0.1.1.2.1,Sl aE v3 p0.1.1.2.2,Sl bK v4 p0.1.2.1.1,S2 aZ v5 z6 p0.1.2.1.2,S2 bK v7 z8 p0.1.2.2.2,S2 bK v9 z10 p0.2.1,Sl aZ v11 p0.2.2.2] (fun x:Unit=>Value.tuple #[vI (r.1),vI (r.2)]) (fun x l=>l) (fun _ l=>l)) {p0:IB} {p1:Int} {p2:Int} (bx0:Nat)  (bx1:Nat)  (v2:Value)  (v3:Value)  (v4:Value)  (v5:Value)  (z6:mT)  (v7:Value)  (z8:qK)  (v9:Value)  (z10:qK)  (v11:Value) (r:dM) (h:cA rc U p0 p1 p2=some r):
  aT Tryz.prog 209 #[vP bx0,vI (p1),vI (p2)] [bT bx0 [vP bx1,v9,vI (p0.2.2.1),v11] 262,bT bx1 [vS (p0.1.1.1),v2,v3,v4,v5,vI (p0.1.2.2.1),v7] 218,Sl aI v2 p0.1.1.2.1,Sl aE v3 p0.1.1.2.2,Sl bK v4 p0.1.2.1.1,S2 aZ v5 z6 p0.1.2.1.2,S2 bK v7 z8 p0.1.2.2.2,S2 bK v9 z10 p0.2.1,Sl aZ v11 p0.2.2.2] (fun x:Unit=>Value.tuple #[vI (r.1),vI (r.2)]) (fun x l=>l) (fun _ l=>l):=by
 refine aT.of Tryz.func209 rfl Tryz.ntmps209 rfl fun c=>?_
 refine sqR<|qkAsg rfl<|qkAsg rfl<|dtN<|sqR<|qkMove rfl<|aB (bL rfl) rfl<|qkFld rfl<|aB (cQ rfl (aC.fact 0 rfl) rfl rfl rfl) rfl<|qkMove rfl<|ckE h fun j1 h=>aB (aY rfl rfl (aC.fact 8 rfl) rfl rfl j1) rfl<|aB (iJ (cs:=[vI ((at' p0.2.2.2 p1).1),vI ((at' p0.2.2.2 p1).2)]) rfl (aC.fact 8 rfl) bI rfl rfl rfl rfl j1) rfl<|aF (aJ.alloc (cs:=Sp) rfl rfl) rfl fun b2=>bB 0 (vs:=[vI ((at' p0.2.2.2 p1).1),vI ((at' p0.2.2.2 p1).2)]) rfl rfl rfl rfl rfl rfl<|dtN<|aH<|aM<|sqR<|qkFld rfl<|qkLd 0 rfl<|aB (wN rfl rfl) rfl<|qkAsg rfl<|dtN ?_
 refine eN h rfl (fun h=>?_) fun h=>?_
 ·refine sqR<|qkMove rfl<|qkLdA 0 rfl<|qkMove rfl<|bnE h fun r4 w5 h=>aF (aJ.callQ TL (Ba U bx0 bx1 v2 v3 v4 v5 z6 v7 z8 v9 z10 v11 r4 w5) rfl (nY [0,1,2,3,4,5,6,7,8] rfl)) rfl fun x6=>qkMove rfl<|qkAdd rfl<|qkAsg rfl<|qkAsg rfl<|dtN<|aP<|bJ<|aG ?_
  cases h
  exact fI () rfl rfl (RV.tmp rfl) (RV.tmp rfl) .nil aD.nil
 refine sqR<|qkFld rfl<|qkLd 0 rfl<|aB (wN rfl rfl) rfl<|qkAsg rfl<|dtN ?_
 refine eN h rfl (fun h=>?_) fun h=>?_
 ·refine sqR<|qkMove rfl<|qkMove rfl<|qkAdd rfl<|qkMove rfl<|bnE h fun r8 w9 h=>aF (aJ.callQ wP (hrc bx0 bx1 v2 v3 v4 v5 z6 v7 z8 v9 z10 v11 r8 w9) rfl (nY [0,1,2,3,4,5,6,7,8] rfl)) rfl fun x10=>qkMove rfl<|qkExt rfl<|qkExt rfl<|qkAsg rfl<|qkAsg rfl<|dtN<|sqR<|qkFld rfl<|qkLd 0 rfl<|qkMove rfl<|bnE h fun r11 w12 h=>aF (aJ.callQ TM (Iv U  r11 w12) rfl .nil) rfl fun x13=>qkMove rfl<|qkAsg rfl<|qkAsg rfl<|dtN<|aP<|bJ<|aG ?_
  cases h
  exact fI () rfl rfl (RV.tmp rfl) (RV.tmp rfl) .nil aD.nil
 refine sqR<|qkFld rfl<|qkLd 0 rfl<|aB (wN rfl rfl) rfl<|qkAsg rfl<|dtN ?_
 refine eN h rfl (fun h=>?_) fun h=>?_
 ·refine sqR<|qkMove rfl<|qkFld rfl<|qkLd 0 rfl<|qkMove rfl<|Bz (A:=dM) (B:=Unit) (vs:=[vP bx0,vI ((at' p0.2.2.2 p1).1),vI (p1)]) (fun a17=>kN  a17=some r) (fun a17 b18=>Value.tuple #[vI (a17.1),vI (a17.2)]) (fun a17 b18=>[]) (fun a17 b18=>[bT bx0 [vP bx1,v9,vI (p0.2.2.1),v11] 262,bT bx1 [vS (p0.1.1.1),v2,v3,v4,v5,vI (p0.1.2.2.1),v7] 218,Sl aI v2 p0.1.1.2.1,Sl aE v3 p0.1.1.2.2,Sl bK v4 p0.1.2.1.1,S2 aZ v5 z6 p0.1.2.1.2,S2 bK v7 z8 p0.1.2.2.2,S2 bK v9 z10 p0.2.1,Sl aZ v11 p0.2.2.2]) (uQ.fn (show aN Tryz.prog 235 from Tryz.call235) rfl) Tryz.func235 rfl Tryz.ntmps235 rfl rfl ?_ ?_
  ·refine sqR<|qkAsg rfl<|qkAsg rfl<|dtN<|sqR ?_
   refine aF (aJ.alloc (cs:=cellsOf bV (List.replicate 24 (0:Int))) rfl (by kernel_rfl)) rfl fun b19=>?_
   refine dtN<|aH ?_
   refine JR.start [0,1,3,7,15,31,63,127,0,256,768,1792,4095,8191,16383,32767] 12 mixedOrders (by decide +kernel) ?_
   refine JR.open (by exact rfl) ?_
   refine jkMove rfl<|jqN rfl (bL rfl)<|jkFld rfl<|bH rfl .nil (qF 0 rfl) (cQ rfl (aC.fact 0 rfl) rfl rfl rfl) aO.z<|jqN rfl (bL rfl)<|jkFld rfl<|jkFld rfl<|bH rfl .nil (qF 1 rfl) (cQ rfl (aC.fact 0 rfl) rfl rfl rfl) aO.z<|jkMove rfl<|jqN rfl (bL rfl)<|jkFld rfl<|bH rfl .nil (qF 0 rfl) (cQ rfl (aC.fact 0 rfl) rfl rfl rfl) aO.z<|bS 12 rfl rfl<|ckE h fun j20 h=>aB (dL rfl rfl (aC.fact 5 rfl) rfl rfl j20) rfl<|aB (dW rfl (aC.fact 5 rfl) rfl rfl j20) rfl<|aB (jF rfl (aC.el (aC.fact 5 rfl) j20.1 j20.2) rfl) rfl<|qkAsg rfl<|dtN<|aH<|midU (fun a23=>nX U p0 p1 a23=some r) (fun a23 b24=>[(0,vP bx0),(1,vI ((at' p0.2.2.2 p1).1)),(2,vI (p1)),(7,vI (a23.1)),(8,vP b19),(9,vI (List.length (at' p0.1.2.1.2 p0.2.2.1):Int))]) (fun a23 b24=>[bT b19 (cellsOf bV a23.2) 144]) ?_ ?_
   ·refine sqR<|qkMove rfl<|qkMove rfl<|dtN<|aM<|loopL (hZ U p0 p1 rc) (fun a40 b41=>[(0,vP bx0),(1,vI ((at' p0.2.2.2 p1).1)),(2,vI (p1)),(7,vI (a40.1)),(8,vP b19),(9,vI (List.length (at' p0.1.2.1.2 p0.2.2.1):Int)),(26,vI (List.length (at' p0.1.2.1.2 p0.2.2.1):Int)),(27,vI (a40.2.1))]) (fun a40 b41=>[bT b19 (cellsOf bV a40.2.2) 144]) ((0:Int),(0:Int),(List.replicate 24 (0:Int))) () h SF (aW.ix [0] rfl rfl) ?_
    intro k42 a40 b41 h
    refine sqR<|qkLss rfl<|dtN<|aH ?_
    refine eN h rfl (fun h=>?_) fun h=>?_
    ·refine cF<|aH<|aM<|sqR<|qkMove rfl<|qkAsg rfl<|dtN<|aK<|qkMove rfl<|qkMove rfl<|qkMove rfl<|qkAdd rfl<|qkMove rfl<|bnE h fun r44 w45 h=>aF (aJ.callQ wP (hrc bx0 bx1 v2 v3 v4 v5 z6 v7 z8 v9 z10 v11 r44 w45) rfl (nY [0,1,2,3,4,5,6,7,8] rfl)) rfl fun x46=>qkMove rfl<|qkExt rfl<|qkExt rfl<|ckE h fun j47 h=>aB (iI rfl rfl rfl rfl rfl j47.1) rfl<|BA 0 (e:=bV) r44.1 j47 rfl rfl rfl rfl rfl rfl rfl<|qkAsg rfl<|dA<|inT<|aK<|qkAdd rfl<|qkMove rfl<|dtN ?_
     exact xO (r44.2,(wI .i64 (a40.2.1+(1:Int))),(List.set a40.2.2 (Int.toNat a40.2.1) r44.1)) () h SF rfl
    refine fL ?_
    exact iG (a40.1,a40.2.2) () h SF rfl
   intro a23 b24 h
   refine aH<|midU (fun a26=>g_ U p0 p1 a23 a26=some r) (fun a26 b27=>[(1,vI ((at' p0.2.2.2 p1).1)),(7,vI (a26)),(8,vP b19),(9,vI (List.length (at' p0.1.2.1.2 p0.2.2.1):Int))]) (fun a26 b27=>[bT b19 (cellsOf bV a23.2) 144]) ?_ ?_
   ·refine sqR<|qkMove rfl<|qkEql rfl<|dtN ?_
    refine eN h rfl (fun h=>?_) fun h=>?_
    ·refine aK<|qkMove rfl<|aB (bL rfl) rfl<|qkFld rfl<|aB (cQ rfl (aC.fact 0 rfl) rfl rfl rfl) rfl<|qkMove rfl<|bnE h fun r33 w34 h=>aF (aJ.callQ TJ (LX U v11 r33 w34) rfl (nY [8] rfl)) rfl fun x35=>qkAsg rfl<|dtN ?_
     exact iG (r33) () h SF rfl
    refine cF ?_
    exact iG (a23.1) () h SF rfl
   intro a26 b27 h
   refine sqR<|qkMove rfl<|qkMove rfl<|ckE h fun j28 h=>aB (Lc rfl rfl rfl rfl j28) rfl<|bnE h fun r29 w30 h=>aF (aJ.callQ TP (Kk U (Value.slice (some ⟨b19,0,none⟩) (Int.toNat (List.length (at' p0.1.2.1.2 p0.2.2.1):Int)) 24) r29 w30) rfl (aD.cons (Pv (i:=0) rfl cW j28 (by decide)) .nil)) rfl fun x31=>?_
   refine qkMove rfl<|qkAsg rfl<|qkAsg rfl<|dtN<|aP ?_
   exact wX (r29,a26) () h (.inl rfl) (Gk.r2 rfl (RV.tmp rfl) (RV.tmp rfl)) rfl .nil (aD.refl _ _)
  intro a17 b18 h
  unfold kN at h
  refine qkExt rfl<|qkExt rfl<|qkAsg rfl<|qkAsg rfl<|dtN<|aP<|bJ<|aG ?_
  cases h
  exact fI () rfl rfl (RV.tmp rfl) (RV.tmp rfl) (aW.refl _) aD.nil
 refine sqR<|qkFld rfl<|qkLd 0 rfl<|aB (wN rfl rfl) rfl<|qkAsg rfl<|dtN ?_
 refine eN h rfl (fun h=>?_) fun h=>?_
 ·refine sqR<|qkMove rfl<|qkMove rfl<|qkAdd rfl<|qkMove rfl<|bnE h fun r49 w50 h=>aF (aJ.callQ wP (hrc bx0 bx1 v2 v3 v4 v5 z6 v7 z8 v9 z10 v11 r49 w50) rfl (nY [0,1,2,3,4,5,6,7,8] rfl)) rfl fun x51=>qkMove rfl<|qkExt rfl<|qkExt rfl<|qkAsg rfl<|qkAsg rfl<|dtN<|sqR<|qkMove rfl<|qkMove rfl<|qkMove rfl<|bnE h fun r52 w53 h=>aF (aJ.callQ wP (hrc bx0 bx1 v2 v3 v4 v5 z6 v7 z8 v9 z10 v11 r52 w53) rfl (nY [0,1,2,3,4,5,6,7,8] rfl)) rfl fun x54=>qkMove rfl<|qkExt rfl<|qkExt rfl<|qkAsg rfl<|qkAsg rfl<|dtN<|sqR<|qkFld rfl<|qkLd 0 rfl<|qkMove rfl<|qkMove rfl<|bnE h fun r55 w56 h=>aF (aJ.callQ TN (Gu U  r55 w56) rfl .nil) rfl fun x57=>qkMove rfl<|qkAsg rfl<|qkAsg rfl<|dtN<|aP<|bJ<|aG ?_
  cases h
  exact fI () rfl rfl (RV.tmp rfl) (RV.tmp rfl) .nil aD.nil
 refine dO<|inT<|sqR<|qkMove rfl<|qkMove rfl<|qkAdd rfl<|qkMove rfl<|bnE h fun r58 w59 h=>aF (aJ.callQ wP (hrc bx0 bx1 v2 v3 v4 v5 z6 v7 z8 v9 z10 v11 r58 w59) rfl (nY [0,1,2,3,4,5,6,7,8] rfl)) rfl fun x60=>qkMove rfl<|qkExt rfl<|qkExt rfl<|qkAsg rfl<|qkAsg rfl<|dtN<|sqR<|qkMove rfl<|qkMove rfl<|qkMove rfl<|bnE h fun r61 w62 h=>aF (aJ.callQ wP (hrc bx0 bx1 v2 v3 v4 v5 z6 v7 z8 v9 z10 v11 r61 w62) rfl (nY [0,1,2,3,4,5,6,7,8] rfl)) rfl fun x63=>qkMove rfl<|qkExt rfl<|qkExt rfl<|qkAsg rfl<|qkAsg rfl<|dtN<|sqR<|qkMove rfl<|qkMove rfl<|qkMove rfl<|bnE h fun r64 w65 h=>aF (aJ.callQ wP (hrc bx0 bx1 v2 v3 v4 v5 z6 v7 z8 v9 z10 v11 r64 w65) rfl (nY [0,1,2,3,4,5,6,7,8] rfl)) rfl fun x66=>qkMove rfl<|qkExt rfl<|qkExt rfl<|qkAsg rfl<|qkAsg rfl<|dtN<|aH<|sqR<|qkMove rfl<|qkNeq rfl<|dtN ?_
 refine eN h rfl (fun h=>?_) fun h=>?_
 ·refine sqR<|qkMove rfl<|qkMove rfl<|qkAsg rfl<|qkAsg rfl<|dtN<|aP<|aG ?_
  cases h
  exact fI () rfl rfl (RV.tmp rfl) (RV.tmp rfl) .nil aD.nil
 refine cF<|sqR<|qkMove rfl<|qkMove rfl<|qkAsg rfl<|qkAsg rfl<|dtN<|aP ?_
 cases h
 exact fI () rfl rfl (RV.tmp rfl) (RV.tmp rfl) .nil aD.nil
theorem Ap (U:Nat):∀{p0:IB} {p1:Int} {p2:Int} (bx0:Nat)  (bx1:Nat)  (v2:Value)  (v3:Value)  (v4:Value)  (v5:Value)  (z6:mT)  (v7:Value)  (z8:qK)  (v9:Value)  (z10:qK)  (v11:Value) (r:dM),bE U p0 p1 p2=some r->
  aT Tryz.prog 209 #[vP bx0,vI (p1),vI (p2)] [bT bx0 [vP bx1,v9,vI (p0.2.2.1),v11] 262,bT bx1 [vS (p0.1.1.1),v2,v3,v4,v5,vI (p0.1.2.2.1),v7] 218,Sl aI v2 p0.1.1.2.1,Sl aE v3 p0.1.1.2.2,Sl bK v4 p0.1.2.1.1,S2 aZ v5 z6 p0.1.2.1.2,S2 bK v7 z8 p0.1.2.2.2,S2 bK v9 z10 p0.2.1,Sl aZ v11 p0.2.2.2] (fun x:Unit=>Value.tuple #[vI (r.1),vI (r.2)]) (fun x l=>l) (fun _ l=>l):=by
 induction U with
 |zero=>intros;rename_i h;cases h
 |succ U ih=>exact fun bx0 bx1 v2 v3 v4 v5 z6 v7 z8 v9 z10 v11 r h=>yZ (bE U) U ih bx0 bx1 v2 v3 v4 v5 z6 v7 z8 v9 z10 v11 r h
end
end Go.Proofs.YtjlbcgddhnjcjaaGreatDoor
end
