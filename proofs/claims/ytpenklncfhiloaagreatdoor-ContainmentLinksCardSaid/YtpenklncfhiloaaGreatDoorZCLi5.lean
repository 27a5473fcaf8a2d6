/- Models and proofs. Conditions: none. -/
import Derived.Test.YtpenklncfhiloaaGreatDoorZCLi2
import Derived.Test.YtpenklncfhiloaaGreatDoorZCLi4
import Derived.Test.YtpenklncfhiloaaGreatDoorZCLi1
set_option linter.unusedVariables false
set_option linter.unusedSimpArgs false
set_option maxHeartbeats 4000000
set_option maxRecDepth 20000
section
namespace Go.Proofs.YtpenklncfhiloaaGreatDoor
open Go.Sx
section
def tR (c:(List ((Int×Int)×Int))) (a:(Int×Int)×Int) (b:Option (Bool)):Option (Bool):=
 if(Option.getD (lI (a.1.2,a.1.1) c) (0:Int))≠a.2 then(some (false))else(b)
def gW  (a:(List ((Int×Int)×Int))):Option (Bool):=
 IC (tR a) (some (true)) a
def lQ (b:Gc) (a:Jw->Option (Bool)) (c:(List ((Int×Int)×Int))):Option (Bool):=
 a ((wI .i64 (b.1+(1:Int))),c)
def gX (p0:cJ) (b:Gc) (a:Gc) (c:Jw->Option (Bool)) (d:Bool):Option (Bool):=
 if d=true then(some (false))else(if(Option.isSome (lI (b.1,((at' (at' p0 b.1) a.1).1)) a.2))=true then(some (false))else(c ((wI .i64 (a.1+(1:Int))),(AY (b.1,((at' (at' p0 b.1) a.1).1)) ((at' (at' p0 b.1) a.1).2) a.2))))
def fP (p0:cJ) (a:Gc) (b:Gc) (c:Jw->Option (Bool)) (d:Bool):Option (Bool):=
 if d=true then(some (false))else(if((at' (at' p0 a.1) b.1).2)<(1:Int)then(gX p0 a b c (true))else(gX p0 a b c (decide ((15:Int)<((at' (at' p0 a.1) b.1).2)))))
def cD (p0:cJ) (a:Gc) (d:Jw->Option (Bool)) (b:Gc) (c:Jw->Option (Bool)):Option (Bool):=
 if b.1<(List.length (at' p0 a.1):Int)then(ck (0<=b.1∧b.1<(List.length (at' p0 a.1):Int)) (if((at' (at' p0 a.1) b.1).1)<(0:Int)then(fP p0 a b c (true))else(if(List.length p0:Int)<=((at' (at' p0 a.1) b.1).1)then(fP p0 a b c (true))else(fP p0 a b c (decide (((at' (at' p0 a.1) b.1).1)=a.1))))))else(lQ a d (b.2))
def cP (U:Nat) (p0:cJ) (a:Gc) (b:Jw->Option (Bool)):Option (Bool):=
 if a.1<(List.length p0:Int)then(ck (0<=a.1∧a.1<(List.length p0:Int)) (bM (cD p0 a b) U ((0:Int),a.2)))else(gW  (a.2))
def fJ (U:Nat) (p0:cJ):Option (Bool):=
 bM (cP U p0) U ((0:Int),([]:List ((Int×Int)×Int)))
theorem Yb:aO Tryz.prog 62:=Tryz.call62
theorem EB (U:Nat) {p0:cJ} (v0:Value)  (z1:jT) (r:Bool) (h:fJ U p0=some r):
  aV Tryz.prog 62 #[v0] [S2 aW v0 z1 p0] (fun x:Unit=>vB (r)) (fun x l=>l) (fun _ l=>l):=by
 refine aV.of Tryz.func62 rfl Tryz.ntmps62 rfl fun c=>?_
 unfold fJ at h
 refine sqR<|qkAsg rfl<|dtN<|sqR<|aE (aG.makeMap mB MS) rfl fun b1=>qkAsg rfl<|dtN<|aH<|midU (fun a3=>gW  a3=some r) (fun a3 b4=>[(3,Value.map (some b1))]) (fun a3 b4=>[Mp mB MS b1 a3]) ?_ ?_
 ·refine sqR<|qkMove rfl<|aB (iY rfl (aC.fact 0 rfl) rfl) rfl<|qkMove rfl<|dtN<|aR<|loopL (cP U p0) (fun a17 b18=>[(0,v0),(3,Value.map (some b1)),(14,v0),(15,vI (List.length p0:Int)),(16,vI (a17.1))]) (fun a17 b18=>[Mp mB MS b1 a17.2]) ((0:Int),([]:List ((Int×Int)×Int))) () h SF (aS.refl _) ?_
  intro k19 a17 b18 h
  refine sqR<|qkLss rfl<|dtN<|aH ?_
  refine eZ h rfl (fun h=>?_) fun h=>?_
  ·refine cL<|aH<|midU (fun a22=>lQ a17 (bM (cP U p0) k19) a22=some r) (fun a22 b23=>[(0,v0),(3,Value.map (some b1)),(14,v0),(15,vI (List.length p0:Int)),(16,vI (a17.1))]) (fun a22 b23=>[Mp mB MS b1 a22]) ?_ ?_
   ·refine aR<|sqR<|qkMove rfl<|ckE h fun j24 h=>aB (cG rfl rfl (aC.fact 0 rfl) rfl rfl j24) rfl<|aB (cI rfl (aC.fact 0 rfl) rfl rfl j24) rfl<|qkAsg rfl<|qkAsg rfl<|dtN<|sqR<|qkMove rfl<|aB (fM rfl (aC.el (aC.fact 0 rfl) j24.1 j24.2) rfl) rfl<|qkMove rfl<|dtN<|aR<|loopL (cD p0 a17 (bM (cP U p0) k19)) (fun a28 b29=>[(0,v0),(3,Value.map (some b1)),(4,vI (a17.1)),(14,v0),(15,vI (List.length p0:Int)),(16,vI (a17.1)),(21,(at' z1 a17.1).1),(22,vI (List.length (at' p0 a17.1):Int)),(23,vI (a28.1))]) (fun a28 b29=>[Mp mB MS b1 a28.2]) ((0:Int),a17.2) () h SF (aS.refl _) ?_
    intro k30 a28 b29 h
    refine sqR<|qkLss rfl<|dtN<|aH ?_
    refine eZ h rfl (fun h=>?_) fun h=>?_
    ·refine cL<|aH<|aR<|sqR<|ckE h fun j32 h=>aB (bG rfl rfl (aC.el (aC.fact 0 rfl) j24.1 j24.2) rfl rfl j32) rfl<|aB (gV (cs:=[vI ((at' (at' p0 a17.1) a28.1).1),vI ((at' (at' p0 a17.1) a28.1).2)]) rfl (aC.el (aC.fact 0 rfl) j24.1 j24.2) aU rfl rfl rfl rfl j32) rfl<|aE (aG.alloc (cs:=Oz) rfl rfl) rfl fun b33=>aY 0 (vs:=[vI ((at' (at' p0 a17.1) a28.1).1),vI ((at' (at' p0 a17.1) a28.1).2)]) rfl rfl rfl rfl rfl rfl<|dtN<|aH<|aH<|midU (fun a35=>fP p0 a17 a28 (bM (cD p0 a17 (bM (cP U p0) k19)) k30) a35=some r) (fun a35 b36=>[(0,v0),(3,Value.map (some b1)),(4,vI (a17.1)),(7,vP b33),(14,v0),(15,vI (List.length p0:Int)),(16,vI (a17.1)),(21,(at' z1 a17.1).1),(22,vI (List.length (at' p0 a17.1):Int)),(23,vI (a28.1)),(42,vB (a35))]) (fun a35 b36=>[bS b33 [vI ((at' (at' p0 a17.1) a28.1).1),vI ((at' (at' p0 a17.1) a28.1).2)] 77,Mp mB MS b1 a28.2]) ?_ ?_
     ·refine aM<|qkFld rfl<|qkLd 0 rfl<|qkLss rfl<|qkMove rfl ?_
      refine AS h rfl (fun _ h=>?_) fun _ h=>?_
      ·refine gdSkip rfl<|gdSkip rfl<|gdSkip rfl<|gdSkip rfl<|gdSkip rfl<|qkPkT rfl<|qkMove rfl<|gdSkip rfl<|gdSkip rfl<|gdSkip rfl<|gdSkip rfl<|qkPkT rfl<|dtN ?_
       exact iQ (true) () h SF rfl
      refine aL rfl (dD rfl rfl rfl rfl rfl) rfl<|aL rfl (d_ 0 rfl rfl rfl rfl rfl) rfl<|gyMove rfl<|aL rfl (iY rfl (aC.fact 0 rfl) rfl) rfl<|aL rfl (Bf rfl rfl) rfl<|qkPkF rfl<|qkMove rfl ?_
      refine AS h rfl (fun _ h=>?_) fun _ h=>?_
      ·refine gdSkip rfl<|gdSkip rfl<|gdSkip rfl<|gdSkip rfl<|qkPkT rfl<|dtN ?_
       exact iQ (true) () h SF rfl
      refine aL rfl (dD rfl rfl rfl rfl rfl) rfl<|aL rfl (d_ 0 rfl rfl rfl rfl rfl) rfl<|gyMove rfl<|aL rfl (yE rfl rfl) rfl<|qkPkF rfl<|dtN ?_
      exact iQ (decide (((at' (at' p0 a17.1) a28.1).1)=a17.1)) () h SF rfl
     intro a35 b36 h
     refine zQ h rfl (fun _ h=>?_) fun _ h=>?_
     ·refine sqR<|qkAsg rfl<|dtN<|aN<|aI<|bT<|aI<|aI<|bT<|bT<|aI<|aI<|bT<|aI ?_
      cases h
      exact vH rfl
     refine cL<|aH<|aH<|midU (fun a39=>gX p0 a17 a28 (bM (cD p0 a17 (bM (cP U p0) k19)) k30) a39=some r) (fun a39 b40=>[(0,v0),(3,Value.map (some b1)),(4,vI (a17.1)),(7,vP b33),(14,v0),(15,vI (List.length p0:Int)),(16,vI (a17.1)),(21,(at' z1 a17.1).1),(22,vI (List.length (at' p0 a17.1):Int)),(23,vI (a28.1)),(50,vB (a39))]) (fun a39 b40=>[bS b33 [vI ((at' (at' p0 a17.1) a28.1).1),vI ((at' (at' p0 a17.1) a28.1).2)] 77,Mp mB MS b1 a28.2]) ?_ ?_
     ·refine aM<|qkFld rfl<|qkLd 0 rfl<|qkLss rfl<|qkMove rfl ?_
      refine AS h rfl (fun _ h=>?_) fun _ h=>?_
      ·refine gdSkip rfl<|gdSkip rfl<|gdSkip rfl<|qkPkT rfl<|dtN ?_
       exact iQ (true) () h SF rfl
      refine aL rfl (dD rfl rfl rfl rfl rfl) rfl<|aL rfl (d_ 0 rfl rfl rfl rfl rfl) rfl<|aL rfl (wX rfl rfl) rfl<|qkPkF rfl<|dtN ?_
      exact iQ (decide ((15:Int)<((at' (at' p0 a17.1) a28.1).2))) () h SF rfl
     intro a39 b40 h
     refine zQ h rfl (fun _ h=>?_) fun _ h=>?_
     ·refine sqR<|qkAsg rfl<|dtN<|aN<|aI<|bT<|aI<|aI<|bT<|bT<|aI<|aI<|bT<|aI ?_
      cases h
      exact vH rfl
     refine cL<|sqR<|qkMove rfl<|qkFld rfl<|qkLd 0 rfl ?_
     refine aB (qT (r:=Value.agg #[vI (a17.1),vI ((at' (at' p0 a17.1) a28.1).1)]) rfl rfl (by intro w;simp[Instr.build,Instr.fill,bV,bQ,bK,bW,bX,bR,cC])) rfl ?_
     refine aE (aG.alloc (cs:=Oz) rfl rfl) rfl fun b42=>aY 0 (vs:=[vI (a17.1),vI ((at' (at' p0 a17.1) a28.1).1)]) rfl rfl rfl rfl rfl rfl<|dtN<|aH<|sqR<|qkMove rfl<|qkLdA 0 rfl ?_
     refine aB (Lz 2 ((a17.1,((at' (at' p0 a17.1) a28.1).1))) (u:=vI (Option.getD (lI (a17.1,((at' (at' p0 a17.1) a28.1).1)) a28.2) (0:Int))) NX rfl rfl rfl rfl rfl (by cases lI ((a17.1,((at' (at' p0 a17.1) a28.1).1))) a28.2<;>rfl)) rfl ?_
     refine qkMove rfl<|qkExt rfl<|qkExt rfl<|qkAsg rfl<|qkAsg rfl<|dtN<|sqR<|qkMove rfl<|dtN ?_
     refine zQ h rfl (fun _ h=>?_) fun _ h=>?_
     ·refine sqR<|qkAsg rfl<|dtN<|aN<|aI<|bT<|aI<|aI<|bT<|bT<|aI<|aI<|bT<|aI ?_
      cases h
      exact vH rfl
     refine cL<|aM<|qkMove rfl<|qkLdA 0 rfl<|qkFld rfl<|qkLd 1 rfl<|K_ 2 ((a17.1,((at' (at' p0 a17.1) a28.1).1))) ((at' (at' p0 a17.1) a28.1).2) NX rfl rfl rfl rfl rfl<|eI<|inT<|aM<|qkAdd rfl<|qkMove rfl<|dtN ?_
     exact kN ((wI .i64 (a28.1+(1:Int))),(AY (a17.1,((at' (at' p0 a17.1) a28.1).1)) ((at' (at' p0 a17.1) a28.1).2) a28.2)) () h SF (aS.ix [2] rfl rfl) (aA.refl _ _)
    refine qP<|eL<|eL<|wU<|inT ?_
    exact iQ (a28.2) () h SF rfl
   intro a22 b23 h
   unfold lQ at h
   refine aM<|qkAdd rfl<|qkMove rfl<|dtN ?_
   exact Ah ((wI .i64 (a17.1+(1:Int))),a22) () h SF rfl
  refine gH ?_
  exact iQ (a17.2) () h SF rfl
 intro a3 b4 h
 unfold gW at h
 refine aH<|sqR<|qkMove rfl<|aE (aG.range 0 rfl rfl rfl) rfl fun b5=>dtN<|aR<|Ve [(3,Value.map (some b1)),(69,vP b5)] [It b5 b1 (List.length a3) ([]),Mp mB MS b1 a3] [S2 aW v0 z1 p0] SF (aS.refl _) (aA.refl _ _) ?_
 refine Qh (tR a3) 1 0 (by intro a b x;unfold tR;repeat' split;all_goals first|rfl|contradiction|simp_all) h rfl rfl rfl rfl rfl rfl ?_ ?_
 ·skip
  intro kv6 i7 se8 xa9 hkv10 h
  refine aR<|sqR<|aE (aG.entry 1 0 hkv10 rfl rfl rfl) rfl fun x11=>qkExt rfl<|qkExt rfl<|aE (aG.alloc (cs:=Oz) rfl rfl) rfl fun b12=>aY 0 (vs:=[vI (kv6.1.1),vI (kv6.1.2)]) rfl rfl rfl rfl rfl rfl<|qkAsg rfl<|dtN<|sqR<|qkMove rfl ?_
  refine aB (eN (i:=1) rfl rfl rfl rfl rfl (by decide)) rfl ?_
  refine qkLd 0 rfl ?_
  refine aB (eN (i:=0) rfl rfl rfl rfl rfl (by decide)) rfl ?_
  refine qkLd 0 rfl ?_
  refine aB (qT (r:=Value.agg #[vI (kv6.1.2),vI (kv6.1.1)]) rfl rfl (by intro w;simp[Instr.build,Instr.fill,bV,bQ,bK,bW,bX,bR,cC])) rfl ?_
  refine aB (Lz 2 ((kv6.1.2,kv6.1.1)) (u:=vI (Option.getD (lI (kv6.1.2,kv6.1.1) a3) (0:Int))) NX rfl rfl rfl rfl rfl (by cases lI ((kv6.1.2,kv6.1.1)) a3<;>rfl)) rfl ?_
  refine qkMove rfl<|qkNeq rfl<|dtN ?_
  refine eZ h rfl (fun h=>?_) fun h=>?_
  ·refine sqR<|qkAsg rfl<|dtN<|aN<|bT<|aI<|bT<|aI ?_
   cases h
   exact vH rfl
  refine eJ<|inT ?_
  exact Nn h SF (aS.ix [1,2] rfl rfl) (aA.refl _ _)
 intro se8 h
 refine wU<|zC<|sqR<|qkAsg rfl<|dtN<|aN ?_
 cases h
 exact vH rfl
end
section
def oH  (a:Bool):Option (Bool):=
 some (a)
def oG (U:Nat) (p0:cT) (b:Bool):Option (Bool):=
 if b=true then(some (false))else(Option.bind (iD U p0.1) fun c=>(if c=true then(Option.bind (fJ U p0.2) fun a=>(oH  (a)))else(oH  (false))))
def dB (U:Nat) (p0:cT):Option (Bool):=
 if(List.length p0.1:Int)<(1:Int)then(oG U p0 (true))else(if(24:Int)<(List.length p0.1:Int)then(oG U p0 (true))else(oG U p0 (decide ((List.length p0.2:Int)≠(List.length p0.1:Int)))))
theorem Do:aO Tryz.prog 31:=Tryz.call31
theorem nO (U:Nat) {p0:cT} (v0:Value)  (v1:Value)  (z2:jT) (r:Bool) (h:dB U p0=some r):
  aV Tryz.prog 31 #[Value.agg #[v0,v1]] [Sl bL v0 p0.1,S2 aW v1 z2 p0.2] (fun x:Unit=>vB (r)) (fun x l=>l) (fun _ l=>l):=by
 refine aV.of Tryz.func31 rfl Tryz.ntmps31 rfl fun c=>?_
 refine sqR<|aE (aG.box (cs:=[v0,v1]) rfl rfl) rfl fun b1=>qkAsg rfl<|dtN<|sqR<|qkFld rfl<|qkLd 0 rfl<|qkLen (aC.fact 0 rfl) rfl<|qkAsg rfl<|dtN<|aH<|aH<|midU (fun a3=>oG U p0 a3=some r) (fun a3 b4=>[(1,vP b1),(19,vB (a3))]) (fun a3 b4=>[bS b1 [v0,v1] 28]) ?_ ?_
 ·refine aM<|qkMove rfl<|qkLss rfl<|qkMove rfl ?_
  refine AS h rfl (fun _ h=>?_) fun _ h=>?_
  ·refine gdSkip rfl<|gdSkip rfl<|qkPkT rfl<|qkMove rfl<|gdSkip rfl<|gdSkip rfl<|gdSkip rfl<|gdSkip rfl<|gdSkip rfl<|qkPkT rfl<|dtN ?_
   exact iQ (true) () h SF rfl
  refine gyMove rfl<|aL rfl (wX rfl rfl) rfl<|qkPkF rfl<|qkMove rfl ?_
  refine AS h rfl (fun _ h=>?_) fun _ h=>?_
  ·refine gdSkip rfl<|gdSkip rfl<|gdSkip rfl<|gdSkip rfl<|gdSkip rfl<|qkPkT rfl<|dtN ?_
   exact iQ (true) () h SF rfl
  refine aL rfl (dD rfl rfl rfl rfl rfl) rfl<|aL rfl (d_ 0 rfl rfl rfl rfl rfl) rfl<|aL rfl (iY rfl (aC.fact 1 rfl) rfl) rfl<|gyMove rfl<|aL rfl (FK rfl rfl) rfl<|qkPkF rfl<|dtN ?_
  exact iQ (decide ((List.length p0.2:Int)≠(List.length p0.1:Int))) () h SF rfl
 intro a3 b4 h
 refine zQ h rfl (fun _ h=>?_) fun _ h=>?_
 ·refine sqR<|qkAsg rfl<|dtN<|aN<|aI ?_
  cases h
  exact vH rfl
 refine cL<|aH<|midU (fun a7=>oH  a7=some r) (fun a7 b8=>[(2,vB (a7))]) (fun a7 b8=>[]) ?_ ?_
 ·refine aM<|qkFld rfl<|qkLd 0 rfl<|bnE h fun r9 w10 h=>aE (aG.callQ Ya (BY U v0 r9 w10) rfl (iJ [0] rfl)) rfl fun x11=>qkMove rfl ?_
  refine qE (by exact rfl) (by exact rfl) (fun hp12=>?_) (fun hp12=>?_)
  ·have h:=Ji hp12 h
   refine aL rfl (dD rfl rfl rfl rfl rfl) rfl<|aL rfl (d_ 0 rfl rfl rfl rfl rfl) rfl<|bnE h fun r13 w14 h=>pB rfl (aG.callQ Yb (EB U v1 z2 r13 w14) rfl (iJ [1] rfl)) rfl fun x15=>qkPkT rfl<|qkAsg rfl<|dtN ?_
   exact bO (r13) () h SF .nil (aA.refl _ _)
  have h:=Eh hp12 h
  refine gdSkip rfl<|gdSkip rfl<|gdSkip rfl<|qkPkF rfl<|qkAsg rfl<|dtN ?_
  exact bO (false) () h SF .nil (aA.refl _ _)
 intro a7 b8 h
 unfold oH at h
 refine aN ?_
 cases h
 exact lD rfl
end
section
def pT  (a:Int):Option (Int):=
 some (a)
def eQ (U:Nat) (p0:Int) (p1:Int):Option (Int):=
 if p1<(1:Int)then(some (0:Int))else(ck (p1≠0) (if(Int.tmod p0 p1)<(0:Int)then(pT  (wI .i64 ((Int.tmod p0 p1)+p1)))else(pT  (Int.tmod p0 p1))))
theorem CV:aO Tryz.prog 9:=Tryz.call9
theorem gQ (U:Nat) {p0:Int} {p1:Int} (r:Int) (h:eQ U p0 p1=some r):
  aV Tryz.prog 9 #[vI (p0),vI (p1)] [] (fun x:Unit=>vI (r)) (fun x l=>l) (fun _ l=>l):=by
 refine aV.of Tryz.func9 rfl Tryz.ntmps9 rfl fun c=>?_
 refine sqR<|qkAsg rfl<|dtN<|aH<|sqR<|qkMove rfl<|qkLss rfl<|dtN ?_
 refine eZ h rfl (fun h=>?_) fun h=>?_
 ·refine sqR<|qkAsg rfl<|dtN<|aN<|aI ?_
  cases h
  exact lD rfl
 refine cL<|sqR<|qkMove rfl<|qkMove rfl<|ckE h fun j2 h=>aB (LA rfl rfl j2) rfl<|qkAsg rfl<|dtN<|aH<|midU (fun a4=>pT  a4=some r) (fun a4 b5=>[(0,vI (a4))]) (fun a4 b5=>[]) ?_ ?_
 ·refine sqR<|qkMove rfl<|qkLss rfl<|dtN ?_
  refine eZ h rfl (fun h=>?_) fun h=>?_
  ·refine aM<|qkMove rfl<|qkMove rfl<|qkAdd rfl<|qkAsg rfl<|dtN ?_
   exact iQ (wI .i64 ((Int.tmod p0 p1)+p1)) () h SF rfl
  refine cL ?_
  exact iQ (Int.tmod p0 p1) () h SF rfl
 intro a4 b5 h
 unfold pT at h
 refine sqR<|qkMove rfl<|qkAsg rfl<|dtN<|aN ?_
 cases h
 exact lD rfl
end
section
def qZ (U:Nat) (p0:aQ) (p1:Int):Option (Int):=
 if p1<(List.length p0:Int)then(ck (0<=p1∧p1<(List.length p0:Int)) (some (at' p0 p1)))else(some (0:Int))
theorem Hk:aO Tryz.prog 24:=Tryz.call24
theorem yW (U:Nat) {p0:aQ} {p1:Int} (b:Value) (r:Int) (h:qZ U p0 p1=some r):
  aV Tryz.prog 24 #[b,vI (p1)] [Sl bL b p0] (fun x:Unit=>vI (r)) (fun x l=>l) (fun _ l=>l):=by
 refine aV.of Tryz.func24 rfl Tryz.ntmps24 rfl fun c=>?_
 refine sqR<|qkAsg rfl<|dtN<|aH<|sqR<|qkMove rfl<|qkMove rfl<|qkLen (aC.fact 0 rfl) rfl<|qkLss rfl<|dtN ?_
 refine eZ h rfl (fun h=>?_) fun h=>?_
 ·refine sqR<|qkMove rfl<|qkMove rfl<|ckE h fun a h=>aB (bG rfl rfl (aC.fact 0 rfl) rfl rfl a) rfl<|aB (cK rfl (aC.fact 0 rfl) rfl rfl rfl fE a) rfl<|qkAsg rfl<|dtN<|aN<|aI ?_
  cases h
  exact lD rfl
 refine cL<|sqR<|qkAsg rfl<|dtN<|aN ?_
 cases h
 exact lD rfl
end
section
def mV (b:Int) (a:aQ):Option rB:=
 some ((a,(List.replicate (Int.toNat (wI .i64 ((1:Int)+b))) ([]:dQ))))
def qU (a:Int×aQ) (c:(Int×aQ)->Option rB) (b:Int):Option rB:=
 ck ((List.length a.2:Int)+(List.length ([b]):Int)<=1099511627) (c ((wI .i64 (a.1+(1:Int))),(a.2++[b])))
def jU (b:eR->Option rB) (a:eS):Option rB:=
 b (a.1,(wI .i64 (a.2+(1:Int))))
def jV (b:Int×aQ) (d:(Int×aQ)->Option rB) (a:eS) (c:eR->Option rB):Option rB:=
 if a.2<b.1 then(ck (0<=a.2∧a.2<(List.length b.2:Int)) (if(at' b.2 a.2)=a.1 then(ck ((256:Int)≠0) (jU c ((Int.tmod (wI .i64 (a.1+(1:Int))) (256:Int)),(-1:Int))))else(jU c (a.1,a.2))))else(qU b d (a.1))
def h_ (U:Nat) (p0:Az) (e:Int) (a:Int×aQ) (b:(Int×aQ)->Option rB):Option rB:=
 if a.1<(wI .i64 ((1:Int)+e))then(Option.bind (qZ U p0.2.2.2.1 a.1) fun c=>(Option.bind (eQ U c (256:Int)) fun d=>(bM (jV a b) U (d,(0:Int)))))else(mV e (a.2))
def kR (U:Nat) (p0:Az) (p1:Int):Option rB:=
 Option.bind (eQ U (wI .i64 (p0.1 - (1:Int))) p1) fun a=>(ck (0<=(wI .i64 ((1:Int)+a))∧(wI .i64 ((1:Int)+a))<=1099511627) (bM (h_ U p0 a) U ((0:Int),([]:aQ))))
theorem SA:aO Tryz.prog 22:=Tryz.call22
theorem xO (U:Nat) {p0:Az} {p1:Int} (v0:Value)  (v1:Value)  (v2:Value) (r:(aQ×cJ)) (h:kR U p0 p1=some r):
  aV Tryz.prog 22 #[Value.agg #[vI (p0.1),v0,v1,v2,vB (p0.2.2.2.2.1),vB (p0.2.2.2.2.2)],vI (p1)] [Sl bL v0 p0.2.1,Sl bL v1 p0.2.2.1,Sl bL v2 p0.2.2.2.1] (fun x:Iq=>Value.agg #[x.1,x.2.1]) (fun x l=>Ar cE x.1 r.1::Ar c_.raw x.2.1 x.2.2::gU bH x.2.2 r.2::l) (fun _ l=>l):=by
 refine aV.of Tryz.func22 rfl Tryz.ntmps22 rfl fun c=>?_
 refine sqR<|aE (aG.box (cs:=[vI (p0.1),v0,v1,v2,vB (p0.2.2.2.2.1),vB (p0.2.2.2.2.2)]) rfl rfl) rfl fun b1=>aE (aG.alloc (cs:=[eG,eG]) rfl rfl) rfl fun b2=>dtN<|sqR<|qkFld rfl<|qkLd 1 rfl<|aB (pD rfl rfl) rfl<|qkMove rfl<|bnE h fun r3 w4 h=>aE (aG.callQ CV (gQ U  r3 w4) rfl .nil) rfl fun x5=>qkAdd rfl<|qkAsg rfl<|dtN<|sqR<|qkMove rfl<|ckE h fun j6 h=>dV (oZ bH (Int.toNat (wI .i64 ((1:Int)+r3))))<|aE (nJ (e:=c_.raw) (eG) rfl rfl rfl rfl j6 rfl rfl rfl) rfl fun u7=>bJ (Know.one (aC.sl (aP (i:=0) (j:=1) rfl rfl aU))) fun ho8=>?_
 refine aB (Sf (r:=Value.agg #[eG,u7]) rfl (by intro w;simp[Instr.build,Instr.fill,bV,bQ,bK,bW,bX,bR,cC,cY ho8])) rfl ?_
 refine aE (aG.alloc (cs:=[eG,eG]) rfl rfl) rfl fun b9=>bJ (Know.one (aC.sl (aP (i:=1) (j:=2) rfl rfl aU))) fun ho10=>aY 0 (vs:=[eG,u7]) rfl rfl (cB rfl (cB ho10 rfl)) rfl rfl rfl<|dtN<|aH<|midL (B:=Value) (fun a13=>mV r3 a13=some r) (fun a13 b14=>[(4,vP b2),(6,vP b9)]) (fun a13 b14=>[bS b9 [b14,u7] 28,Ar c_.raw u7 (List.replicate (Int.toNat (wI .i64 ((1:Int)+r3))) (eG)),gU bH (List.replicate (Int.toNat (wI .i64 ((1:Int)+r3))) (eG)) (List.replicate (Int.toNat (wI .i64 ((1:Int)+r3))) ([]:dQ)),bS b2 [eG,eG] 28,Ar cE b14 a13]) ?_ ?_
 ·refine sqR<|qkAsg rfl<|dtN<|aR<|dV (dA cE)<|loopL (B:=Value) (h_ U p0 r3) (fun a21 b22=>[(2,vP b1),(4,vP b2),(5,vI (wI .i64 ((1:Int)+r3))),(6,vP b9),(7,vI (a21.1))]) (fun a21 b22=>[bS b9 [b22,u7] 28,Ar c_.raw u7 (List.replicate (Int.toNat (wI .i64 ((1:Int)+r3))) (eG)),gU bH (List.replicate (Int.toNat (wI .i64 ((1:Int)+r3))) (eG)) (List.replicate (Int.toNat (wI .i64 ((1:Int)+r3))) ([]:dQ)),bS b2 [eG,eG] 28,bS b1 [vI (p0.1),v0,v1,v2,vB (p0.2.2.2.2.1),vB (p0.2.2.2.2.2)] 24,Ar cE b22 a21.2]) ((0:Int),([]:aQ)) (eG) h SF (aS.ix [1,2,3,4,5,0] rfl rfl) ?_
  intro k23 a21 b22 h
  refine aH<|sqR<|qkMove rfl<|qkMove rfl<|qkLss rfl<|dtN ?_
  refine eZ h rfl (fun h=>?_) fun h=>?_
  ·refine cL<|aH<|aR<|sqR<|qkFld rfl<|qkLd 4 rfl<|qkMove rfl<|bnE h fun r25 w26 h=>aE (aG.callQ Hk (yW U v2 r25 w26) rfl (iJ [2] rfl)) rfl fun x27=>bnE h fun r28 w29 h=>aE (aG.callQ CV (gQ U  r28 w29) rfl .nil) rfl fun x30=>qkAsg rfl<|dtN<|aH<|midU (fun a32=>qU a21 (bM (h_ U p0 r3) k23) a32=some r) (fun a32 b33=>[(2,vP b1),(4,vP b2),(5,vI (wI .i64 ((1:Int)+r3))),(6,vP b9),(7,vI (a21.1)),(8,vI (a32))]) (fun a32 b33=>[bS b9 [b22,u7] 28,Ar c_.raw u7 (List.replicate (Int.toNat (wI .i64 ((1:Int)+r3))) (eG)),gU bH (List.replicate (Int.toNat (wI .i64 ((1:Int)+r3))) (eG)) (List.replicate (Int.toNat (wI .i64 ((1:Int)+r3))) ([]:dQ)),bS b2 [eG,eG] 28,bS b1 [vI (p0.1),v0,v1,v2,vB (p0.2.2.2.2.1),vB (p0.2.2.2.2.2)] 24,Ar cE b22 a21.2]) ?_ ?_
   ·refine sqR<|qkAsg rfl<|dtN<|aR<|loopL (jV a21 (bM (h_ U p0 r3) k23)) (fun a41 b42=>[(2,vP b1),(4,vP b2),(5,vI (wI .i64 ((1:Int)+r3))),(6,vP b9),(7,vI (a21.1)),(8,vI (a41.1)),(9,vI (a41.2))]) (fun a41 b42=>[bS b9 [b22,u7] 28,Ar c_.raw u7 (List.replicate (Int.toNat (wI .i64 ((1:Int)+r3))) (eG)),gU bH (List.replicate (Int.toNat (wI .i64 ((1:Int)+r3))) (eG)) (List.replicate (Int.toNat (wI .i64 ((1:Int)+r3))) ([]:dQ)),bS b2 [eG,eG] 28,bS b1 [vI (p0.1),v0,v1,v2,vB (p0.2.2.2.2.1),vB (p0.2.2.2.2.2)] 24,Ar cE b22 a21.2]) (r28,(0:Int)) () h SF (aS.refl _) ?_
    intro k43 a41 b42 h
    refine aH<|sqR<|qkMove rfl<|qkMove rfl<|qkLss rfl<|dtN ?_
    refine eZ h rfl (fun h=>?_) fun h=>?_
    ·refine cL<|aH<|midU (fun a47=>jU (bM (jV a21 (bM (h_ U p0 r3) k23)) k43) a47=some r) (fun a47 b48=>[(2,vP b1),(4,vP b2),(5,vI (wI .i64 ((1:Int)+r3))),(6,vP b9),(7,vI (a21.1)),(8,vI (a47.1)),(9,vI (a47.2))]) (fun a47 b48=>[bS b9 [b22,u7] 28,Ar c_.raw u7 (List.replicate (Int.toNat (wI .i64 ((1:Int)+r3))) (eG)),gU bH (List.replicate (Int.toNat (wI .i64 ((1:Int)+r3))) (eG)) (List.replicate (Int.toNat (wI .i64 ((1:Int)+r3))) ([]:dQ)),bS b2 [eG,eG] 28,bS b1 [vI (p0.1),v0,v1,v2,vB (p0.2.2.2.2.1),vB (p0.2.2.2.2.2)] 24,Ar cE b22 a21.2]) ?_ ?_
     ·refine aR<|sqR<|qkFld rfl<|qkLd 0 rfl<|qkMove rfl<|ckE h fun j49 h=>aB (bG rfl rfl (aT (aC.res 5 rfl) cW) rfl rfl j49) rfl<|aB (cK rfl (aT (aC.res 5 rfl) cW) rfl rfl rfl fE j49) rfl<|qkMove rfl<|qkEql rfl<|dtN ?_
      refine eZ h rfl (fun h=>?_) fun h=>?_
      ·refine aM<|qkMove rfl<|qkAdd rfl<|ckE h fun j51 h=>aB (LA rfl rfl j51) rfl<|qkAsg rfl<|qkAsg rfl<|eI<|inT ?_
       exact iQ ((Int.tmod (wI .i64 (a41.1+(1:Int))) (256:Int)),(-1:Int)) () h SF rfl
      refine eJ<|inT ?_
      exact iQ (a41.1,a41.2) () h SF rfl
     intro a47 b48 h
     unfold jU at h
     refine aM<|qkMove rfl<|qkAdd rfl<|qkAsg rfl<|dtN ?_
     exact Ah (a47.1,(wI .i64 (a47.2+(1:Int)))) () h SF rfl
    refine gH ?_
    exact iQ (a41.1) () h SF rfl
   intro a32 b33 h
   refine aM<|qkFld rfl<|qkLd 0 rfl<|qkMove rfl<|aE (cR (e:=cE) ([a32]) [(0,vI (a32))] rfl rfl rfl rfl (pK (vI (a32)) rfl) rfl rfl rfl) rfl fun u34=>ckE h fun j36 h=>aE (fU 6 cW rfl rfl rfl (aT (aC.res 0 rfl) cW) rfl rfl rfl rfl j36 rfl) rfl fun u35=>qkFld rfl<|bJ (Know.one ((aT (aC.res 6 rfl) cW))) fun ho37=>fY 1 rfl rfl ho37 rfl rfl rfl<|eI<|inT<|aM<|qkMove rfl<|qkAdd rfl<|qkAsg rfl<|dtN ?_
   exact kN ((wI .i64 (a21.1+(1:Int))),(a21.2++[a32])) (u35) h SF (aS.ix [1,2,3,4,5,6] rfl rfl) (aA.refl _ _)
  refine gH ?_
  exact bO (a21.2) (b22) h SF (aS.ix [0,1,2,3,5] rfl rfl) (aA.refl _ _)
 intro a13 b14 h
 unfold mV at h
 refine sqR<|qkLdA 0 rfl<|bJ (Know.one ((aT (aC.res 4 rfl) cW))) fun ho15=>bJ (Know.one (aC.sl (aP (i:=1) (j:=2) rfl rfl aU))) fun ho16=>aY 3 (vs:=[b14,u7]) rfl rfl (cB ho15 (cB ho16 rfl)) rfl rfl rfl<|dtN<|aN ?_
 cases h
 exact gE (b14,u7,(List.replicate (Int.toNat (wI .i64 ((1:Int)+r3))) (eG))) rfl rfl (RV.cell 3 rfl rfl rfl rfl) (aS.ix [4,1,2] rfl rfl) aA.nil
end
section
def tO  (a:Unit):Option (Bool):=
 some (false)
def xM (p0:cT) (p1:Int) (p2:Int) (a:Int) (b:(Int)->Option (Bool)):Option (Bool):=
 ck (0<=p1∧p1<(List.length p0.2:Int)) (if a<(List.length (at' p0.2 p1):Int)then(ck (0<=p1∧p1<(List.length p0.2:Int)) (ck (0<=a∧a<(List.length (at' p0.2 p1):Int)) (if((at' (at' p0.2 p1) a).1)=p2 then(some (true))else(b (wI .i64 (a+(1:Int)))))))else(tO  (())))
def l_ (U:Nat) (p0:cT) (p1:Int) (p2:Int):Option (Bool):=
 bM (xM p0 p1 p2) U (0:Int)
theorem Yf:aO Tryz.prog 70:=Tryz.call70
theorem Im (U:Nat) {p0:cT} {p1:Int} {p2:Int} (v0:Value)  (v1:Value)  (z2:jT) (r:Bool) (h:l_ U p0 p1 p2=some r):
  aV Tryz.prog 70 #[Value.agg #[v0,v1],vI (p1),vI (p2)] [Sl bL v0 p0.1,S2 aW v1 z2 p0.2] (fun x:Unit=>vB (r)) (fun x l=>l) (fun _ l=>l):=by
 refine aV.of Tryz.func70 rfl Tryz.ntmps70 rfl fun c=>?_
 unfold l_ at h
 refine sqR<|aE (aG.box (cs:=[v0,v1]) rfl rfl) rfl fun b1=>qkAsg rfl<|dtN<|aH<|midU (fun a2=>tO  a2=some r) (fun a2 b3=>[]) (fun a2 b3=>[]) ?_ ?_
 ·refine sqR<|qkAsg rfl<|dtN<|aR<|loopL (xM p0 p1 p2) (fun a6 b7=>[(1,vI (p1)),(2,vI (p2)),(3,vP b1),(7,vI (a6))]) (fun a6 b7=>[bS b1 [v0,v1] 28]) (0:Int) () h SF (aS.refl _) ?_
  intro k8 a6 b7 h
  refine aH<|sqR<|qkMove rfl<|qkFld rfl<|qkLd 0 rfl<|qkMove rfl<|ckE h fun j9 h=>aB (cG rfl rfl (aC.fact 1 rfl) rfl rfl j9) rfl<|aB (cI rfl (aC.fact 1 rfl) rfl rfl j9) rfl<|aB (fM rfl (aC.el (aC.fact 1 rfl) j9.1 j9.2) rfl) rfl<|qkLss rfl<|dtN ?_
  refine eZ h rfl (fun h=>?_) fun h=>?_
  ·refine cL<|aH<|aR<|sqR<|qkFld rfl<|qkLd 0 rfl<|qkMove rfl<|ckE h fun j11 h=>aB (cG rfl rfl (aC.fact 1 rfl) rfl rfl j11) rfl<|aB (cI rfl (aC.fact 1 rfl) rfl rfl j11) rfl<|qkMove rfl<|ckE h fun j12 h=>aB (bG rfl rfl (aC.el (aC.fact 1 rfl) j11.1 j11.2) rfl rfl j12) rfl<|aB (jJ rfl rfl rfl rfl rfl) rfl<|aB (mD rfl (aC.el (aC.fact 1 rfl) j11.1 j11.2) rfl rfl rfl vN j12) rfl<|qkMove rfl<|qkEql rfl<|dtN ?_
   refine eZ h rfl (fun h=>?_) fun h=>?_
   ·refine sqR<|qkAsg rfl<|dtN<|aN<|bT<|aI<|aI<|bT<|aI ?_
    cases h
    exact vH rfl
   refine eJ<|inT<|aM<|qkMove rfl<|qkAdd rfl<|qkAsg rfl<|dtN ?_
   exact Ah (wI .i64 (a6+(1:Int))) () h SF rfl
  refine gH ?_
  exact bO () (()) h SF .nil (aA.refl _ _)
 intro a2 b3 h
 unfold tO at h
 refine sqR<|qkAsg rfl<|dtN<|aN ?_
 cases h
 exact lD rfl
end
section
def nS (p0:Az) (p1:cT) (p2:Int) (p3:Int) (p4:Int) (a:Bool):Option (cJ):=
 if a=true then(some (p1.2))else(if p0.2.2.2.2.2=true then(ck (0<=p2∧p2<(List.length p1.2:Int)) (ck ((List.length ([(p3,p4)]):Int)+(List.length (at' p1.2 p2):Int)<=1099511627) (ck (0<=p2∧p2<(List.length p1.2:Int)) (ck (0<=p3∧p3<(List.length (List.set p1.2 (Int.toNat p2) (([(p3,p4)])++(at' p1.2 p2))):Int)) (ck ((List.length ([(p2,p4)]):Int)+(List.length (at' (List.set p1.2 (Int.toNat p2) (([(p3,p4)])++(at' p1.2 p2))) p3):Int)<=1099511627) (ck (0<=p3∧p3<(List.length (List.set p1.2 (Int.toNat p2) (([(p3,p4)])++(at' p1.2 p2))):Int)) (some (List.set (List.set p1.2 (Int.toNat p2) (([(p3,p4)])++(at' p1.2 p2))) (Int.toNat p3) (([(p2,p4)])++(at' (List.set p1.2 (Int.toNat p2) (([(p3,p4)])++(at' p1.2 p2))) p3))))))))))else(ck (0<=p2∧p2<(List.length p1.2:Int)) (ck (0<=p3∧p3<(List.length p1.2:Int)) (ck ((List.length (at' p1.2 p2):Int)+(List.length ([(p3,p4)]):Int)<=1099511627) (ck ((List.length (at' p1.2 p3):Int)+(List.length ([(p2,p4)]):Int)<=1099511627) (ck (Int.toNat p2≠Int.toNat p3) (ck (0<=p2∧p2<(List.length (List.set (List.set p1.2 (Int.toNat p2) ((at' p1.2 p2)++([(p3,p4)]))) (Int.toNat p3) ((at' p1.2 p3)++([(p2,p4)]))):Int)) (ck (0<=p3∧p3<(List.length (List.set (List.set p1.2 (Int.toNat p2) ((at' p1.2 p2)++([(p3,p4)]))) (Int.toNat p3) ((at' p1.2 p3)++([(p2,p4)]))):Int)) (some (List.set (List.set p1.2 (Int.toNat p2) ((at' p1.2 p2)++([(p3,p4)]))) (Int.toNat p3) ((at' p1.2 p3)++([(p2,p4)]))))))))))))
def lU (U:Nat) (p0:Az) (p1:cT) (p2:Int) (p3:Int) (p4:Int):Option (cJ):=
 if p2=p3 then(nS p0 p1 p2 p3 p4 (true))else(Option.bind (l_ U ((p1.1,p1.2)) p2 p3) fun a=>(nS p0 p1 p2 p3 p4 (a)))
theorem SG:aO Tryz.prog 48:=Tryz.call48
theorem yS (U:Nat) {p0:Az} {p1:cT} {p2:Int} {p3:Int} {p4:Int} (v0:Value)  (v1:Value)  (v2:Value)  (v3:Value)  (v4:Value)  (w5:dO) (r:cJ) (h:lU U p0 p1 p2 p3 p4=some r):
  AG Tryz.prog 48 #[Value.agg #[vI (p0.1),v0,v1,v2,vB (p0.2.2.2.2.1),vB (p0.2.2.2.2.2)],Value.agg #[v3,v4],vI (p2),vI (p3),vI (p4)] [Ar c_.raw v4 w5,gU bH w5 p1.2] [Sl bL v0 p0.2.1,Sl bL v1 p0.2.2.1,Sl bL v2 p0.2.2.2.1,Sl bL v3 p1.1] (fun x:dO=>Value.tuple #[]) (fun x l=>Ar c_.raw v4 x::gU bH x r::l):=by
 refine AG.of (vs:=[Value.agg #[vI (p0.1),v0,v1,v2,vB (p0.2.2.2.2.1),vB (p0.2.2.2.2.2)],Value.agg #[v3,v4],vI (p2),vI (p3),vI (p4)]) Tryz.func48 rfl Tryz.ntmps48 rfl fun c=>?_
 refine sqR<|aE (aG.box (cs:=[vI (p0.1),v0,v1,v2,vB (p0.2.2.2.2.1),vB (p0.2.2.2.2.2)]) rfl rfl) rfl fun b1=>aE (aG.box (cs:=[v3,v4]) rfl rfl) rfl fun b2=>dtN<|aH<|aH<|xC (B:=Unit) (fun a4=>nS p0 p1 p2 p3 p4 a4=some r) (fun a4 b5=>[(2,vI (p2)),(3,vI (p3)),(4,vI (p4)),(5,vP b1),(6,vP b2),(20,vB (a4))]) (fun a4 b5=>[bS b2 [v3,v4] 28,bS b1 [vI (p0.1),v0,v1,v2,vB (p0.2.2.2.2.1),vB (p0.2.2.2.2.2)] 24,Ar c_.raw v4 w5,gU bH w5 p1.2]) (fun a4 b5=>[Sl bL v0 p0.2.1,Sl bL v1 p0.2.2.1,Sl bL v2 p0.2.2.2.1,Sl bL v3 p1.1]) ?_ ?_
 ·refine aM<|qkMove rfl<|qkMove rfl<|qkEql rfl<|qkMove rfl ?_
  refine AS h rfl (fun _ h=>?_) fun _ h=>?_
  ·refine gdSkip rfl<|gdSkip rfl<|gdSkip rfl<|gdSkip rfl<|qkPkT rfl<|dtN ?_
   exact iQ (true) () h SF rfl
  refine aL rfl (eF 0 rfl rfl rfl rfl) rfl<|gyMove rfl<|gyMove rfl<|bnE h fun r86 hr87 h=>pB rfl (aG.callQ Yf (Im U v3 v4 (List.zip w5 p1.2) r86 hr87) rfl (aA.cons (aC.fact 3 rfl) (aA.cons (aP (i:=2) (j:=3) rfl rfl aU) .nil))) rfl fun x88=>qkPkF rfl<|dtN ?_
  exact iQ (r86) () h SF rfl
 intro a4 b5 h
 refine zQ h rfl (fun _ h=>?_) fun _ h=>?_
 ·refine aN<|aI ?_
  cases h
  exact Ci (w5) rfl rfl .ret (.inl rfl) (aS.ix [2,3] rfl rfl) aA.nil
 refine cL<|sqR<|qkMove rfl<|qkMove rfl ?_
 refine aB (qT (r:=Value.agg #[vI (p3),vI (p4)]) rfl rfl (by intro w;simp[Instr.build,Instr.fill,bV,bQ,bK,bW,bX,bR,cC])) rfl ?_
 refine qkMove rfl<|qkMove rfl ?_
 refine aB (qT (r:=Value.agg #[vI (p2),vI (p4)]) rfl rfl (by intro w;simp[Instr.build,Instr.fill,bV,bQ,bK,bW,bX,bR,cC])) rfl ?_
 refine aE (aG.alloc (cs:=Oz) rfl rfl) rfl fun b7=>aE (aG.alloc (cs:=Oz) rfl rfl) rfl fun b8=>aY 1 (vs:=[vI (p3),vI (p4)]) rfl rfl rfl rfl rfl rfl<|aY 0 (vs:=[vI (p2),vI (p4)]) rfl rfl rfl rfl rfl rfl<|dtN<|aH<|sqR<|qkFld rfl<|qkLd 3 rfl<|dtN ?_
 refine zQ h rfl (fun _ h=>?_) fun _ h=>?_
 ·refine aH ?_
  refine JR.start [0,1,0,0,8,0,32,0,224,480,1016,2047,4095] 11 mixedOrders (by decide +kernel) ?_
  refine JR.open (by exact rfl) ?_
  refine jkFld rfl<|jkLd 2 rfl<|jkMove rfl<|jkLdA 1 rfl<|JR.loud rfl rfl rfl (cR (e:=bH) ([((p3,p4))]) [(0,Value.agg #[vI (p3),vI (p4)])] rfl rfl rfl rfl (uI (vI (p3)) (vI (p4))) rfl rfl rfl) rfl (fun u10=>(jM [([3],[])] rfl)) fun u10=>jqN rfl (dD rfl rfl rfl rfl rfl)<|bD rfl (aS.cons 3 rfl .nil) .nil (d_ 0 rfl rfl rfl rfl rfl) (aK.h (aS.ix [2] rfl rfl) .nil aK.z)<|jqN rfl (kT rfl)<|ckE h fun j11 h=>bN (bZ 6 rfl) fun hl12=>?_
  refine bD rfl (aS.cons 5 rfl .nil) .nil (eM 0 rfl rfl rfl rfl rfl j11.1 (by have q1:=j11.2;have q2:=hl12;(try simp only[List.length_set]at q1);(try simp only[List.length_set]at q2);(try simp only[List.length_set]);omega)) (aK.h (aS.ix [4] rfl rfl) .nil aK.z) ?_
  refine bN (bZ 6 rfl) fun hl13=>bD rfl (aS.cons 5 rfl .nil) .nil (gZ 0 rfl rfl hl13 rfl rfl j11) (aK.h (aS.ix [4] rfl rfl) .nil aK.z)<|ckE h fun j15 h=>JR.loud rfl rfl rfl (fU 0 aU rfl rfl rfl (aC.row (j:=6) rfl aU j11.1 j11.2) rfl rfl rfl rfl j15 rfl) rfl (fun u14=>(jM [([3],[])] rfl)) fun u14=>bF 11 rfl rfl<|ckE h fun j16 h=>aB (cG rfl rfl (aP (i:=5) (j:=6) rfl rfl aU) rfl rfl j16) rfl<|bJ (Know.one ((aT (aC.res 0 rfl) aU))) fun ho17=>dV (qR (k:=p2) 6 0 rfl rfl rfl j16) ?_
  refine iK 4 5 ⟨j16.1,by first|exact j16.2|simpa using j16.2⟩ rfl rfl rfl rfl rfl (by simp) ho17 rfl ?_
  refine dtN<|aH ?_
  refine JR.start [0,1,0,0,8,0,32,0,224,480,1016,2047,4095] 11 mixedOrders (by decide +kernel) ?_
  refine JR.open (by exact rfl) ?_
  refine jkFld rfl<|jkLd 2 rfl<|jkMove rfl<|jkLdA 0 rfl<|JR.loud rfl rfl rfl (cR (e:=bH) ([((p2,p4))]) [(0,Value.agg #[vI (p2),vI (p4)])] rfl rfl rfl rfl (uI (vI (p2)) (vI (p4))) rfl rfl rfl) rfl (fun u18=>(jM [([3],[])] rfl)) fun u18=>jqN rfl (dD rfl rfl rfl rfl rfl)<|bD rfl (aS.cons 3 rfl .nil) .nil (d_ 0 rfl rfl rfl rfl rfl) (aK.h (aS.ix [2] rfl rfl) .nil aK.z)<|jqN rfl (kT rfl)<|ckE h fun j19 h=>bN (bZ 6 rfl) fun hl20=>?_
  refine bD rfl (aS.cons 5 rfl .nil) .nil (eM 0 rfl rfl rfl rfl rfl j19.1 (by have q1:=j19.2;have q2:=hl20;(try simp only[List.length_set]at q1);(try simp only[List.length_set]at q2);(try simp only[List.length_set]);omega)) (aK.h (aS.ix [4] rfl rfl) .nil aK.z) ?_
  refine bN (bZ 6 rfl) fun hl21=>bD rfl (aS.cons 5 rfl .nil) .nil (gZ 0 rfl rfl hl21 rfl rfl j19) (aK.h (aS.ix [4] rfl rfl) .nil aK.z)<|ckE h fun j23 h=>JR.loud rfl rfl rfl (fU 0 aU rfl rfl rfl (aC.row (j:=6) rfl aU j19.1 (by first|exact j19.2|simpa using j19.2)) rfl rfl rfl rfl j23 rfl) rfl (fun u22=>(jM [([3],[])] rfl)) fun u22=>?_
  refine bF 11 rfl rfl<|ckE h fun j24 h=>aB (cG rfl rfl (aP (i:=5) (j:=6) rfl rfl aU) rfl rfl j24) rfl<|bJ (Know.one ((aT (aC.res 0 rfl) aU))) fun ho25=>dV (qR (k:=p3) 6 0 rfl rfl rfl j24) ?_
  refine iK 4 5 ⟨j24.1,by first|exact j24.2|simpa using j24.2⟩ rfl rfl rfl rfl rfl (by simp) ho25 rfl ?_
  refine dtN<|aN<|aI ?_
  cases h
  exact Ci (List.set (List.set w5 (Int.toNat p2) u14) (Int.toNat p3) u22) rfl rfl .ret (.inl rfl) (aS.ix [4,5] rfl rfl) aA.nil
 refine cL<|ckE h fun j26 h=>ckE h fun j29 h=>ckE h fun j34 h=>ckE h fun j37 h=>ckE h fun j38 h=>ckE h fun j39 h=>ckE h fun j43 h=>Ad [0,1,0,0,8,0,0,64,0,448,960,0,2048,8128,0,16384,0,114688,245760,0,524288,2097088,4194247,8388551,16777215,33554431] 24 [[0,1,2,3,4,5,6,7,8,9,10,11,14,15,16,17,18,19,12,13,20,21,22,23,24,25],[0,1,2,3,4,5,6,7,8,9,10,11,14,15,16,17,18,19,12,20,13,21,22,23,24,25],[0,1,2,3,4,5,6,7,8,9,10,11,14,15,16,17,18,19,20,12,13,21,22,23,24,25]] mixedOrders (by decide +kernel) (by decide +kernel) ?_
 intro o ho
 simp only[List.mem_cons,List.not_mem_nil,or_false]at ho
 rcases ho with rfl|rfl|rfl
 ·refine jkFld rfl<|jkLd 2 rfl<|jkMove rfl<|jkFld rfl<|jkLd 2 rfl<|jkMove rfl<|jkFld rfl<|jkLd 2 rfl<|jkMove rfl<|bN (bZ 5 rfl) fun hl46=>?_
  refine bD rfl (aS.cons 4 rfl .nil) .nil (eM 0 rfl rfl rfl rfl rfl j26.1 (by have q1:=j26.2;have q2:=hl46;(try simp only[List.length_set]at q1);(try simp only[List.length_set]at q2);(try simp only[List.length_set]);omega)) aK.z ?_
  refine bN (bZ 5 rfl) fun hl47=>bD rfl (aS.cons 4 rfl .nil) .nil (gZ 0 rfl rfl hl47 rfl rfl j26) aK.z<|jkLdA 1 rfl<|jkFld rfl<|jkLd 2 rfl<|jkMove rfl<|bN (bZ 5 rfl) fun hl48=>?_
  refine bD rfl (aS.cons 4 rfl .nil) .nil (eM 0 rfl rfl rfl rfl rfl j29.1 (by have q1:=j29.2;have q2:=hl48;(try simp only[List.length_set]at q1);(try simp only[List.length_set]at q2);(try simp only[List.length_set]);omega)) aK.z ?_
  refine bN (bZ 5 rfl) fun hl49=>bD rfl (aS.cons 4 rfl .nil) .nil (gZ 0 rfl rfl hl49 rfl rfl j29) aK.z<|jkLdA 0 rfl<|JR.loud rfl rfl rfl (cR (e:=bH) ([((p3,p4))]) [(0,Value.agg #[vI (p3),vI (p4)])] rfl rfl rfl rfl (uI (vI (p3)) (vI (p4))) rfl rfl rfl) rfl (fun u50=>(jM [([1],[]),([5],[]),([5],[]),([3],[]),([5],[]),([5],[]),([3],[]),([3],[]),([3],[])] rfl)) fun u50=>JR.loud rfl rfl rfl (kJ 6 aU rfl rfl rfl (aT (aC.res 0 rfl) aU) rfl rfl rfl rfl j26 j34 rfl) rfl (fun u51=>(jM [([1],[]),([5],[]),([5],[]),([3],[]),([3],[]),([3],[])] rfl)) fun u51=>JR.loud rfl rfl rfl (cR (e:=bH) ([((p2,p4))]) [(0,Value.agg #[vI (p2),vI (p4)])] rfl rfl rfl rfl (uI (vI (p2)) (vI (p4))) rfl rfl rfl) rfl (fun u52=>(jM [([6],[]),([6],[]),([4],[]),([3],[]),([6],[]),([6],[]),([4],[]),([4],[]),([4],[])] rfl)) fun u52=>JR.loud rfl rfl rfl (xD (j:=p2) 7 aU rfl rfl rfl (aT (aC.res 0 rfl) aU) rfl rfl rfl rfl j29 j37 rfl j38) rfl (fun u53=>(jM [([4],[]),([4],[])] rfl)) fun u53=>bN (bZ 7 rfl) fun hl54=>?_
  refine bD rfl (aS.cons 6 rfl .nil) .nil (eM 0 rfl rfl rfl rfl rfl j39.1 (by have q1:=j39.2;have q2:=hl54;(try simp only[List.length_set]at q1);(try simp only[List.length_set]at q2);(try simp only[List.length_set]);omega)) (hkI rfl) ?_
  refine bN (AF (k:=p2) (j:=p3) 7 rfl (by omega) ⟨j39.1,by first|exact j39.2|simpa using j39.2⟩) fun ho55=>?_
  refine pH rfl rfl rfl (zM 6 7 ⟨j39.1,by first|exact j39.2|simpa using j39.2⟩ rfl rfl rfl rfl (by simp) ho55 rfl) (fun x56=>(jM [([4],[])] rfl)) fun x56=>?_
  refine bF 24 rfl rfl<|bJ (bZ 7 rfl) fun hl57=>?_
  refine aB (eM 6 rfl rfl rfl rfl rfl j43.1 (by have q1:=j43.2;have q2:=hl57;(try simp only[List.length_set]at q1);(try simp only[List.length_set]at q2);(try simp only[List.length_set]);omega)) rfl ?_
  refine bJ (qQ 7 (k:=p3) rfl ⟨j43.1,by first|exact j43.2|simpa using j43.2⟩) fun ho58=>?_
  refine iK 6 7 ⟨j43.1,by first|exact j43.2|simpa using j43.2⟩ rfl rfl rfl rfl rfl (by simp) ho58 rfl ?_
  refine eI ?_
  cases h
  exact Ci (List.set (List.set w5 (Int.toNat p2) u51) (Int.toNat p3) u53) rfl rfl .normal (.inr rfl) (aS.ix [6,7] rfl rfl) aA.nil
 ·refine jkFld rfl<|jkLd 2 rfl<|jkMove rfl<|jkFld rfl<|jkLd 2 rfl<|jkMove rfl<|jkFld rfl<|jkLd 2 rfl<|jkMove rfl<|bN (bZ 5 rfl) fun hl59=>?_
  refine bD rfl (aS.cons 4 rfl .nil) .nil (eM 0 rfl rfl rfl rfl rfl j26.1 (by have q1:=j26.2;have q2:=hl59;(try simp only[List.length_set]at q1);(try simp only[List.length_set]at q2);(try simp only[List.length_set]);omega)) aK.z ?_
  refine bN (bZ 5 rfl) fun hl60=>bD rfl (aS.cons 4 rfl .nil) .nil (gZ 0 rfl rfl hl60 rfl rfl j26) aK.z<|jkLdA 1 rfl<|jkFld rfl<|jkLd 2 rfl<|jkMove rfl<|bN (bZ 5 rfl) fun hl61=>?_
  refine bD rfl (aS.cons 4 rfl .nil) .nil (eM 0 rfl rfl rfl rfl rfl j29.1 (by have q1:=j29.2;have q2:=hl61;(try simp only[List.length_set]at q1);(try simp only[List.length_set]at q2);(try simp only[List.length_set]);omega)) aK.z ?_
  refine bN (bZ 5 rfl) fun hl62=>bD rfl (aS.cons 4 rfl .nil) .nil (gZ 0 rfl rfl hl62 rfl rfl j29) aK.z<|jkLdA 0 rfl<|JR.loud rfl rfl rfl (cR (e:=bH) ([((p3,p4))]) [(0,Value.agg #[vI (p3),vI (p4)])] rfl rfl rfl rfl (uI (vI (p3)) (vI (p4))) rfl rfl rfl) rfl (fun u63=>(jM [([1],[]),([5],[]),([5],[]),([3],[]),([5],[]),([5],[]),([3],[]),([3],[]),([3],[])] rfl)) fun u63=>JR.loud rfl rfl rfl (cR (e:=bH) ([((p2,p4))]) [(0,Value.agg #[vI (p2),vI (p4)])] rfl rfl rfl rfl (uI (vI (p2)) (vI (p4))) rfl rfl rfl) rfl (fun u64=>(jM [([6],[]),([6],[]),([4],[]),([3],[]),([6],[]),([6],[]),([4],[]),([4],[]),([4],[])] rfl)) fun u64=>JR.loud rfl rfl rfl (kJ 7 aU rfl rfl rfl (aT (aC.res 1 rfl) aU) rfl rfl rfl rfl j26 j34 rfl) rfl (fun u65=>(jM [([2],[]),([6],[]),([6],[]),([4],[]),([4],[]),([4],[])] rfl)) fun u65=>JR.loud rfl rfl rfl (xD (j:=p2) 7 aU rfl rfl rfl (aT (aC.res 0 rfl) aU) rfl rfl rfl rfl j29 j37 rfl j38) rfl (fun u66=>(jM [([4],[]),([4],[])] rfl)) fun u66=>bN (bZ 7 rfl) fun hl67=>?_
  refine bD rfl (aS.cons 6 rfl .nil) .nil (eM 0 rfl rfl rfl rfl rfl j39.1 (by have q1:=j39.2;have q2:=hl67;(try simp only[List.length_set]at q1);(try simp only[List.length_set]at q2);(try simp only[List.length_set]);omega)) (hkI rfl) ?_
  refine bN (AF (k:=p2) (j:=p3) 7 rfl (by omega) ⟨j39.1,by first|exact j39.2|simpa using j39.2⟩) fun ho68=>?_
  refine pH rfl rfl rfl (zM 6 7 ⟨j39.1,by first|exact j39.2|simpa using j39.2⟩ rfl rfl rfl rfl (by simp) ho68 rfl) (fun x69=>(jM [([4],[])] rfl)) fun x69=>?_
  refine bF 24 rfl rfl<|bJ (bZ 7 rfl) fun hl70=>?_
  refine aB (eM 6 rfl rfl rfl rfl rfl j43.1 (by have q1:=j43.2;have q2:=hl70;(try simp only[List.length_set]at q1);(try simp only[List.length_set]at q2);(try simp only[List.length_set]);omega)) rfl ?_
  refine bJ (qQ 7 (k:=p3) rfl ⟨j43.1,by first|exact j43.2|simpa using j43.2⟩) fun ho71=>?_
  refine iK 6 7 ⟨j43.1,by first|exact j43.2|simpa using j43.2⟩ rfl rfl rfl rfl rfl (by simp) ho71 rfl ?_
  refine eI ?_
  cases h
  exact Ci (List.set (List.set w5 (Int.toNat p2) u65) (Int.toNat p3) u66) rfl rfl .normal (.inr rfl) (aS.ix [6,7] rfl rfl) aA.nil
 refine jkFld rfl<|jkLd 2 rfl<|jkMove rfl<|jkFld rfl<|jkLd 2 rfl<|jkMove rfl<|jkFld rfl<|jkLd 2 rfl<|jkMove rfl<|bN (bZ 5 rfl) fun hl72=>?_
 refine bD rfl (aS.cons 4 rfl .nil) .nil (eM 0 rfl rfl rfl rfl rfl j26.1 (by have q1:=j26.2;have q2:=hl72;(try simp only[List.length_set]at q1);(try simp only[List.length_set]at q2);(try simp only[List.length_set]);omega)) aK.z ?_
 refine bN (bZ 5 rfl) fun hl73=>bD rfl (aS.cons 4 rfl .nil) .nil (gZ 0 rfl rfl hl73 rfl rfl j26) aK.z<|jkLdA 1 rfl<|jkFld rfl<|jkLd 2 rfl<|jkMove rfl<|bN (bZ 5 rfl) fun hl74=>?_
 refine bD rfl (aS.cons 4 rfl .nil) .nil (eM 0 rfl rfl rfl rfl rfl j29.1 (by have q1:=j29.2;have q2:=hl74;(try simp only[List.length_set]at q1);(try simp only[List.length_set]at q2);(try simp only[List.length_set]);omega)) aK.z ?_
 refine bN (bZ 5 rfl) fun hl75=>bD rfl (aS.cons 4 rfl .nil) .nil (gZ 0 rfl rfl hl75 rfl rfl j29) aK.z<|jkLdA 0 rfl<|JR.loud rfl rfl rfl (cR (e:=bH) ([((p2,p4))]) [(0,Value.agg #[vI (p2),vI (p4)])] rfl rfl rfl rfl (uI (vI (p2)) (vI (p4))) rfl rfl rfl) rfl (fun u76=>(jM [([5],[]),([5],[]),([3],[]),([2],[]),([5],[]),([5],[]),([3],[]),([3],[]),([3],[])] rfl)) fun u76=>JR.loud rfl rfl rfl (cR (e:=bH) ([((p3,p4))]) [(0,Value.agg #[vI (p3),vI (p4)])] rfl rfl rfl rfl (uI (vI (p3)) (vI (p4))) rfl rfl rfl) rfl (fun u77=>(jM [([2],[]),([6],[]),([6],[]),([4],[]),([6],[]),([6],[]),([4],[]),([4],[]),([4],[])] rfl)) fun u77=>JR.loud rfl rfl rfl (kJ 7 aU rfl rfl rfl (aT (aC.res 0 rfl) aU) rfl rfl rfl rfl j26 j34 rfl) rfl (fun u78=>(jM [([2],[]),([6],[]),([6],[]),([4],[]),([4],[]),([4],[])] rfl)) fun u78=>JR.loud rfl rfl rfl (xD (j:=p2) 7 aU rfl rfl rfl (aT (aC.res 1 rfl) aU) rfl rfl rfl rfl j29 j37 rfl j38) rfl (fun u79=>(jM [([4],[]),([4],[])] rfl)) fun u79=>bN (bZ 7 rfl) fun hl80=>?_
 refine bD rfl (aS.cons 6 rfl .nil) .nil (eM 0 rfl rfl rfl rfl rfl j39.1 (by have q1:=j39.2;have q2:=hl80;(try simp only[List.length_set]at q1);(try simp only[List.length_set]at q2);(try simp only[List.length_set]);omega)) (hkI rfl) ?_
 refine bN (AF (k:=p2) (j:=p3) 7 rfl (by omega) ⟨j39.1,by first|exact j39.2|simpa using j39.2⟩) fun ho81=>?_
 refine pH rfl rfl rfl (zM 6 7 ⟨j39.1,by first|exact j39.2|simpa using j39.2⟩ rfl rfl rfl rfl (by simp) ho81 rfl) (fun x82=>(jM [([4],[])] rfl)) fun x82=>?_
 refine bF 24 rfl rfl<|bJ (bZ 7 rfl) fun hl83=>?_
 refine aB (eM 6 rfl rfl rfl rfl rfl j43.1 (by have q1:=j43.2;have q2:=hl83;(try simp only[List.length_set]at q1);(try simp only[List.length_set]at q2);(try simp only[List.length_set]);omega)) rfl ?_
 refine bJ (qQ 7 (k:=p3) rfl ⟨j43.1,by first|exact j43.2|simpa using j43.2⟩) fun ho84=>?_
 refine iK 6 7 ⟨j43.1,by first|exact j43.2|simpa using j43.2⟩ rfl rfl rfl rfl rfl (by simp) ho84 rfl ?_
 refine eI ?_
 cases h
 exact Ci (List.set (List.set w5 (Int.toNat p2) u78) (Int.toNat p3) u79) rfl rfl .normal (.inr rfl) (aS.ix [6,7] rfl rfl) aA.nil
end
section
def nR (b:(aQ×cJ)) (a:cJ):Option rB:=
 some ((b.1,a))
def rY (U:Nat) (p0:Az) (h:(aQ×cJ)) (a:Int×cJ) (b:(Int×cJ)->Option rB):Option rB:=
 if a.1<(List.length a.2:Int)then(Option.bind (qZ U p0.2.1 (wI .i64 (a.1 - (1:Int)))) fun c=>(Option.bind (eQ U c a.1) fun d=>(Option.bind (qZ U p0.2.2.1 (wI .i64 (a.1 - (1:Int)))) fun e=>(Option.bind (eQ U e (15:Int)) fun f=>(Option.bind (lU U ((p0.1,p0.2.1,p0.2.2.1,p0.2.2.2.1,p0.2.2.2.2.1,p0.2.2.2.2.2)) ((h.1,a.2)) d a.1 (wI .i64 ((1:Int)+f))) fun g=>(b ((wI .i64 (a.1+(1:Int))),g)))))))else(nR h (a.2))
def lT (U:Nat) (p0:Az) (p1:Int):Option rB:=
 Option.bind (kR U ((p0.1,p0.2.1,p0.2.2.1,p0.2.2.2.1,p0.2.2.2.2.1,p0.2.2.2.2.2)) p1) fun a=>(bM (rY U p0 a) U ((1:Int),a.2))
theorem SB:aO Tryz.prog 29:=Tryz.call29
theorem yR (U:Nat) {p0:Az} {p1:Int} (v0:Value)  (v1:Value)  (v2:Value) (r:(aQ×cJ)) (h:lT U p0 p1=some r):
  aV Tryz.prog 29 #[Value.agg #[vI (p0.1),v0,v1,v2,vB (p0.2.2.2.2.1),vB (p0.2.2.2.2.2)],vI (p1)] [Sl bL v0 p0.2.1,Sl bL v1 p0.2.2.1,Sl bL v2 p0.2.2.2.1] (fun x:Iq=>Value.agg #[x.1,x.2.1]) (fun x l=>Ar cE x.1 r.1::Ar c_.raw x.2.1 x.2.2::gU bH x.2.2 r.2::l) (fun _ l=>l):=by
 refine aV.of Tryz.func29 rfl Tryz.ntmps29 rfl fun c=>?_
 refine sqR<|aE (aG.box (cs:=[vI (p0.1),v0,v1,v2,vB (p0.2.2.2.2.1),vB (p0.2.2.2.2.2)]) rfl rfl) rfl fun b1=>aE (aG.alloc (cs:=[eG,eG]) rfl rfl) rfl fun b2=>dtN<|sqR<|qkLdA 1 rfl<|qkMove rfl<|bnE h fun r3 w4 h=>aE (aG.callQ SA (xO U v0 v1 v2 r3 w4) rfl (iJ [0,1,2] rfl)) rfl fun x5=>aE (aG.alloc (cs:=[eG,eG]) rfl rfl) rfl fun b6=>bJ (Know.one ((aT (aC.res 1 rfl) cW))) fun ho7=>bJ (Know.one (aC.sl (aP (i:=2) (j:=3) rfl rfl aU))) fun ho8=>aY 0 (vs:=[x5.1,x5.2.1]) rfl rfl (cB ho7 (cB ho8 rfl)) rfl rfl rfl<|dtN<|aH<|midL (B:=dO) (fun a11=>nR r3 a11=some r) (fun a11 b12=>[(4,vP b2),(5,vP b6)]) (fun a11 b12=>[bS b6 [x5.1,x5.2.1] 28,Ar cE x5.1 r3.1,Ar c_.raw x5.2.1 b12,gU bH b12 a11,bS b2 [eG,eG] 28]) ?_ ?_
 ·refine sqR<|qkAsg rfl<|dtN<|aR<|loopL (B:=dO) (rY U p0 r3) (fun a19 b20=>[(2,vP b1),(4,vP b2),(5,vP b6),(6,vI (a19.1))]) (fun a19 b20=>[bS b6 [x5.1,x5.2.1] 28,Ar cE x5.1 r3.1,Ar c_.raw x5.2.1 b20,gU bH b20 a19.2,bS b2 [eG,eG] 28,bS b1 [vI (p0.1),v0,v1,v2,vB (p0.2.2.2.2.1),vB (p0.2.2.2.2.2)] 24]) ((1:Int),r3.2) (x5.2.2) h SF (aS.refl _) ?_
  intro k21 a19 b20 h
  refine aH<|sqR<|qkMove rfl<|qkFld rfl<|qkLd 0 rfl<|aB (iY rfl (aP (i:=2) (j:=3) rfl rfl aU) rfl) rfl<|qkLss rfl<|dtN ?_
  refine eZ h rfl (fun h=>?_) fun h=>?_
  ·refine cL<|aH<|aR ?_
   refine JR.start [0,0,0,4,0,16,60,0,252,0,0,1024,0,4096,15868,32252,65020,131071] 17 mixedOrders (by decide +kernel) ?_
   refine JR.open (by exact rfl) ?_
   refine jkLdA 5 rfl<|jkLdA 0 rfl<|jkFld rfl<|jkLd 5 rfl<|jkMove rfl<|jqN rfl (pD rfl rfl)<|bnE h fun r23 w24 h=>JR.loud rfl rfl rfl (aG.callQ Hk (yW U v0 r23 w24) rfl (iJ [0] rfl)) rfl (fun x25=>(jM [([0],[]),([5],[])] rfl)) fun x25=>jqN rfl (kT rfl)<|bnE h fun r26 w27 h=>JR.loud rfl rfl rfl (aG.callQ CV (gQ U  r26 w27) rfl .nil) rfl (fun x28=>(jM [([0],[]),([5],[])] rfl)) fun x28=>jqN rfl (kT rfl)<|jqN rfl (dD rfl rfl rfl rfl rfl)<|bD rfl (aS.cons 5 rfl .nil) .nil (d_ 0 rfl rfl rfl rfl rfl) (aK.h (aS.ix [5] rfl rfl) .nil (aK.h (aS.ix [5] rfl rfl) .nil aK.z))<|jqN rfl (kT rfl)<|jqN rfl (pD rfl rfl)<|bnE h fun r29 w30 h=>JR.loud rfl rfl rfl (aG.callQ Hk (yW U v1 r29 w30) rfl (iJ [1] rfl)) rfl (fun x31=>(jM [([0],[]),([5],[])] rfl)) fun x31=>bnE h fun r32 w33 h=>JR.loud rfl rfl rfl (aG.callQ CV (gQ U  r32 w33) rfl .nil) rfl (fun x34=>(jM [([0],[]),([5],[])] rfl)) fun x34=>jqN rfl (xE rfl rfl)<|bF 17 rfl rfl<|bnE h fun r35 w36 h=>aE (yA (Min:=[Ar c_.raw x5.2.1 b20,gU bH b20 a19.2]) (Mr:=[bS b6 [x5.1,x5.2.1] 28,Ar cE x5.1 r3.1,bS b2 [eG,eG] 28,bS b1 [vI (p0.1),v0,v1,v2,vB (p0.2.2.2.2.1),vB (p0.2.2.2.2.2)] 24]) SG (yS U v0 v1 v2 x5.1 x5.2.1 b20 r35 w36) rfl (aS.ix [2,3,0,1,4,5] rfl rfl) (aA.cons (aC.fact 0 rfl) (aA.cons (aC.fact 1 rfl) (aA.cons (aC.fact 2 rfl) (aA.cons (aT (aC.res 1 rfl) cW) .nil)))) (fun _ _=>rfl)) rfl fun x37=>eI<|inT<|aM<|qkMove rfl<|qkAdd rfl<|qkAsg rfl<|dtN ?_
   exact kN ((wI .i64 (a19.1+(1:Int))),r35) (x37) h SF (aS.ix [2,3,0,1,4,5] rfl rfl) (aA.refl _ _)
  refine gH ?_
  exact bO (a19.2) (b20) h SF (aS.ix [0,1,2,3,4] rfl rfl) (aA.refl _ _)
 intro a11 b12 h
 unfold nR at h
 refine sqR<|qkLdA 0 rfl<|bJ (Know.one ((aT (aC.res 1 rfl) cW))) fun ho13=>bJ (Know.one (aC.sl (aP (i:=2) (j:=3) rfl rfl aU))) fun ho14=>aY 4 (vs:=[x5.1,x5.2.1]) rfl rfl (cB ho13 (cB ho14 rfl)) rfl rfl rfl<|dtN<|aN ?_
 cases h
 exact gE (x5.1,x5.2.1,b12) rfl rfl (RV.cell 4 rfl rfl rfl rfl) (aS.ix [1,2,3] rfl rfl) aA.nil
end
section
def iM (U:Nat) (p0:Int):Option (Int):=
 if p0=(0:Int)then(some (32:Int))else(ck (0<=(27:Int)) (ck ((0<=(oU .u32 (wI .u32 ((dC .u32 p0 (wI .u32 (0 - p0)))*(125613361:Int))) (27:Int))∧(oU .u32 (wI .u32 ((dC .u32 p0 (wI .u32 (0 - p0)))*(125613361:Int))) (27:Int))<((32:Nat):Int))∧List.length uB=32) (some (wI .i64 (at' uB (oU .u32 (wI .u32 ((dC .u32 p0 (wI .u32 (0 - p0)))*(125613361:Int))) (27:Int)))))))
theorem OQ:aO Tryz.prog 133:=Tryz.call133
theorem uX (U:Nat) {p0:Int} (r:Int) (h:iM U p0=some r):
  aV Tryz.prog 133 #[vU (p0)] [Gb 0 (cellsOf EK uB)] (fun x:Unit=>vI (r)) (fun x l=>l) (fun _ l=>l):=by
 refine aV.of Tryz.func133 rfl Tryz.ntmps133 rfl fun c=>?_
 refine sqR<|qkAsg rfl<|dtN<|aH<|sqR<|qkMove rfl<|qkEql rfl<|dtN ?_
 refine eZ h rfl (fun h=>?_) fun h=>?_
 ·refine sqR<|qkAsg rfl<|dtN<|aN<|aI ?_
  cases h
  exact lD rfl
 refine cL<|sqR<|qkMove rfl<|qkMove rfl<|aB (OE rfl) rfl<|qkAnd rfl<|aB (AL rfl rfl) rfl<|ckE h fun b h=>aB (He rfl rfl b) rfl<|ckE h fun a h=>aB (Lv rfl rfl rfl rfl rfl a.1) rfl<|aB (Qo (e:=EK) rfl (aC.fact 0 rfl) rfl rfl rfl rfl a) rfl<|aB (EN rfl rfl rfl) rfl<|qkAsg rfl<|dtN<|aN ?_
 cases h
 exact lD rfl
end
section
def iH  (a:Unit):Option (Bool):=
 some (true)
def fI (U:Nat) (p0:aQ) (p1:Int) (a:Int) (c:(Int)->Option (Bool)):Option (Bool):=
 if a≠(0:Int)then(Option.bind (iM U a) fun b=>(ck (0<=b∧b<(List.length p0:Int)) (if(dC .u32 (at' p0 b) p1)≠(0:Int)then(some (false))else(c (dC .u32 a (wI .u32 (a - (1:Int))))))))else(iH  (()))
def kU (U:Nat) (p0:aQ) (p1:Int) (a:Unit):Option (Bool):=
 bM (fI U p0 p1) U (p1)
def fQ (U:Nat) (p0:aQ) (p1:Int):Option (Bool):=
 kU U p0 p1 (())
theorem Vy:aO Tryz.prog 127:=Tryz.call127
theorem yQ (U:Nat) {p0:aQ} {p1:Int} (v0:Value) (r:Bool) (h:fQ U p0 p1=some r):
  aV Tryz.prog 127 #[v0,vU (p1)] [Sl wV v0 p0,Gb 0 (cellsOf EK uB)] (fun x:Unit=>vB (r)) (fun x l=>l) (fun _ l=>l):=by
 refine aV.of Tryz.func127 rfl Tryz.ntmps127 rfl fun c=>?_
 unfold fQ at h
 refine dV Ha<|sqR<|bJ (Know.one ((aC.fact 0 rfl))) fun ho3=>?_
 refine aE (aG.box (cs:=[v0]) rfl (by rw[cY ho3])) rfl fun b2=>?_
 refine aE (aG.box (cs:=[vU (p1)]) rfl rfl) rfl fun b4=>aE (aG.alloc (cs:=[vB (false)]) rfl rfl) rfl fun b5=>dtN<|aH<|JO (A:=Unit) (B:=gJ) (fun a7 b8=>⟨16,FX b8⟩) (fun a7=>iH  a7=some r) (fun a7 b8=>[(4,vP b5)]) (fun a7 b8=>[bS b5 [vB (false)] 4,Gd b8]) (fun a7 b8=>[Sl wV v0 p0,Gb 0 (cellsOf EK uB)]) ?_ ?_
 ·refine sqR<|qkLd 1 rfl<|AD (A:=Unit) (B:=Nat) (vs:=[vU (p1)]) (fun a10=>kU U p0 p1 a10=some r) (fun a10 b11=>Value.func (.func 132) #[] #[vP b11]) (fun a10 b11=>[bS b11 [vU (p1)] 50,bS b5 [vB (false)] 4,bS b4 [vU (p1)] 50,bS b2 [v0] 102,Gd ([]:gJ)]) (fun a10 b11=>[Sl wV v0 p0,Gb 0 (cellsOf EK uB)]) (uC.fn (show aO Tryz.prog 105 from Tryz.call105) rfl) Tryz.func105 rfl Tryz.ntmps105 rfl rfl ?_ ?_
  ·refine sqR<|aE (aG.box (cs:=[vU (p1)]) rfl rfl) rfl fun b27=>qkAsg rfl<|dtN<|sqR<|aB (vR (cs:=[.tmp 1]) (vs:=[vP b27]) rfl) rfl<|qkAsg rfl<|dtN<|aN ?_
   exact vL () (b27) h (.inl rfl) (FE.r1 rfl (RV.tmp rfl)) rfl (aS.refl _) (aA.refl _ _)
  intro a10 b11 h
  unfold kU at h
  refine dtN<|aR<|AE (i:=4) (cs:=[vP b11]) ([]:gJ) rfl (show aO Tryz.prog 132 from Tryz.call132) rfl Tryz.func132 rfl Tryz.ntmps132 rfl fun l12 D13 R14 hR15=>aR<|loopL (fI U p0 p1) (fun a18 b19=>[(0,qD l12),(1,vP b11)]) (fun a18 b19=>[Lp l12 R14 LoopState.ready none,bS b11 [vU (a18)] 50,bS b5 [vB (false)] 4,bS b4 [vU (p1)] 50,bS b2 [v0] 102,Gd (List.cons D13 ([]:gJ))]) (p1) () h SF (aS.refl _) ?_
  intro k20 a18 b19 h
  refine aH<|sqR<|qkLd 1 rfl<|qkNeq rfl<|dtN ?_
  refine eZ h rfl (fun h=>?_) fun h=>?_
  ·refine cL<|aH<|aR<|sqR<|qkMove rfl<|qkLd 1 rfl<|bnE h fun r22 w23 h=>aE (aG.callQ OQ (uX U  r22 w23) rfl (iJ [1] rfl)) rfl fun x24=>GU (us:=[vI (r22)]) (i:=0) hR15 rfl rfl rfl rfl rfl rfl<|aM<|qkAsg rfl<|dtN<|JK (i:=0) rfl<|aR<|aH ?_
   refine JR.start [0,0,3,7,0,31,63] 5 mixedOrders (by decide +kernel) ?_
   refine JR.open (by exact rfl) ?_
   refine jkLd 4 rfl<|jkMove rfl<|ckE h fun j25 h=>bD rfl .nil (lA 0 rfl) (bG rfl rfl (aC.fact 0 rfl) rfl rfl j25) aK.z<|bD rfl .nil (lA 0 rfl) (cK rfl (aC.fact 0 rfl) rfl rfl rfl AH j25) aK.z<|jkLd 3 rfl<|bF 5 rfl rfl<|qkAnd rfl<|qkNeq rfl<|dtN ?_
   refine eZ h rfl (fun h=>?_) fun h=>?_
   ·refine sqR<|fY 2 rfl rfl rfl rfl rfl rfl<|dtN<|aN<|bT<|RO (i:=0) rfl<|aB (o_ rfl) rfl<|dtN<|JM rfl<|aN<|bT<|aI<|aI<|bT<|Vd (i:=0) (.inl rfl) rfl (FE.r0 rfl)<|bT<|aI<|oW (i:=5) (Ds:=(List.cons D13 ([]:gJ))) (.inl rfl) rfl ?_
    cases h
    exact gE () rfl rfl (Lm 2 rfl rfl rfl rfl) .nil aA.nil
   refine eJ<|KZ<|Bw (i:=0) rfl<|aB (o_ rfl) rfl<|dtN<|AC rfl<|eJ<|inT<|aM<|qkLd 1 rfl<|qkLd 1 rfl<|aB (pD rfl rfl) rfl<|qkAnd rfl<|fY 1 rfl rfl rfl rfl rfl rfl<|dtN ?_
   exact Ah (dC .u32 a18 (wI .u32 (a18 - (1:Int)))) () h SF rfl
  refine qP<|eL<|eL<|wU<|No (i:=0) (.inr rfl) rfl (FE.r0 rfl)<|inT ?_
  exact DN () (List.cons D13 ([]:gJ)) rfl h SF (aS.ix [2,5] rfl rfl) (aA.refl _ _)
 intro a7 b8 h
 unfold iH at h
 refine sqR<|fY 0 rfl rfl rfl rfl rfl rfl<|dtN<|aN<|oW (i:=1) (Ds:=(b8)) (.inl rfl) rfl ?_
 cases h
 exact gE () rfl rfl (Lm 0 rfl rfl rfl rfl) .nil aA.nil
end
section
def kF (U:Nat) (p0:aQ) (p1:Int) (p2:Int) (p3:Int) (a:Bool):Option (Bool):=
 if a=true then(some (false))else(if p1=(1:Int)then(some (decide ((dC .u32 p3 (wI .u32 (p3 - (1:Int))))=(0:Int))))else(if p1=(2:Int)then(Option.bind (fQ U p0 p3) fun b=>(some (b)))else(if p1=(4:Int)then(some (decide (p3=p2)))else(some (true)))))
def eX (U:Nat) (p0:aQ) (p1:Int) (p2:Int) (p3:Int):Option (Bool):=
 if p3=(0:Int)then(kF U p0 p1 p2 p3 (true))else(kF U p0 p1 p2 p3 (decide ((qG .u32 p3 p2)≠(0:Int))))
theorem ON:aO Tryz.prog 102:=Tryz.call102
theorem uV (U:Nat) {p0:aQ} {p1:Int} {p2:Int} {p3:Int} (v0:Value) (r:Bool) (h:eX U p0 p1 p2 p3=some r):
  aV Tryz.prog 102 #[v0,vI (p1),vU (p2),vU (p3)] [Sl wV v0 p0,Gb 0 (cellsOf EK uB)] (fun x:Unit=>vB (r)) (fun x l=>l) (fun _ l=>l):=by
 refine aV.of Tryz.func102 rfl Tryz.ntmps102 rfl fun c=>?_
 refine sqR<|qkAsg rfl<|dtN<|aH<|aH<|midU (fun a2=>kF U p0 p1 p2 p3 a2=some r) (fun a2 b3=>[(0,v0),(1,vI (p1)),(2,vU (p2)),(3,vU (p3)),(16,vB (a2))]) (fun a2 b3=>[]) ?_ ?_
 ·refine aM<|qkMove rfl<|qkEql rfl<|qkMove rfl ?_
  refine AS h rfl (fun _ h=>?_) fun _ h=>?_
  ·refine gdSkip rfl<|gdSkip rfl<|gdSkip rfl<|gdSkip rfl<|qkPkT rfl<|dtN ?_
   exact iQ (true) () h SF rfl
  refine gyMove rfl<|gyMove rfl<|aL rfl (DW rfl rfl) rfl<|aL rfl (FK rfl rfl) rfl<|qkPkF rfl<|dtN ?_
  exact iQ (decide ((qG .u32 p3 p2)≠(0:Int))) () h SF rfl
 intro a2 b3 h
 refine zQ h rfl (fun _ h=>?_) fun _ h=>?_
 ·refine sqR<|qkAsg rfl<|dtN<|aN<|aI ?_
  cases h
  exact lD rfl
 refine cL<|aH<|sqR<|qkMove rfl<|dtN<|aR<|sqR<|qkEql rfl<|qkAsg rfl<|dtN ?_
 refine eZ h rfl (fun h=>?_) fun h=>?_
 ·refine sqR<|qkMove rfl<|qkMove rfl<|aB (pD rfl rfl) rfl<|qkAnd rfl<|qkEql rfl<|qkAsg rfl<|dtN<|aN<|bT<|aI ?_
  cases h
  exact lD rfl
 refine sqR<|qkEql rfl<|qkAsg rfl<|dtN ?_
 refine eZ h rfl (fun h=>?_) fun h=>?_
 ·refine sqR<|qkMove rfl<|qkMove rfl<|bnE h fun r7 w8 h=>aE (aG.callQ Vy (yQ U v0 r7 w8) rfl (iJ [0,1] rfl)) rfl fun x9=>qkAsg rfl<|dtN<|aN<|bT<|aI ?_
  cases h
  exact lD rfl
 refine sqR<|qkEql rfl<|qkAsg rfl<|dtN ?_
 refine eZ h rfl (fun h=>?_) fun h=>?_
 ·refine sqR<|qkMove rfl<|qkMove rfl<|qkEql rfl<|qkAsg rfl<|dtN<|aN<|bT<|aI ?_
  cases h
  exact lD rfl
 refine eJ<|inT<|sqR<|qkAsg rfl<|dtN<|aN ?_
 cases h
 exact lD rfl
end
section
def kG  (a:Int):Option (Int):=
 some (a)
def hZ (a:eS) (b:eR->Option (Int)) (c:Int):Option (Int):=
 b ((dC .u32 a.1 (wI .u32 (a.1 - (1:Int)))),c)
def dU (U:Nat) (p0:aQ) (a:eS) (c:eR->Option (Int)):Option (Int):=
 if a.1≠(0:Int)then(Option.bind (iM U a.1) fun b=>(ck (0<=b∧b<(List.length p0:Int)) (if(dC .u32 (at' p0 b) a.2)=(0:Int)then(ck (0<=b) (hZ a c (EH .u32 a.2 (xF .u32 (1:Int) b))))else(hZ a c (a.2)))))else(kG  (a.2))
def nY (U:Nat) (p0:aQ) (b:Int) (a:Unit):Option (Int):=
 bM (dU U p0) U (b,(0:Int))
def g_ (U:Nat) (p0:aQ) (p1:Int) (p2:Int) (a:Int):Option (Int):=
 if p1=(1:Int)then(some (dC .u32 a (wI .u32 (0 - a))))else(if p1=(2:Int)then(nY U p0 a (()))else(if p1=(4:Int)then(some (p2))else(some (a))))
def dJ (U:Nat) (p0:aQ) (p1:Int) (p2:Int) (p3:Int):Option (Int):=
 if(dC .u32 p3 p2)=(0:Int)then(g_ U p0 p1 p2 (dC .u32 p2 (wI .u32 (0 - p2))))else(g_ U p0 p1 p2 (dC .u32 p3 p2))
theorem SL:aO Tryz.prog 76:=Tryz.call76
theorem uW (U:Nat) {p0:aQ} {p1:Int} {p2:Int} {p3:Int} (v0:Value) (r:Int) (h:dJ U p0 p1 p2 p3=some r):
  aV Tryz.prog 76 #[v0,vI (p1),vU (p2),vU (p3)] [Sl wV v0 p0,Gb 0 (cellsOf EK uB)] (fun x:Unit=>vU (r)) (fun x l=>l) (fun _ l=>l):=by
 refine aV.of Tryz.func76 rfl Tryz.ntmps76 rfl fun c=>?_
 refine dV Ha<|sqR<|bJ (Know.one ((aC.fact 0 rfl))) fun ho3=>?_
 refine aE (aG.box (cs:=[v0]) rfl (by rw[cY ho3])) rfl fun b2=>?_
 refine qkAsg rfl<|dtN<|sqR<|qkMove rfl<|qkMove rfl<|qkAnd rfl<|qkAsg rfl<|dtN<|aH<|JO (A:=Int) (B:=Unit) (fun a5 b6=>⟨48,FX ([]:gJ)⟩) (fun a5=>g_ U p0 p1 p2 a5=some r) (fun a5 b6=>[(1,vI (p1)),(2,vU (p2)),(3,vU (a5)),(4,vP b2),(8,vU (0:Int))]) (fun a5 b6=>[bS b2 [v0] 102,Gd ([]:gJ)]) (fun a5 b6=>[Sl wV v0 p0,Gb 0 (cellsOf EK uB)]) ?_ ?_
 ·refine sqR<|qkMove rfl<|qkEql rfl<|dtN ?_
  refine eZ h rfl (fun h=>?_) fun h=>?_
  ·refine aM<|qkMove rfl<|qkMove rfl<|aB (OE rfl) rfl<|qkAnd rfl<|qkAsg rfl<|dtN ?_
   exact DN (dC .u32 p2 (wI .u32 (0 - p2))) () rfl h SF (aS.refl _) (aA.refl _ _)
  refine cL ?_
  exact DN (dC .u32 p3 p2) () rfl h SF (aS.refl _) (aA.refl _ _)
 intro a5 b6 h
 refine aH<|sqR<|qkMove rfl<|dtN<|aR<|sqR<|qkEql rfl<|qkAsg rfl<|dtN ?_
 refine eZ h rfl (fun h=>?_) fun h=>?_
 ·refine sqR<|qkMove rfl<|qkMove rfl<|aB (OE rfl) rfl<|qkAnd rfl<|qkAsg rfl<|dtN<|aN<|bT<|aI<|oW (i:=1) (Ds:=([]:gJ)) (.inl rfl) rfl ?_
  cases h
  exact vH rfl
 refine sqR<|qkEql rfl<|qkAsg rfl<|dtN ?_
 refine eZ h rfl (fun h=>?_) fun h=>?_
 ·refine sqR<|aE (aG.alloc (cs:=[vU (0:Int)]) rfl rfl) rfl fun b9=>fY 0 rfl rfl rfl rfl rfl rfl<|dtN<|aH<|JO (A:=Int) (B:=gJ) (fun a12 b13=>⟨48,FX b13⟩) (fun a12=>kG  a12=some r) (fun a12 b13=>[(9,vP b9)]) (fun a12 b13=>[bS b9 [vU (a12)] 50,Gd b13]) (fun a12 b13=>[Sl wV v0 p0,Gb 0 (cellsOf EK uB)]) ?_ ?_
  ·refine sqR<|qkMove rfl<|AD (A:=Unit) (B:=Nat) (vs:=[vU (a5)]) (fun a15=>nY U p0 a5 a15=some r) (fun a15 b16=>Value.func (.func 132) #[] #[vP b16]) (fun a15 b16=>[bS b16 [vU (a5)] 50,bS b9 [vU (0:Int)] 50,bS b2 [v0] 102,Gd ([]:gJ)]) (fun a15 b16=>[Sl wV v0 p0,Gb 0 (cellsOf EK uB)]) (uC.fn (show aO Tryz.prog 105 from Tryz.call105) rfl) Tryz.func105 rfl Tryz.ntmps105 rfl rfl ?_ ?_
   ·refine sqR<|aE (aG.box (cs:=[vU (a5)]) rfl rfl) rfl fun b37=>qkAsg rfl<|dtN<|sqR<|aB (vR (cs:=[.tmp 1]) (vs:=[vP b37]) rfl) rfl<|qkAsg rfl<|dtN<|aN ?_
    exact vL () (b37) h (.inl rfl) (FE.r1 rfl (RV.tmp rfl)) rfl (aS.refl _) (aA.refl _ _)
   intro a15 b16 h
   unfold nY at h
   refine dtN<|aR<|AE (i:=3) (cs:=[vP b16]) ([]:gJ) rfl (show aO Tryz.prog 132 from Tryz.call132) rfl Tryz.func132 rfl Tryz.ntmps132 rfl fun Zw D18 R19 hR20=>aR<|loopL (dU U p0) (fun a24 b25=>[(0,qD Zw),(1,vP b16)]) (fun a24 b25=>[Lp Zw R19 LoopState.ready none,bS b16 [vU (a24.1)] 50,bS b9 [vU (a24.2)] 50,bS b2 [v0] 102,Gd (List.cons D18 ([]:gJ))]) (a5,(0:Int)) () h SF (aS.refl _) ?_
   intro k26 a24 b25 h
   refine aH<|sqR<|qkLd 1 rfl<|qkNeq rfl<|dtN ?_
   refine eZ h rfl (fun h=>?_) fun h=>?_
   ·refine cL<|aH<|midU (fun a29=>hZ a24 (bM (dU U p0) k26) a29=some r) (fun a29 b30=>[(0,qD Zw),(1,vP b16)]) (fun a29 b30=>[Lp Zw R19 LoopState.ready none,bS b16 [vU (a24.1)] 50,bS b9 [vU (a29)] 50,bS b2 [v0] 102,Gd (List.cons D18 ([]:gJ))]) ?_ ?_
    ·refine aR<|sqR<|qkMove rfl<|qkLd 1 rfl<|bnE h fun r31 w32 h=>aE (aG.callQ OQ (uX U  r31 w32) rfl (iJ [1] rfl)) rfl fun x33=>GU (us:=[vI (r31)]) (i:=0) hR20 rfl rfl rfl rfl rfl rfl<|aM<|qkAsg rfl<|dtN<|JK (i:=0) rfl<|aR<|aH ?_
     refine JR.start [0,0,3,7,0,31,63] 5 mixedOrders (by decide +kernel) ?_
     refine JR.open (by exact rfl) ?_
     refine jkLd 3 rfl<|jkMove rfl<|ckE h fun j34 h=>bD rfl .nil (lA 0 rfl) (bG rfl rfl (aC.fact 0 rfl) rfl rfl j34) aK.z<|bD rfl .nil (lA 0 rfl) (cK rfl (aC.fact 0 rfl) rfl rfl rfl AH j34) aK.z<|jkLd 2 rfl<|bF 5 rfl rfl<|qkAnd rfl<|qkEql rfl<|dtN ?_
     refine eZ h rfl (fun h=>?_) fun h=>?_
     ·refine JR.start [0,0,2,7,15] 3 mixedOrders (by decide +kernel) ?_
      refine JR.open (by exact rfl) ?_
      refine jkLd 2 rfl<|jkMove rfl<|ckE h fun j36 h=>jqN rfl (FL rfl rfl j36)<|bF 3 rfl rfl<|aB (Nz rfl rfl) rfl<|fY 2 rfl rfl rfl rfl rfl rfl<|eI<|KZ<|Bw (i:=0) rfl<|aB (o_ rfl) rfl<|dtN<|AC rfl<|eJ<|inT ?_
      exact iQ (EH .u32 a24.2 (xF .u32 (1:Int) r31)) () h SF rfl
     refine eJ<|KZ<|Bw (i:=0) rfl<|aB (o_ rfl) rfl<|dtN<|AC rfl<|eJ<|inT ?_
     exact iQ (a24.2) () h SF rfl
    intro a29 b30 h
    unfold hZ at h
    refine aM<|qkLd 1 rfl<|qkLd 1 rfl<|aB (pD rfl rfl) rfl<|qkAnd rfl<|fY 1 rfl rfl rfl rfl rfl rfl<|dtN ?_
    exact Ah ((dC .u32 a24.1 (wI .u32 (a24.1 - (1:Int)))),a29) () h SF rfl
   refine qP<|eL<|eL<|wU<|No (i:=0) (.inr rfl) rfl (FE.r0 rfl)<|inT ?_
   exact DN (a24.2) (List.cons D18 ([]:gJ)) rfl h SF (aS.ix [2,4] rfl rfl) (aA.refl _ _)
  intro a12 b13 h
  unfold kG at h
  refine sqR<|qkLd 0 rfl<|qkAsg rfl<|dtN<|aN<|bT<|aI<|oW (i:=1) (Ds:=(b13)) (.inl rfl) rfl ?_
  cases h
  exact vH rfl
 refine sqR<|qkEql rfl<|qkAsg rfl<|dtN ?_
 refine eZ h rfl (fun h=>?_) fun h=>?_
 ·refine sqR<|qkMove rfl<|qkAsg rfl<|dtN<|aN<|bT<|aI<|oW (i:=1) (Ds:=([]:gJ)) (.inl rfl) rfl ?_
  cases h
  exact vH rfl
 refine eJ<|inT<|sqR<|qkMove rfl<|qkAsg rfl<|dtN<|aN<|oW (i:=1) (Ds:=([]:gJ)) (.inl rfl) rfl ?_
 cases h
 exact vH rfl
end
end Go.Proofs.YtpenklncfhiloaaGreatDoor
end
section
set_option maxRecDepth 100000
namespace Go.Gx
open Go Go.Sx Go.Proofs Go.Proofs.YtpenklncfhiloaaGreatDoor
noncomputable section
def aal (us:List GV) (H:GH):OR:=a1 us fun a=>ob (Tb H a) fun p0=>ob (dB 1000 p0) fun r=>TZ r H
def aak (us:List GV) (H:GH):OR:=a2 us fun a b=>ob (aac H a) fun p0=>ob (VW .i64 b) fun p1=>ob (lT 1000 p0 p1) fun r=>Ob r H
def Xf (us:List GV) (H:GH):OR:=a4 us fun a b c d=>ob (Td H a) fun p0=>ob (VW .i64 b) fun p1=>ob (VW .u32 c) fun p2=>ob (VW .u32 d) fun p3=>ob (eX 1000 p0 p1 p2 p3) fun r=>TZ r H
def aam (us:List GV) (H:GH):OR:=a4 us fun a b c d=>ob (Td H a) fun p0=>ob (VW .i64 b) fun p1=>ob (VW .u32 c) fun p2=>ob (VW .u32 d) fun p3=>ob (dJ 1000 p0 p1 p2 p3) fun r=>some (.int .u32 r,H)
def TA (f:Nat) (us:List GV) (H:GH):Option (GV×GH):=bif Nat.beq f 31 then aal us H else bif Nat.beq f 29 then aak us H else bif Nat.beq f 102 then Xf us H else bif Nat.beq f 76 then aam us H else none
abbrev gl:Nat->wT:=glb 0 (cellsOf EK uB)
def gp:GP:=⟨uZ,57,TA,Tz 166⟩
section
variable {T:Nat} {w0:eD (gl T)} {w:World} {ρ:dH} {H H':GH} {g:GV} {us:List GV} {vs:List Value}
theorem Wl (h:aal us H=some (g,H')) (R:eT w0 ρ H w) (l:oS ρ us vs):kE Tryz.prog w0 ρ 31 vs w g H':=by
 obtain⟨o,rfl,h⟩:=OF h
 obtain⟨p0,c,h⟩:=aD.1 h
 obtain⟨r,k,h⟩:=aD.1 h
 obtain⟨n,rfl,d⟩:=l.one
 obtain⟨e,i,m,rfl,a,b⟩:=QF R d c
 obtain⟨rfl,rfl⟩:=HU h
 exact Dv Do (nO 1000 (p0:=p0) e i m r k) R (List.forall_mem_cons.2 ⟨a,List.forall_mem_cons.2 ⟨b,fun f j=>absurd j List.not_mem_nil⟩⟩) fun ρ=> .bool _
theorem Wk (h:aak us H=some (g,H')) (R:eT w0 ρ H w) (i:oS ρ us vs):kE Tryz.prog w0 ρ 29 vs w g H':=by
 obtain⟨x,y,rfl,h⟩:=OG h
 obtain⟨p0,d,h⟩:=aD.1 h
 obtain⟨p1,e,h⟩:=aD.1 h
 obtain⟨r,t,h⟩:=aD.1 h
 obtain⟨u,vs,rfl,j,i⟩:=i.of_cons
 obtain⟨v,rfl,k⟩:=i.one
 obtain⟨l,m,n,rfl,a,b,c⟩:=VV R j d
 obtain rfl:=BH k e
 obtain⟨o,p,q,rfl,rfl⟩:=Mk h
 exact NS aaf aag o p q SB (yR 1000 (p0:=p0) (p1:=p1) l m n r t) R (List.forall_mem_cons.2 ⟨a,List.forall_mem_cons.2 ⟨b,List.forall_mem_cons.2 ⟨c,fun f s=>absurd s List.not_mem_nil⟩⟩⟩)
theorem TF (h:Xf us H=some (g,H')) (R:eT w0 ρ H w) (a:oS ρ us vs):kE Tryz.prog w0 ρ 102 vs w g H':=by
 obtain⟨u,v,x,y,rfl,h⟩:=JX h
 obtain⟨p0,b,h⟩:=aD.1 h
 obtain⟨p1,c,h⟩:=aD.1 h
 obtain⟨p2,d,h⟩:=aD.1 h
 obtain⟨p3,e,h⟩:=aD.1 h
 obtain⟨r,p,h⟩:=aD.1 h
 obtain⟨m,vs,rfl,i,a⟩:=a.of_cons
 obtain⟨q,vs,rfl,j,a⟩:=a.of_cons
 obtain⟨s,vs,rfl,k,a⟩:=a.of_cons
 obtain⟨t,rfl,l⟩:=a.one
 have n:=LS R i b
 obtain rfl:=BH j c
 obtain rfl:=BH k d
 obtain rfl:=BH l e
 obtain⟨rfl,rfl⟩:=HU h
 exact Dv ON (uV 1000 (p0:=p0) (p1:=p1) (p2:=p2) (p3:=p3) m r p) R (List.forall_mem_cons.2 ⟨n,List.forall_mem_cons.2 ⟨R.glb,fun f o=>absurd o List.not_mem_nil⟩⟩) fun ρ=> .bool _
theorem Wm (h:aam us H=some (g,H')) (R:eT w0 ρ H w) (a:oS ρ us vs):kE Tryz.prog w0 ρ 76 vs w g H':=by
 obtain⟨u,v,x,y,rfl,h⟩:=JX h
 obtain⟨p0,b,h⟩:=aD.1 h
 obtain⟨p1,c,h⟩:=aD.1 h
 obtain⟨p2,d,h⟩:=aD.1 h
 obtain⟨p3,e,h⟩:=aD.1 h
 obtain⟨r,p,h⟩:=aD.1 h
 obtain⟨m,vs,rfl,i,a⟩:=a.of_cons
 obtain⟨q,vs,rfl,j,a⟩:=a.of_cons
 obtain⟨s,vs,rfl,k,a⟩:=a.of_cons
 obtain⟨t,rfl,l⟩:=a.one
 have n:=LS R i b
 obtain rfl:=BH j c
 obtain rfl:=BH k d
 obtain rfl:=BH l e
 cases h
 exact Dv SL (uW 1000 (p0:=p0) (p1:=p1) (p2:=p2) (p3:=p3) m r p) R (List.forall_mem_cons.2 ⟨n,List.forall_mem_cons.2 ⟨R.glb,fun f o=>absurd o List.not_mem_nil⟩⟩) fun ρ=> .int _ _
theorem Km {f:Nat} (h:TA f us H=some (g,H')) (R:eT w0 ρ H w) (a:oS ρ us vs):kE Tryz.prog w0 ρ f vs w g H':=by
 unfold TA at h
 cases b:Nat.beq f 31 with
 |true=>rw[b]at h;rw[Nat.eq_of_beq_eq_true b];exact Wl h R a
 |false=>
 rw[b]at h
 cases c:Nat.beq f 29 with
 |true=>rw[c]at h;rw[Nat.eq_of_beq_eq_true c];exact Wk h R a
 |false=>
 rw[c]at h
 cases d:Nat.beq f 102 with
 |true=>rw[d]at h;rw[Nat.eq_of_beq_eq_true d];exact TF h R a
 |false=>
 rw[d]at h
 cases e:Nat.beq f 76 with
 |true=>rw[e]at h;rw[Nat.eq_of_beq_eq_true e];exact Wm h R a
 |false=>
 rw[e]at h
 cases h
end
theorem YD:aae Tryz.prog uZ=true:=by kernel_rfl
theorem GL:eK Tryz.prog uZ:=⟨MP,YC YD⟩
theorem YZ {gs:wT} (a:eD gs):qM Tryz.prog a (IU uZ 81 Tryz.f81):=SP GL mixedOrders Tryz.func81 Tryz.call81 (by kernel_rfl)
theorem Yw (args:Array Value) (w:World) (b:args.size=2):CallsDIn (FR none) 0 Tryz.prog 80 args .returning w fun e d w'=>∃v,e = .returned v∧d = .returning∧JJ w w':=by
 obtain⟨c,h,a⟩:=T_ (r:=CW uZ (IU uZ 81 Tryz.f81) (Ke Tryz.f80) (V_ uZ (IU uZ 81 Tryz.f81) (fun _ _ _ _=>none) (SN Tryz.f80) 0 ⟨[],0,[]⟩ (Eo [])) (Ke Tryz.f80).tail ⟨[(VR Tryz.f80,.inil)],H0⟩) (by kernel_rfl)
 exact Qw (ch:=IU uZ 81 Tryz.f81) (lp:=fun _ _ _ _=>none) GL mixedOrders YZ FV Tryz.func80 rfl rfl rfl (by decide +kernel) (fun ρ w=>by simp[execOp,resolve,invoke,builtin]) (by kernel_rfl) (by kernel_rfl) rfl (by rw[b];decide +kernel) h a
theorem aah {gs:wT} {a:FuncId->List GV->GH->Option (GV×GH)} (k:∀(b:eD gs) {f us H g H'},a f us H=some (g,H')->∀ρ w vs,eT b ρ H w->oS ρ us vs->kE Tryz.prog b ρ f vs w g H') (b:eD gs):Rt Tryz.prog ⟨uZ,57,a,Tz 166⟩ HX.fns b:=by
 refine⟨GL,mixedOrders,fun h=> ?_,k b,fun h ρ w vs H R j=>Wg Tryz.func166 rfl rfl rfl rfl h ρ w vs H R j,fun R hc c d=> ?_⟩
 ·obtain⟨e,i,h⟩:=aD.1 (show ob (PL _) _=some _ from h)
  cases h
  obtain⟨l,m,n⟩:=Uo i
  exact⟨l,m,Ml n⟩
 ·exact Yq (tb:=uZ) (T1:=3) (T2:=45) (cc:=80) GL Tryz.func57 Tryz.call57 Tryz.call80 rfl rfl rfl (OI (by kernel_rfl)) (OI (by kernel_rfl)) (PS rfl rfl) (PS rfl rfl) (TN rfl rfl) (TN rfl rfl) Yw R hc c d
theorem YG {T:Nat} (a:eD (gl T)):Rt Tryz.prog gp HX.fns a:=aah (fun a f us H g H' h ρ w vs R b=>Km h R b) a
def gp0:GP:=⟨uZ,57,fun _ _ _=>none,Tz 166⟩
theorem acQ (a:eD YX):Rt Tryz.prog gp0 HX.fns a:=aah (fun a f us H g H' h=>by cases h) a
end
end Go.Gx
end
section
namespace Go.Gx
open Go Go.Sx Go.RowKit
mutual
def Et (k:Nat):GV->GV
 | .ptr h o=> .ptr (k+h) o
 | .sl h o l s=> .sl (k+h) o l s
 | .map h=> .map (k+h)
 | .fn f a b=> .fn f (Rv k a) (Rv k b)
 | .agg cs=> .agg (Rv k cs)
 | .tup vs=> .tup (Rv k vs)
 | .int a b=> .int a b
 | .bool b=> .bool b
 | .str a b=> .str a b
 | .pnil=> .pnil
 | .snil=> .snil
 | .fnil=> .fnil
 | .inil=> .inil
 | .un=> .un
 | .bad=> .bad
 | .opn h=> .opn (k+h)
def Rv (k:Nat):List GV->List GV
 | []=>[]
 |v::r=>Et k v::Rv k r
end
theorem KC (k:Nat):∀(l:List GV) (i:Nat),(Rv k l)[i]? = (l[i]?).map (Et k)
 | [],i=>rfl
 |v::r,0=>rfl
 |v::r,i+1=>by simpa [Rv]using KC k r i
theorem CE (k:Nat):∀(l:List GV),(Rv k l).length=l.length
 | []=>rfl
 |v::r=>by simp[Rv,CE k r]
def UU (k:Nat):GO->GO
 | .cells cs=> .cells (Rv k cs)
 | .mp es=> .mp (es.map fun e=>(Et k e.1,Et k e.2))
def yO (k:Nat) (l:IM):IM:={l with o:=UU k l.o}
theorem Rl.shift {ρ e:dH} {k:Nat} (c:∀h l,ρ h=some l->e (k+h)=some (yO k l)) {g:GV} {v:Value} (h:Rl ρ g v):Rl e (Et k g) v:=by
 have d:∀{us:List GV} {j:dO},(∀(i:Nat) g v,us[i]? = some g->j[i]? = some v->Rl e (Et k g) v)->∀(i:Nat) g v,(Rv k us)[i]? = some g->j[i]? = some v->Rl e g v:=by
  intro us j A i g v w B
  rw[KC]at w
  obtain⟨x,y,rfl⟩:=Option.map_eq_some_iff.1 w
  exact A i x v y B
 induction h with
 |int a n=>simp only[Et];exact .int a n
 |bool b=>simp only[Et];exact .bool b
 |str s=>simp only[Et];exact .str s
 |ptr t h=>simp only[Et];exact .ptr (l:=yO k _) t (c _ _ h)
 |pnil=>simp only[Et];exact .pnil
 |sl h hc z=>simp only[Et];exact .sl (l:=yO k _) (c _ _ h) hc z
 |snil=>simp only[Et];exact .snil
 |map h=>simp only[Et];exact .map (l:=yO k _) (c _ _ h)
 |fn f m u o D q r=>simp only[Et];exact .fn f (by rw[CE];exact m) (d q) (by rw[CE];exact o) (d r)
 |fnil=>simp only[Et];exact .fnil
 |inil=>simp only[Et];exact .inil
 |agg m u o p=>simp only[Et];exact .agg (by rw[CE];exact m) (d p) o
 |tup m u p=>simp only[Et];exact .tup (by rw[CE];exact m) (d p)
 |un=>simp only[Et];exact .un
 |bad v=>simp only[Et];exact .bad v
 |opn v h C=>simp only[Et];exact .opn (l:=yO k _) v (c _ _ h) C

abbrev OL:=List (Nat×Nat×GO)
def Ru:OL->Nat->Option (Nat×GO)
 | [],_=>none
 |x::r,h=>if h=x.1 then some x.2 else Ru r h
theorem Kq {os:OL} {h:Nat} {p:Nat×GO} (a:Ru os h=some p):(h,p)∈os:=by
 induction os with
 |nil=>cases a
 |cons x r b=>
  simp only[Ru]at a
  split at a
  ·rename_i e;cases a;subst e;exact List.mem_cons_self
  ·exact List.mem_cons_of_mem _ (b a)
noncomputable def Mv (k:Nat) (t:Tr (Nat×GO)):OL->Tr (Nat×GO)
 | []=>t
 |x::r=>(Mv k t r).set (some (k+x.2.1,UU k x.2.2)) (k+x.1)
noncomputable def WE:OL->Tr (Nat×GO)
 | []=> .lf
 |x::r=>(WE r).set (some x.2) x.1
theorem BQ:∀(os:OL) (h:Nat),(WE os).get h=Ru os h
 | [],h=>rfl
 |x::r,h=>by
  show((WE r).set (some x.2) x.1).get h=_
  rw[qS]
  simp only[Ru]
  split
  ·rfl
  ·exact BQ r h
theorem HW (k:Nat) (t:Tr (Nat×GO)):∀(os:OL) (h:Nat),(Mv k t os).get h=if k<=h then(match Ru os (h - k)with|some p=>some (k+p.1,UU k p.2)|none=>t.get h)else t.get h
 | [],h=>by simp[Mv,Ru]
 | x :: r, h => by
  show((Mv k t r).set (some (k+x.2.1,UU k x.2.2)) (k+x.1)).get h=_
  rw[qS,HW k t r h]
  by_cases e:h=k+x.1
  ·subst e
   rw[if_pos rfl,if_pos (by omega)]
   simp[Ru]
  ·rw[if_neg e]
   by_cases a:k<=h
   ·rw[if_pos a,if_pos a]
    simp only[Ru]
    rw[if_neg (show¬h - k=x.1 by omega)]
   ·rw[if_neg a,if_neg a]
noncomputable def GD (n:Nat) (os:OL):GH:=⟨n,WE os⟩
noncomputable def GH.load (H:GH) (n:Nat) (os:OL):GH:=⟨H.n+n,Mv H.n H.t os⟩
section
variable {gs:wT} {w0:eD gs} {w w':World} {ρ ρ2:dH} {H:GH} {n:Nat} {os:OL}
theorem fL {H:GH} {h:Nat} {o:GO}:H.get h=some o↔∃v,H.t.get h=some (v,o):=by
 unfold GH.get
 cases c:H.t.get h with
 |none=>simp[ob]
 |some p=>obtain⟨a,b⟩:=p;simp[ob]
theorem qO {H:GH} {h v:Nat}:H.ver h=some v↔∃o,H.t.get h=some (v,o):=by
 unfold GH.ver
 cases c:H.t.get h with
 |none=>simp[ob]
 |some p=>obtain⟨a,b⟩:=p;simp[ob]
theorem eT.sub {d:GH} (R:eT w0 ρ H w) (z:d.n=H.n) (m:∀h p,d.t.get h=some p->H.t.get h=some p):eT w0 ρ d w:=by
 have g:∀h o,d.get h=some o->H.get h=some o:=fun h o i=>by
  obtain⟨v,j⟩:=fL.1 i
  exact fL.2 ⟨v,m _ _ j⟩
 refine⟨R.ext,fun h o i=>R.live h o (g h o i),fun h q o y l u e f=>R.inj h q o y l u (g _ _ e) (g _ _ f),fun h r=>R.fresh h (by omega),fun h r=>R.dense h (by omega),fun h v l j s=> ?_,R.env⟩
 obtain⟨o,k⟩:=qO.1 j
 obtain⟨x,a,b,c⟩:=R.vers h v l (qO.2 ⟨o,m _ _ k⟩) s
 refine⟨x,a,b,?_⟩
 have e:=fL.2 ⟨v,k⟩
 have f:=g _ _ e
 rw[c]at f;cases f;exact e
theorem vF.shift {l:IM} {o:GO} {f:dH} {k:Nat} (d:∀h l,ρ2 h=some l->f (k+h)=some (yO k l)) (h:vF ρ2 w l o):vF f w (yO k l) (UU k o):=by
 cases o with
 |cells cs=>
  obtain⟨j,T,r,s,t,x⟩:=h
  refine⟨j,T,r,s,by rw[CE];exact t,fun i g e=> ?_⟩
  rw[KC]at e
  obtain⟨p,q,rfl⟩:=Option.map_eq_some_iff.1 e
  obtain⟨v,a,b,c⟩:=x i p q
  exact⟨v,a,b.shift d,c⟩
 |mp y=>
  obtain⟨en,u,r,s,t⟩:=h
  refine⟨en,u,r,by simpa [UU]using s,fun i g e=> ?_⟩
  rw[List.getElem?_map]at e
  obtain⟨p,q,rfl⟩:=Option.map_eq_some_iff.1 e
  obtain⟨m,a,b,c⟩:=t i p q
  exact⟨m,a,b.shift d,c.shift d⟩
theorem eT.join {gs2:wT} {hb:FD gs2 w fun _=>False} (R:eT w0 ρ H w) (L:eT (eD.of w hb) ρ2 (GD n os) w'):
  ∃s:dH,ρ.le s∧eT w0 s (H.load n os) w'∧∀g v,Rl ρ2 g v->Rl s (Et H.n g) v:=by
 let s:dH:=fun h=>if h<H.n then ρ h else(ρ2 (h - H.n)).map (yO H.n)
 have F:ρ.le s:=fun h l f=>by
  have aa:h<H.n:=by
   rcases Nat.lt_or_ge h H.n with q|q
   ·exact q
   ·rw[R.fresh h q]at f;cases f
  show(if h<H.n then ρ h else _)=_
  rw[if_pos aa];exact f
 have J:∀h l,ρ2 h=some l->s (H.n+h)=some (yO H.n l):=fun h l f=>by
  show(if H.n+h<H.n then _ else _)=_
  rw[if_neg (by omega),show H.n+h - H.n=h by omega,f];rfl
 have k:∀h,h<H.n->s h=ρ h:=fun h u=>by show(if h<H.n then ρ h else _)=_;rw[if_pos u]
 have d:∀h,H.n<=h->s h=(ρ2 (h - H.n)).map (yO H.n):=fun h u=>by show(if h<H.n then ρ h else _)=_;rw[if_neg (by omega)]
 have I:∀h,H.n<=h->H.t.get h=none:=fun h u=>by
  cases x:H.t.get h with
  |none=>rfl
  |some p=>exact absurd (R.lt (fL.2 ⟨p.1,x⟩)) (by omega)
 have W:∀h,h<H.n->(H.load n os).t.get h=H.t.get h:=fun h u=>by
  show(Mv H.n H.t os).get h=_
  rw[HW,if_neg (by omega)]
 have gh:∀h p,H.n<=h->(H.load n os).t.get h=some p->∃p2,(GD n os).t.get (h - H.n)=some p2∧p=(H.n+p2.1,UU H.n p2.2):=fun h p u hp=>by
  have z:(Mv H.n H.t os).get h=some p:=hp
  rw[HW,if_pos u,I h u]at z
  cases Y:Ru os (h - H.n)with
  |none=>rw[Y]at z;cases z
  |some p2=>rw[Y]at z;cases z;exact⟨p2,(BQ os _).trans Y,rfl⟩
 have V:JJ w w':=L.ext.ext
 have K:∀l:IM,(eD.of w hb).mine l.b->w.heap.size<=l.b:=fun l h=>by
  rcases h with h|h
  ·exact h
  ·exact h.elim
 have r:∀h o,h<H.n->(H.load n os).get h=some o->∃l,ρ h=some l∧w0.mine l.b∧vF ρ w l o∧H.get h=some o:=fun h o u x=>by
  obtain⟨v,M⟩:=fL.1 x
  rw[W h u]at M
  have y:=fL.2 ⟨v,M⟩
  obtain⟨l,a,b,c⟩:=R.live h o y
  exact⟨l,a,b,c,y⟩
 have m:∀h o,H.n<=h->(H.load n os).get h=some o->∃l N,ρ2 (h - H.n)=some l∧w.heap.size<=l.b∧vF ρ2 w' l N∧o=UU H.n N∧(GD n os).get (h - H.n)=some N:=fun h o u x=>by
  obtain⟨v,M⟩:=fL.1 x
  obtain⟨p2,D,e⟩:=gh h _ u M
  cases e
  have y:(GD n os).get (h - H.n)=some p2.2:=fL.2 ⟨p2.1,D⟩
  obtain⟨l,a,b,c⟩:=L.live _ _ y
  exact⟨l,p2.2,a,K l b,c,rfl,y⟩
 refine⟨s,F,⟨R.ext.trans V,fun h o x=> ?_,fun h A o T l l' U D f j E=> ?_,fun h u=> ?_,fun h u=> ?_,fun h v l M f=> ?_,fun i v e=>let ⟨l,a,b⟩:=R.env i v e;⟨l,F _ _ a,b⟩⟩,fun g v x=>x.shift J⟩
 ·rcases Nat.lt_or_ge h H.n with q|q
  ·obtain⟨l,a,b,c,_⟩:=r h o q x
   exact⟨l,by rw[k h q];exact a,b,c.move F (V.block _ c.lt)⟩
  ·obtain⟨l,N,a,b,c,rfl,_⟩:=m h o q x
   exact⟨yO H.n l,by rw[d h q,a];rfl,.inl (Nat.le_trans R.ext.size b),c.shift J⟩
 ·rcases Nat.lt_or_ge h H.n with q|q<;>rcases Nat.lt_or_ge A H.n with G|G
  ·obtain⟨l1,B,_,_,O⟩:=r h o q U
   obtain⟨S,C,_,_,P⟩:=r A T G D
   rw[k h q,B]at f;rw[k A G,C]at j
   cases f;cases j
   exact R.inj h A o T _ _ O P B C E
  ·obtain⟨l1,B,_,c1,O⟩:=r h o q U
   obtain⟨S,N,C,b2,_,rfl,P⟩:=m A T G D
   rw[k h q,B]at f;rw[d A G,C]at j
   cases f;cases j
   have:=c1.lt
   simp only[yO]at E
   omega
  ·obtain⟨l1,o1,B,b1,_,rfl,O⟩:=m h o q U
   obtain⟨S,C,_,c2,P⟩:=r A T G D
   rw[d h q,B]at f;rw[k A G,C]at j
   cases f;cases j
   have:=c2.lt
   simp only[yO]at E
   omega
  ·obtain⟨l1,o1,B,b1,_,rfl,O⟩:=m h o q U
   obtain⟨S,N,C,b2,_,rfl,P⟩:=m A T G D
   rw[d h q,B]at f;rw[d A G,C]at j
   cases f;cases j
   have:=L.inj _ _ _ _ _ _ O P B C E
   omega
 ·have X:H.n+n<=h:=u
  rw[d h (by omega),L.fresh (h - H.n) (by show n<=_;omega)];rfl
 ·have X:h<H.n+n:=u
  rcases Nat.lt_or_ge h H.n with q|q
  ·obtain⟨l,f⟩:=R.dense h q
   exact⟨l,by rw[k h q];exact f⟩
  ·obtain⟨l,f⟩:=L.dense (h - H.n) (by show _<n;omega)
   exact⟨yO H.n l,by rw[d h q,f];rfl⟩
 ·obtain⟨o,Q⟩:=qO.1 M
  rcases Nat.lt_or_ge h H.n with q|q
  ·rw[W h q]at Q
   rw[k h q]at f
   obtain⟨lv,a,b,c⟩:=R.vers h v l (qO.2 ⟨o,Q⟩) f
   have x:=fL.2 ⟨v,Q⟩
   obtain⟨l',j,_,ck⟩:=R.live h o x
   rw[f]at j;cases j
   refine⟨lv,F _ _ a,by rw[V.block _ ck.lt];exact b,?_⟩
   obtain⟨v2,ab⟩:=fL.1 c
   exact fL.2 ⟨v2,by rw[W h q];exact ab⟩
  ·obtain⟨p2,D,e⟩:=gh h _ q Q
   cases e
   rw[d h q]at f
   obtain⟨S,Z,rfl⟩:=Option.map_eq_some_iff.1 f
   obtain⟨lv,a,b,c⟩:=L.vers (h - H.n) p2.1 S (qO.2 ⟨p2.2,D⟩) Z
   refine⟨yO H.n lv,J _ _ a,b,?_⟩
   have h3:(GD n os).get (h - H.n)=some p2.2:=fL.2 ⟨p2.1,D⟩
   rw[c]at h3
   have h4:=Option.some.inj h3
   exact fL.2 ⟨_,by rw[Q,<-h4];rfl⟩
end

theorem Tk {a b:Nat×Nat} (h:Nh a b=true):a=b:=by
 obtain⟨f,d⟩:=a
 obtain⟨g,e⟩:=b
 unfold Nh at h
 cases c:Nat.beq d e with
 |false=>simp[c]at h
 |true=>
  simp only[c,cond_true]at h
  rw[Nat.eq_of_beq_eq_true h,Nat.eq_of_beq_eq_true c]
theorem Un {ρ:dH} {n l:Nat} {x:ByteArray} (a:n=kD (bE x)) (b:l=(bE x).length):Rl ρ (.str n l) (.string x):=by
 rw[a,b];exact .str x
def isS (us:List GV) (p:Nat×Nat):Bool:=List.casesOn (motive:=fun _=>Bool) us false fun u r=>List.casesOn (motive:=fun _=>Bool) r (Option.casesOn (motive:=fun _=>Bool) (GV.asStr u) false fun s=>Nh s p) fun _ _=>false
theorem YJ {us:List GV} {p:Nat×Nat} (h:isS us p=true):us=[.str p.1 p.2]:=by
 cases us with
 |nil=>cases h
 | cons u r =>
  cases r with
  |cons _ _=>cases h
  | nil =>
   cases a:GV.asStr u with
   |none=>simp[isS,a]at h
   |some s=>
    have:Nh s p=true:=by simpa [isS,a]using h
    rw[oA a,Tk this]
noncomputable section
def Uh (H:GH) (a:List Nat):Option OL:=List.rec (motive:=fun _=>Option OL) (some []) (fun h _ b=>ob (H.t.get h) fun p=>ob b fun r=>some ((h,p.1,p.2)::r)) a
theorem Fp {H:GH}:∀{b:List Nat} {os:OL},Uh H b=some os->∀x∈os,H.t.get x.1=some x.2
 | [],os,h,x,a=>by cases h;cases a
 |h0::b,os,h,x,a=>by
  obtain⟨p,c,h⟩:=aD.1 (show ob (H.t.get h0) (fun p=>ob (Uh H b) fun r=>some ((h0,p.1,p.2)::r))=some os from h)
  obtain⟨r,d,h⟩:=aD.1 h
  cases h
  rcases List.mem_cons.1 a with rfl|a
  ·exact c
  ·exact Fp d x a
def TS (T:DU) (G:GP) (fuel f:Nat) (us:List GV) (a:List Nat):Option (GV×Nat×OL):=ob (Ho T G fuel f us H0) fun r=>ob (Uh r.2 a) fun os=>some (r.1,r.2.n,os)
def shK {R:Type} (k:Nat) (v:GV) (f:GV->R):R:=GV.casesOn (motive_1:=fun _=>R) v (fun a b=>f (.int a b)) (fun b=>f (.bool b)) (fun a b=>f (.str a b)) (fun h o=>sn (Nat.add k h) fun h=>f (.ptr h o)) (f .pnil) (fun h o l s=>sn (Nat.add k h) fun h=>f (.sl h o l s)) (f .snil) (fun h=>sn (Nat.add k h) fun h=>f (.map h)) (fun a b c=>f (Et k (.fn a b c))) (f .fnil) (f .inil) (fun cs=>f (Et k (.agg cs))) (fun vs=>f (Et k (.tup vs))) (f .un) (f .bad) (fun h=>sn (Nat.add k h) fun h=>f (.opn h))
theorem Ut {R:Type} (k:Nat) (v:GV) (f:GV->R):shK k v f=f (Et k v):=by
 cases v<;>simp[shK,tY,Et]
def Ze {R:Type} (k:Nat) (l:List GV):(List GV->R)->R:=List.rec (motive:=fun _=>(List GV->R)->R) (fun f=>f []) (fun x _ a f=>shK k x fun y=>a fun r=>f (y::r)) l
theorem PQ {R:Type} (k:Nat):∀(l:List GV) (f:List GV->R),Ze k l f=f (Rv k l)
 | [],f=>rfl
 |x::l,f=>by
  show shK k x (fun y=>Ze k l fun r=>f (y::r))=_
  rw[Ut,PQ k l];rfl
def Zf {R:Type} (k:Nat) (o:GO) (f:GO->R):R:=GO.casesOn (motive:=fun _=>R) o (fun cs=>Ze k cs fun cs=>f (.cells cs)) (fun a=>f (UU k (.mp a)))
theorem WK {R:Type} (k:Nat) (o:GO) (f:GO->R):Zf k o f=f (UU k o):=by
 cases o with
 |cells cs=>exact PQ k cs _
 |mp a=>rfl
def YY {R:Type} (k:Nat) (t:Tr (Nat×GO)) (os:OL):(Tr (Nat×GO)->R)->R:=List.rec (motive:=fun _=>(Tr (Nat×GO)->R)->R) (fun f=>f t) (fun x _ a f=>a fun t=>sn (Nat.add k x.2.1) fun v=>sn (Nat.add k x.1) fun h=>Zf k x.2.2 fun o=>t.setK (some (v,o)) h f) os
theorem PH {R:Type} (k:Nat) (t:Tr (Nat×GO)):∀(os:OL) (f:Tr (Nat×GO)->R),YY k t os f=f (Mv k t os)
 | [],f=>rfl
 |x::os,f=>by
  show YY k t os (fun t=>sn (Nat.add k x.2.1) fun v=>sn (Nat.add k x.1) fun h=>Zf k x.2.2 fun o=>t.setK (some (v,o)) h f)=_
  rw[PH k t os]
  simp only[tY,WK,AI];rfl
def Pw (g:GV) (n:Nat) (os:OL) (H:GH):Option (GV×GH):=sn H.n fun k=>shK k g fun g=>YY k H.t os fun t=>sn (Nat.add k n) fun m=>some (g,⟨m,t⟩)
theorem TR (g:GV) (n:Nat) (os:OL) (H:GH):Pw g n os H=some (Et H.n g,H.load n os):=by
 unfold Pw
 simp only[tY,Ut,PH];rfl
theorem Wx {P:Program} {T:DU} {G:GP} {gs gs2:wT} (d:gs2.obs=gs.obs) (b:gs2.env=[]) (D:Hb T G.tab) (C:∀k:eD gs2,Rt P G T.fns k) {fuel f n:Nat} {us:List GV} {vs:List Value} {E:List Nat} {g:GV} {os:OL} (c:TS T G fuel f us E=some (g,n,os)) (x:aO P f)
  {k:eD gs} {w:World} {ρ:dH} {H H':GH} {u:GV} (F:oS (fun _=>none) us vs) (h:Pw g n os H=some (u,H')) (R:eT k ρ H w):kE P k ρ f vs w u H':=by
 rw[TR]at h;cases h
 obtain⟨r,y,c⟩:=aD.1 (show ob (Ho T G fuel f us H0) _=some (g,n,os)from c)
 obtain⟨I,m,c⟩:=aD.1 c
 cases c
 rw[D_ D]at y
 have a:FD gs2 w fun _=>False:=fun p o=>⟨(R.glo p (d▸o)).1,id⟩
 rcases DZ C (H':=r.2) (g:=r.1) y (eT.start (eD.of w a) b) F with⟨v,w',j,i,_⟩|⟨_,hc⟩
 ·have:=x vs.toArray w
  rw[show(eD.of w a).w=w from rfl,this]at i;cases i
 ·refine .inr ⟨x _ w,hc.mono ?_⟩
  rintro e w' ⟨v,t,rfl,_,z,q⟩
  have A:eT (eD.of w a) t (GD r.2.n os) w':=z.sub rfl fun h p o=>by
   have:Ru os h=some p:=(BQ os h).symm.trans o
   exact Fp m _ (Kq this)
  obtain⟨j,l,B,s⟩:=R.join A
  exact⟨v,j,rfl,l,B,s _ _ q⟩
theorem QX {P:Program} {T:DU} {G:GP} {gs:wT} (q:Hb T G.tab) (o:∀A:eD gs,Rt P G T.fns A) {fuel f n:Nat} {us:List GV} {vs:List Value} {x:List Nat} {g:GV} {os:OL} (c:TS T G fuel f us x=some (g,n,os)) (s:aO P f)
  (y:oS (fun _=>none) us vs) (t:gs.env=[]) (b:eD gs):Calls P f vs.toArray b.w fun e w'=>∃v a,e = .returned v∧eT b a (GD n os) w'∧Rl a g v:=by
 obtain⟨r,l,c⟩:=aD.1 (show ob (Ho T G fuel f us H0) _=some (g,n,os)from c)
 obtain⟨z,i,c⟩:=aD.1 c
 cases c
 rw[D_ q]at l
 rcases DZ o (H':=r.2) (g:=r.1) l (eT.start b t) y with⟨v,w',a,d,_⟩|⟨_,hc⟩
 ·have:=s vs.toArray b.w
  rw[this]at d;cases d
 ·refine hc.mono ?_
  rintro e w' ⟨v,k,rfl,_,m,j⟩
  exact⟨v,k,rfl,m.sub rfl fun h p u=>by
   have:Ru os h=some p:=(BQ os h).symm.trans u
   exact Fp i _ (Kq this),j⟩
end
theorem Oa {P:Program} {gs:Nat->wT} {L:List aX} (y:∀w S,(∀h∈L,h.p w S)->∃T,FD (gs T) w fun _=>False) {f n:Nat} {vs:List Value} {g:GV} {os:OL}
  (h:∀T (b:eD (gs T)),Calls P f vs.toArray b.w fun e w'=>∃v c,e = .returned v∧eT b c (GD n os) w'∧Rl c g v) {A:Type} {o:A->Value} {LO:A->List aX}
  (d:∀T (b:eD (gs T)) (ρ:dH) (w:World) (V:Value),(∀k,b.mine k->b.w.heap.size<=k)->eT b ρ (GD n os) w->Rl ρ g V->∃x:A,V=o x∧∀q∈LO x,q.p w (fun k=>b.w.heap.size<=k)):
  aV P f vs.toArray L o (fun _ l=>l) (fun x l=>LO x++l):=by
 intro s u D
 obtain⟨T,t⟩:=y s u D
 refine(h T (.of s t)).mono ?_
 rintro e w' ⟨v,c,rfl,R,C⟩
 obtain⟨x,rfl,B⟩:=d T (.of s t) c w' v (fun k r=>r.elim id False.elim) R C
 refine⟨x,rfl,R.ext,fun _ _=>False,⟨fun i m z=>by simp at z,fun i k h=>h.elim,fun i j k h=>h.elim⟩,fun q a=> ?_⟩
 have a:q∈LO x++[]:=a
 rw[List.append_nil]at a
 exact aX.wide (B q a) (fun k r=>⟨.inr (.inl r),fun i h=>h.elim⟩)

noncomputable def Ge (s:ByteArray):Nat×Nat:=(kD (bE s),(bE s).length)
theorem LX {a b:ByteArray} (h:Ge a=Ge b):a=b:=by
 have c:=Tj a b
 unfold Ge at h
 rw[h]at c
 have e:Nh (kD (bE b),(bE b).length) (kD (bE b),(bE b).length)=true:=by simp[Nh]
 rw[e]at c
 have d:a.toList=b.toList:=eq_of_beq c.symm
 rw[Lib.toList_data,Lib.toList_data]at d
 obtain⟨⟨x⟩⟩:=a
 obtain⟨⟨y⟩⟩:=b
 simp only at d
 rw[d]
noncomputable def Yu (cs:List GV):Option (Nat×Nat):=List.casesOn (motive:=fun _=>Option (Nat×Nat)) cs none fun c r=>List.casesOn (motive:=fun _=>Option (Nat×Nat)) r c.asStr fun _ _=>none
abbrev Y_:eH ByteArray:=⟨1,Nat.one_pos,fun _ _ cs x=>cs=[.string x],fun h=>by simp[h],fun h _=>h⟩
theorem gF.str {S:Nat->Prop} {ρ:dH} {w:World}:gF S ρ w Yu Y_ Ge:=fun gs vs y a h _=>by
 cases gs with
 |nil=>cases h
 |cons c gs=>
 cases gs with
 |cons _ _=>cases h
 |nil=>
 have h:c.asStr=some y:=h
 obtain⟨v,vs,rfl,b,a⟩:=a.of_cons
 rw[a.of_nil]
 rw[oA h]at b
 obtain⟨x,rfl,d,e⟩:=b.str_inv
 exact⟨x,by unfold Ge;rw[<-d,<-e],rfl⟩
theorem WN {ρ:dH} {V:Value} {n l:Nat} {s:ByteArray} (h:Rl ρ (.str n l) V) (e:Ge s=(n,l)):V = .string s:=by
 obtain⟨x,rfl,a,b⟩:=h.str_inv
 have:Ge x=Ge s:=by rw[e];unfold Ge;rw[<-a,<-b]
 rw[LX this]
theorem HJ {c:Type}:∀a b:c,id a=id b->a=b:=fun _ _ h=>h
theorem BJ {c d e i:Type} {f:c->e} {g:d->i} (j:∀a b,f a=f b->a=b) (k:∀a b,g a=g b->a=b):∀a b:c×d,(fun z:c×d=>(f z.1,g z.2)) a=(fun z:c×d=>(f z.1,g z.2)) b->a=b:=fun a b h=>by
 obtain⟨l,m⟩:=a
 obtain⟨n,o⟩:=b
 simp only[Prod.mk.injEq]at h
 rw[j _ _ h.1,k _ _ h.2]
theorem HN {d e:Type} {f:d->e} (c:∀a b,f a=f b->a=b):∀{xs ys:List d},xs.map f=ys.map f->xs=ys
 | [],[],_=>rfl
 | [],_::_,h=>by simp at h
 |_::_,[],h=>by simp at h
 |a::xs,b::ys,h=>by
  simp only[List.map_cons,List.cons.injEq]at h
  rw[c _ _ h.1,HN c h.2]
end Go.Gx
end
section
set_option maxRecDepth 100000
namespace Go.Gx
open Go Go.Sx Go.Proofs Go.Proofs.YtpenklncfhiloaaGreatDoor
def mu0:List GV:=[.str 2782272544148574329703548915484139416562471587372346629090892429547018860149309682118537811771073185556707760590527461846276004869770941806974104689717583530206048895217444112283498148464 78]
def mg0:GV:=(.agg [(.str 1907970655657516625763 9),(.sl 328 0 1 6),(.sl 491 0 1 3)])
def TT:OL:=[(328,328,.cells [(.str 99 1),(.int .i64 (.ofNat 1)),(.int .i64 (.ofNat 0)),(.int .i64 (.ofNat 0)),(.int .i64 (.ofNat 1)),(.int .i64 (.ofNat 0))]),
 (410,410,.cells [(.int .i64 (.ofNat 21)),(.int .i64 (.ofNat 0)),(.int .i64 (.ofNat 35)),(.int .i64 (.ofNat 0)),(.int .i64 (.ofNat 12)),(.int .i64 (.ofNat 0)),(.int .i64 (.ofNat 5)),(.int .i64 (.ofNat 0))]),
 (475,475,.cells [(.int .i64 (.ofNat 27)),(.int .i64 (.ofNat 0)),(.int .i64 (.ofNat 12)),(.int .i64 (.ofNat 0))]),
 (483,483,.cells [(.int .i64 (.ofNat 0)),(.sl 475 0 2 2)]),
 (491,491,.cells [(.str 7891302 3),(.sl 410 0 4 2),(.sl 483 0 1 2)])]
set_option maxHeartbeats 4000000 in
theorem me0:TS HX gp 4000 11 mu0 [328,410,475,483,491]=some (mg0,651,TT):=by kernel_rfl
noncomputable def NO (f:Nat) (us:List GV) (H:GH):Option (GV×GH):=bif Nat.beq f 11 then(bif isS us (2782272544148574329703548915484139416562471587372346629090892429547018860149309682118537811771073185556707760590527461846276004869770941806974104689717583530206048895217444112283498148464,78)then Pw mg0 651 TT H else TA f us H)else TA f us H
noncomputable def aaj:GP:=⟨uZ,gp.cat,NO,gp.exn⟩
theorem QN {T:Nat} {d:eD (gl T)} {w:World} {ρ:dH} {H H':GH} {g:GV} {us:List GV} {vs:dO} {f:Nat} (h:NO f us H=some (g,H')) (R:eT d ρ H w) (a:oS ρ us vs):kE Tryz.prog d ρ f vs w g H':=by
 unfold NO at h
 cases b:Nat.beq f 11 with
 |false=>rw[b]at h;exact Km h R a
 | true =>
  rw[b]at h
  cases c:isS us (2782272544148574329703548915484139416562471587372346629090892429547018860149309682118537811771073185556707760590527461846276004869770941806974104689717583530206048895217444112283498148464,78)with
  |false=>rw[c]at h;exact Km h R a
  |true=>
   rw[c]at h;rw[Nat.eq_of_beq_eq_true b]
   rw[YJ c]at a
   obtain⟨V,rfl,j⟩:=a.one
   obtain⟨x,rfl,e,i⟩:=j.str_inv
   exact Wx (gs:=gl T) (gs2:=gl T) rfl rfl GK YG me0 Tryz.call11 (oS.cons (Un e i) .nil) h R
theorem aai {T:Nat} (a:eD (gl T)):Rt Tryz.prog aaj HX.fns a:=⟨(YG a).tab,(YG a).mixed,(YG a).fns,fun h ρ w vs R b=>QN h R b,(YG a).exn,(YG a).cat⟩
noncomputable abbrev gp2:GP:=aaj
theorem acR {T:Nat} (a:eD (gl T)):Rt Tryz.prog gp2 HX.fns a:=aai a
end Go.Gx
end
section
namespace Go.Gx
open Go Go.Sx Go.RowKit
structure Hd (n:Nat) (os:OL) (ρ:dH) (w:World) (S:Nat->Prop):Prop where
 live:∀h o,(GD n os).get h=some o->∃l,ρ h=some l∧S l.b∧vF ρ w l o
 inj:∀h h' o o' l l',(GD n os).get h=some o->(GD n os).get h'=some o'->ρ h=some l->ρ h'=some l'->l.b=l'.b->h=h'
 fresh:∀h,n<=h->ρ h=none
 dense:∀h,h<n->∃l,ρ h=some l
 vers:∀h v l,(GD n os).ver h=some v->ρ h=some l->∃lv,ρ v=some lv∧w.heap[l.b]? = some lv.x∧(GD n os).get h=some lv.o
theorem Hd.mono {n:Nat} {os:OL} {ρ:dH} {w w':World} {S f:Nat->Prop} (H:Hd n os ρ w S) (h:∀k,S k->k<w.heap.size->f k∧w'.heap[k]? = w.heap[k]?):Hd n os ρ w' f:=by
 refine⟨fun k o q=> ?_,H.inj,H.fresh,H.dense,fun k v l j i=> ?_⟩
 ·obtain⟨l,a,b,c⟩:=H.live k o q
  obtain⟨d,e⟩:=h _ b c.lt
  exact⟨l,a,d,c.move (dH.le_refl ρ) e⟩
 ·obtain⟨s,a,b,c⟩:=H.vers k v l j i
  obtain⟨o,r⟩:=qO.1 j
  obtain⟨t,g,m,p⟩:=H.live k o (fL.2 ⟨v,r⟩)
  rw[i]at g;cases g
  exact⟨s,a,by rw[(h _ m p.lt).2];exact b,c⟩
theorem eT.hd {gs:wT} {b:eD gs} {n:Nat} {os:OL} {ρ:dH} {w:World} {S:Nat->Prop} (R:eT b ρ (GD n os) w) (d:∀k,b.mine k->S k):Hd n os ρ w S:=
 ⟨fun h o e=>let ⟨l,a,b,c⟩:=R.live h o e;⟨l,a,d _ b,c⟩,R.inj,R.fresh,R.dense,R.vers⟩
def RD (n:Nat) (os:OL) (g:GV) (V:Value):aX where
 p w S:=∃ρ,Hd n os ρ w S∧Rl ρ g V
 mono:=fun⟨ρ,h,r⟩ k=>⟨ρ,h.mono k,r⟩
def Hd.O (n:Nat) (os:OL) (ρ:dH) (k:Nat):Prop:=∃h o l,(GD n os).get h=some o∧ρ h=some l∧l.b=k
def Hd.base (n:Nat) (os:OL) (ρ:dH) (w:World):eD YX:=⟨w,Hd.O n os ρ,fun _ h=>absurd h List.not_mem_nil⟩
theorem Hd.rel {n:Nat} {os:OL} {ρ:dH} {w:World} {S:Nat->Prop} (H:Hd n os ρ w S):eT (Hd.base n os ρ w) ρ (GD n os) w:=
 ⟨Ae.refl w,fun h o b=>let ⟨l,a,_,c⟩:=H.live h o b;⟨l,a,.inr ⟨h,o,l,b,a,rfl⟩,c⟩,H.inj,H.fresh,H.dense,H.vers,fun i v e=>by simp[Hd.base,YX]at e⟩
noncomputable def Da (H:GH) (os:OL):Bool:=List.rec (motive:=fun _=>Bool) true (fun x _ a=>Option.casesOn (motive:=fun _=>Bool) (H.ver x.1) false fun v=>bif Nat.beq v x.2.1 then a else false) os
theorem MD {H:GH}:∀{os:OL},Da H os=true->∀x∈os,H.ver x.1=some x.2.1
 | [],_,x,a=>by cases a
 | y :: os, h, x, a => by
  have h:Option.casesOn (motive:=fun _=>Bool) (H.ver y.1) false (fun v=>bif Nat.beq v y.2.1 then Da H os else false)=true:=h
  cases b:H.ver y.1 with
  |none=>rw[b]at h;cases h
  | some v =>
   rw[b]at h
   obtain⟨c,d⟩:=bI.1 (show(bif Nat.beq v y.2.1 then(some (Da H os))else none)=some true by
    have h:(bif Nat.beq v y.2.1 then Da H os else false)=true:=h
    cases e:Nat.beq v y.2.1<;>rw[e]at h<;>first|cases h|(show some (Da H os)=some true;rw[show Da H os=true from h]))
   rcases List.mem_cons.1 a with rfl|a
   ·rw[b,Nat.eq_of_beq_eq_true c]
   ·exact MD (Option.some.inj d) x a
noncomputable def okV (os:OL) (r:OR):Bool:=Option.casesOn (motive:=fun _=>Bool) r false fun r=>Option.casesOn (motive:=fun _=>Bool) r.1.asB false fun b=>bif b then Da r.2 os else false
theorem Ub {os:OL} {r:OR} (h:okV os r=true):∃H',r=some (.bool true,H')∧Da H' os=true:=by
 cases r with
 |none=>cases h
 | some r =>
  obtain⟨g,H'⟩:=r
  have h:Option.casesOn (motive:=fun _=>Bool) g.asB false (fun b=>bif b then Da H' os else false)=true:=h
  cases a:g.asB with
  |none=>rw[a]at h;cases h
  |some b=>
   rw[a]at h
   cases b with
   |false=>cases h
   |true=>exact⟨H',by rw[zO a],h⟩
theorem QQ {P:Program} {G:GP} {s:FT} (C:∀M:eD YX,Rt P G s M) {fuel f n:Nat} {os:OL} {g:GV} {V:Value} (D:aO P f) (h:∃H',OU G s fuel f [g] (GD n os)=some (.bool true,H')∧Da H' os=true) {w:World} {S:Nat->Prop} (K:(RD n os g V).p w S):
  Calls P f #[V] w fun e w'=>e = .returned (.bool true)∧JJ w w':=by
 obtain⟨ρ,t,I⟩:=K
 obtain⟨H',A,B⟩:=h
 rcases DZ C A t.rel (.cons I .nil)with⟨v,w',N,j,_⟩|⟨_,hc⟩
 ·have:=D #[V] w
  rw[this]at j;cases j
 ·refine hc.mono ?_
  rintro e w' ⟨v,Q,rfl,d,c,J⟩
  refine⟨by rw[J.bool_inv],c.ext.os,c.ext.tape,c.ext.output,c.ext.size,fun k F=> ?_⟩
  by_cases x:Hd.O n os ρ k
  ·obtain⟨i,o,l,E,u,rfl⟩:=x
   obtain⟨r,m⟩:=fL.1 E
   have H:(i,r,o)∈os:=Kq ((BQ os i).symm.trans m)
   obtain⟨L,a,b,_⟩:=t.vers i r l (qO.2 ⟨o,m⟩) u
   obtain⟨q,y,z,_⟩:=c.vers i r l (MD B _ H) (d _ _ u)
   have:L=q:=by have:=d _ _ a;rw[y]at this;exact(Option.some.inj this).symm
   subst this
   exact z.trans b.symm
  ·exact c.ext.block k F x
end Go.Gx
end
section
namespace Go.Proofs.YtpenklncfhiloaaGreatDoor
open Go Go.Sx Go.Gx
set_option maxRecDepth 100000
abbrev rU:=ByteArray×(Value×dQ)×(Value×List (Int×(Value×dQ)))
def vW (z:rU):dQ×List (Int×dQ):=(z.2.1.2,z.2.2.2.map fun s=>(s.1,s.2.2))
def zV:ByteArray:=(ByteArray.mk #[112,114,111,103,114,97,109,32,99,111,108,111,117,114,105,110,103,59,10,118,97,114,32,99,32,58,32,48,32,46,46,32,110,59,10,114,117,108,101,32,102,105,120,58,32,115,111,109,101,40,113,46,99,32,61,61,32,99,41,32,45,62,32,99,32,58,61,32,109,101,120,40,113,46,99,41,59,10])
def Fq:Ga:=[((ByteArray.mk #[99]),(1:Int),(0:Int),(0:Int),(1:Int),(0:Int))]
def Cz:Jx:=[([(21,0),(35,0),(12,0),(5,0)],[(0,[(27,0),(12,0)])])]
def Xk:List ((Nat×Nat)×dQ×List (Int×dQ)):=[((7891302,3),[(21,0),(35,0),(12,0),(5,0)],[(0,[(27,0),(12,0)])])]
def PF (V:Value):aX:=⟨fun w S=>(RD 651 TT mg0 V).p w S,fun {w w' S S'} h k=>by
 rcases h with h
 ·exact((RD 651 TT mg0 V).mono h k)⟩
noncomputable def Qq {R:Type} (D:Jx) (k:List rU->Option R):Option R:=open Classical in if h:∃r,∀z:List rU,z.map vW=D->k z=some r then some (Classical.choose h)else none
theorem Aj {R:Type} {D:Jx} {k:List rU->Option R} {r:R} (h:Qq D k=some r) (z:List rU) (a:z.map vW=D):k z=some r:=by
 unfold Qq at h
 split at h
 ·rename_i e
  rw[<-Option.some.inj h]
  exact Classical.choose_spec e z a
 cases h
theorem OH {R:Type} {D:Jx} {k:List rU->Option R} {r:R} (h:∀z:List rU,z.map vW=D->k z=some r):Qq D k=some r:=by
 have e:∃r,∀z:List rU,z.map vW=D->k z=some r:=⟨r,h⟩
 unfold Qq
 rw[dif_pos e]
 let z:List rU:=D.map fun x=>(ByteArray.empty,(undef,x.1),(undef,x.2.map fun s=>(s.1,(undef,s.2))))
 have c:z.map vW=D:=by
  show(D.map _).map vW=D
  rw[List.map_map]
  conv=>rhs;rw[<-List.map_id D]
  refine List.map_congr_left fun x _=>?_
  obtain⟨a,b⟩:=x
  simp[vW,Function.comp_def]
 rw[<-Classical.choose_spec e z c,h z c]
def mO (fuel:Nat) (p0:ByteArray):Option Uz:=if p0=zV then some ((ByteArray.mk #[99,111,108,111,117,114,105,110,103]),Fq,Cz)else none
theorem ES:aO Tryz.prog 11:=Tryz.call11
theorem NF:aO Tryz.prog 37:=Tryz.call37
theorem Mu:Ge zV=(2782272544148574329703548915484139416562471587372346629090892429547018860149309682118537811771073185556707760590527461846276004869770941806974104689717583530206048895217444112283498148464,78):=by kernel_rfl
theorem Ui:Ge (ByteArray.mk #[99,111,108,111,117,114,105,110,103])=(1907970655657516625763,9):=by kernel_rfl
theorem Uk:LU (GD 651 TT) 6 (dP 1 Yu (dP 1 (dI .i64) (dP 1 (dI .i64) (dP 1 (dI .i64) (dP 1 (dI .i64) (dI .i64)))))) (.sl 328 0 1 6)=some (Fq.map fun z=>(Ge z.1,z.2.1,z.2.2.1,z.2.2.2.1,z.2.2.2.2.1,z.2.2.2.2.2)):=by kernel_rfl
theorem Rf:LU (GD 651 TT) 3 (dP 1 Yu (dP 1 (dS (GD 651 TT) 2 (dP 1 (dI .i64) (dI .i64))) (dS (GD 651 TT) 2 (dP 1 (dI .i64) (dS (GD 651 TT) 2 (dP 1 (dI .i64) (dI .i64))))))) (.sl 491 0 1 3)=some Xk:=by kernel_rfl
theorem WB:Xk.map (fun y=>(y.2.1,y.2.2))=Cz:=by kernel_rfl
theorem Uj (r:Uz) (h:some ((ByteArray.mk #[99,111,108,111,117,114,105,110,103]),Fq,Cz)=some r):aV Tryz.prog 11 #[vS zV] [Gb 0 (cellsOf EK uB)] (fun x:Value×Value×{z:List rU // z.map vW=r.2.2}=>Value.agg #[vS r.1,x.1,x.2.1]) (fun x l=>l) (fun x l=>Sl aJ x.1 r.2.1::Sl aF x.2.1 x.2.2.1::PF (Value.agg #[vS r.1,x.1,x.2.1])::l):=by
 cases h
 refine Oa (gs:=gl) (LO:=fun x:Value×Value×{z:List rU // z.map vW=Cz}=>[Sl aJ x.1 Fq,Sl aF x.2.1 x.2.2.1,PF (Value.agg #[vS (ByteArray.mk #[99,111,108,111,117,114,105,110,103]),x.1,x.2.1])]) TC (fun T b=>QX GK YG me0 ES (.cons (Un (x:=zV) (congrArg Prod.fst Mu).symm (congrArg Prod.snd Mu).symm) .nil) rfl b) ?_
 intro T b ρ w V a R g
 have v:=g
 obtain⟨f,rfl,c,_⟩:=g.agg_inv
 obtain⟨A,f,rfl,k,c⟩:=c.of_cons
 obtain⟨i,f,rfl,m,c⟩:=c.of_cons
 obtain⟨j,rfl,n⟩:=c.one
 obtain rfl:=WN k Ui
 obtain⟨y,u,p⟩:=Co R a (gF.pair gF.str (gF.pair (gF.int .i64) (gF.pair (gF.int .i64) (gF.pair (gF.int .i64) (gF.pair (gF.int .i64) (gF.int .i64)))))) m Uk
 have e:y=Fq:=HN (BJ (fun _ _=>LX) (BJ HJ (BJ HJ (BJ HJ (BJ HJ HJ))))) u
 subst e
 obtain⟨ys,t,s⟩:=Co (r:=aF) R a (gF.pair gF.str (gF.pair (gF.sl R a (gF.pair (gF.int .i64) (gF.int .i64))) (gF.sl R a (gF.pair (gF.int .i64) (gF.sl R a (gF.pair (gF.int .i64) (gF.int .i64))))))) n Rf
 have d:ys.map vW=Cz:=by
  rw[<-WB,<-t,List.map_map]
  refine List.map_congr_left fun x _=>?_
  simp[vW,Function.comp_def]
 exact⟨(i,j,⟨ys,d⟩),rfl,List.forall_mem_cons.2 ⟨p,List.forall_mem_cons.2 ⟨s,List.forall_mem_cons.2 ⟨(⟨ρ,eT.hd R a,v⟩),fun q o=>absurd o List.not_mem_nil⟩⟩⟩⟩
theorem UP:okV TT (Ho HX gp0 4000 37 [mg0] (GD 651 TT))=true:=by kernel_rfl
theorem pQ (fuel:Nat) {p0:ByteArray} (r:Uz) (h:mO fuel p0=some r):aV Tryz.prog 11 #[vS p0] [Gb 0 (cellsOf EK uB)] (fun x:Value×Value×{z:List rU // z.map vW=r.2.2}=>Value.agg #[vS r.1,x.1,x.2.1]) (fun x l=>l) (fun x l=>Sl aJ x.1 r.2.1::Sl aF x.2.1 x.2.2.1::PF (Value.agg #[vS r.1,x.1,x.2.1])::l):=by
 unfold mO at h
 by_cases a:p0=zV
 ·subst a;exact Uj r ((if_pos rfl).symm.trans h)
 rw[if_neg a]at h
 cases h
theorem Mt (f:Nat):mO f zV=some ((ByteArray.mk #[99,111,108,111,117,114,105,110,103]),Fq,Cz):=by
 unfold mO
 exact if_pos rfl
def sI (fuel:Nat) (p0:ByteArray×List (ByteArray×Int×Int×Int×Int×Int)×List (rU)):Option Bool:=some true
theorem De (fuel:Nat) {p0:ByteArray×List (ByteArray×Int×Int×Int×Int×Int)×List (rU)} (b c:Value) (r:Bool) (h:sI fuel p0=some r):
  aV Tryz.prog 37 #[Value.agg #[vS p0.1,b,c]] [Sl aJ b p0.2.1,Sl aF c p0.2.2,PF (Value.agg #[vS p0.1,b,c])] (fun x:Unit=>vB (r)) (fun x l=>l) (fun _ l=>l):=by
 cases h
 intro w S t
 have d:Calls Tryz.prog 37 #[Value.agg #[vS p0.1,b,c]] w fun e w'=>e = .returned (.bool true)∧JJ w w':=by
  rcases t _ (List.mem_of_getElem? (i:=2) rfl)with p
  ·refine QQ (fuel:=4000) acQ NF ?_ p
   obtain⟨H',f,g⟩:=Ub UP
   rw[D_ (G:=gp0) GK]at f
   exact⟨H',f,g⟩
 refine d.mono ?_
 rintro e w' ⟨rfl,a⟩
 exact⟨(),rfl,⟨a.os,a.tape,a.output,a.size,fun k n _=>a.block k n⟩,fun _ _=>False,⟨fun i m o=>by simp at o,fun i k h=>h.elim,fun i j k h=>h.elim⟩,fun q s=>by simp at s⟩
end Go.Proofs.YtpenklncfhiloaaGreatDoor
end
section
namespace Go.Proofs.YtpenklncfhiloaaGreatDoor
open Go Go.Sx
section
abbrev aaZ:=Cc
abbrev PRG:=ByteArray×(List aaZ)×(List rU)
abbrev GRF:=List Int×cJ
abbrev SCN:=PRG×GRF×Int×a_
abbrev ZQ:=SCN×a_×Int×dQ
inductive E where
 |lf (o a:Int)
 |un (o:Int) (x:E)
 |ag (o:Int) (x:E)
 |bi (o:Int) (x y:E)
 |ite (x y z:E)
def E.ts:E->dQ
 |lf o a=>[(o,a)]
 |un o x=>(o,0)::x.ts
 |ag o x=>(o,0)::x.ts
 |bi o x y=>(o,0)::(x.ts++y.ts)
 |ite x y z=>(43,0)::(x.ts++(y.ts++z.ts))
def E.depth:E->Nat
 |lf _ _=>1
 |un _ x=>x.depth+1
 |ag _ x=>x.depth+1
 |bi _ x y=>max x.depth y.depth+1
 |ite x y z=>max x.depth (max y.depth z.depth)+1
def E.arOk:E->Bool
 |lf o _=>decide (1<=o)&&decide (o<=17)
 |un o x=>decide (18<=o)&&decide (o<=19)&&x.arOk
 |ag o x=>decide (20<=o)&&decide (o<=29)&&x.arOk
 |bi o x y=>decide (30<=o)&&decide (o<=42)&&x.arOk&&y.arOk
 |ite x y z=>x.arOk&&y.arOk&&z.arOk
theorem J_ {a:Type} [Inhabited a] {T pre rest:List a} {x:a} {k:Nat} (b:T=pre++x::rest) (c:pre.length=k):at' T (k:Int)=x:=by
 subst b;exact IQ pre rest x k c
theorem dY {k:Nat} (h:k<1000000):wI .i64 ((k:Int)+1)=((k+1:Nat):Int):=by rw[wr (by omega) (by omega)];rfl

theorem Sr (f:Nat) {o:Int} (a:1<=o) (b:o<=43):uR f o=some (if o<=17 then 0 else if o<=29 then 1 else if o<=42 then 2 else 3):=by
 unfold uR wS
 rw[if_neg (by omega)]
 simp only[decide_eq_true_eq]
 rw[if_neg (by omega)]
 split
 ·rfl
 ·split
  ·rfl
  ·split<;>rfl
theorem Ti {F:Nat} {T pre rest:dQ} {t:eS} {k m a:Nat} {fuel:Nat} (b:T=pre++t::rest) (e:pre.length=k) (f:k<1000) (j:m<3000) (c:uR F t.1=some ((a:Nat):Int)) (d:a<=3) (g:m+a≠0):
  bM (kB F T) (fuel+1) ((k:Int),(m:Int))=if m+a=1 then some (((k+1:Nat):Int))else bM (kB F T) fuel (((k+1:Nat):Int),((m+a - 1:Nat):Int)):=by
 have i:k<T.length:=by rw[b];simp;omega
 show kB F T ((k:Int),(m:Int)) (bM (kB F T) fuel)=_
 unfold kB
 dsimp only
 rw[if_pos (by omega),cQ (by omega),J_ b e,aZ c,if_neg (by omega),wr (x:=((a:Nat):Int) - 1) (by omega) (by omega),wr (by omega) (by omega),dY (by omega)]
 by_cases h:m+a=1
 ·rw[if_pos h,if_pos (by omega)]
 ·rw[if_neg h,if_neg (by omega)]
  have:(m:Int)+((a:Int) - 1)=((m+a - 1:Nat):Int):=by omega
  rw[this]
theorem VY (F:Nat) (T:dQ) (D:T.length<=900):∀(e:E),e.arOk=true->∀(fuel k m:Nat) (pre b:dQ),T=pre++(e.ts++b)->pre.length=k->1<=m->m+2*(e.ts++b).length<=1900->e.ts.length<=fuel->
  bM (kB F T) fuel ((k:Int),(m:Int))=if m=1 then some (((k+e.ts.length:Nat):Int))else bM (kB F T) (fuel - e.ts.length) (((k+e.ts.length:Nat):Int),((m - 1:Nat):Int)):=by
 have p:∀{t:eS} {l b pre:dQ} {fuel k m:Nat},T=pre++((t::l)++b)->pre.length=k->(t::l).length<=fuel->1<=t.1->t.1<=43->1<=m->m+2*((t::l)++b).length<=1900->∀a:Nat,(if t.1<=17 then 0 else if t.1<=29 then 1 else if t.1<=42 then 2 else 3:Int)=a->a<=3->∃f,fuel=f+1∧
   bM (kB F T) fuel ((k:Int),(m:Int))=if m+a=1 then some (((k+1:Nat):Int))else bM (kB F T) f (((k+1:Nat):Int),((m+a - 1:Nat):Int)):=by
  intro t l b pre fuel k m i j n s u d g a G w
  have v:=congrArg List.length i
  simp only[List.length_append,List.length_cons]at v g n
  obtain⟨f,rfl⟩:∃f,fuel=f+1:=⟨fuel - 1,by omega⟩
  exact⟨f,rfl,Ti (rest:=l++b) (by simpa using i) j (by omega) (by omega) (by rw[Sr F s u,G]) w (by omega)⟩
 intro e
 induction e with
 |lf o a=>
  intro c fuel k m pre b i j d g n
  simp only[E.arOk,Bool.and_eq_true,decide_eq_true_eq]at c
  obtain⟨f,rfl,h⟩:=p (t:=(o,a)) (l:=[]) i j n (by dsimp only;omega) (by dsimp only;omega) d g 0 (by rw[if_pos (by dsimp only;omega)];rfl) (by omega)
  rw[h];rfl
 |un o x A=>
  intro c fuel k m pre b i j d g n
  simp only[E.arOk,Bool.and_eq_true,decide_eq_true_eq]at c
  obtain⟨f,rfl,h⟩:=p (t:=(o,0)) (l:=x.ts) i j n (by dsimp only;omega) (by dsimp only;omega) d g 1 (by rw[if_neg (by dsimp only;omega),if_pos (by dsimp only;omega)];rfl) (by omega)
  simp only[E.ts,List.length_cons]at n g ⊢
  rw[h,if_neg (by omega)]
  have:=A c.2 f (k+1) m (pre++[(o,0)]) b (by rw[i];simp[E.ts]) (by simp[j]) d (by simp at g ⊢;omega) (by omega)
  rw[show m+1 - 1=m by omega,this,show k+1+x.ts.length=k+(x.ts.length+1) by omega,show f+1 - (x.ts.length+1)=f - x.ts.length by omega]
 |ag o x A=>
  intro c fuel k m pre b i j d g n
  simp only[E.arOk,Bool.and_eq_true,decide_eq_true_eq]at c
  obtain⟨f,rfl,h⟩:=p (t:=(o,0)) (l:=x.ts) i j n (by dsimp only;omega) (by dsimp only;omega) d g 1 (by rw[if_neg (by dsimp only;omega),if_pos (by dsimp only;omega)];rfl) (by omega)
  simp only[E.ts,List.length_cons]at n g ⊢
  rw[h,if_neg (by omega)]
  have:=A c.2 f (k+1) m (pre++[(o,0)]) b (by rw[i];simp[E.ts]) (by simp[j]) d (by simp at g ⊢;omega) (by omega)
  rw[show m+1 - 1=m by omega,this,show k+1+x.ts.length=k+(x.ts.length+1) by omega,show f+1 - (x.ts.length+1)=f - x.ts.length by omega]
 |bi o x y q r=>
  intro c fuel k m pre b i j d g n
  simp only[E.arOk,Bool.and_eq_true,decide_eq_true_eq]at c
  obtain⟨f,rfl,h⟩:=p (t:=(o,0)) (l:=x.ts++y.ts) i j n (by dsimp only;omega) (by dsimp only;omega) d g 2 (by rw[if_neg (by dsimp only;omega),if_neg (by dsimp only;omega),if_pos (by dsimp only;omega)];rfl) (by omega)
  simp only[E.ts,List.length_cons,List.length_append]at n g ⊢
  rw[h,if_neg (by omega)]
  have s:=q c.1.2 f (k+1) (m+1) (pre++[(o,0)]) (y.ts++b) (by rw[i];simp[E.ts]) (by simp[j]) (by omega) (by simp at g ⊢;omega) (by omega)
  have u:=r c.2 (f - x.ts.length) (k+1+x.ts.length) m (pre++((o,0)::x.ts)) b (by rw[i];simp[E.ts]) (by simp[j];omega) (by omega) (by simp at g ⊢;omega) (by omega)
  rw[show m+2 - 1=m+1 by omega,s,if_neg (by omega),show m+1 - 1=m by omega,u,show k+1+x.ts.length+y.ts.length=k+(x.ts.length+y.ts.length+1) by omega,show f+1 - (x.ts.length+y.ts.length+1)=f - x.ts.length - y.ts.length by omega]
 |ite x y z q r B=>
  intro c fuel k m pre b i j d g n
  simp only[E.arOk,Bool.and_eq_true,decide_eq_true_eq]at c
  obtain⟨f,rfl,h⟩:=p (t:=(43,0)) (l:=x.ts++(y.ts++z.ts)) i j n (by decide) (by decide) d g 3 rfl (by omega)
  simp only[E.ts,List.length_cons,List.length_append]at n g ⊢
  rw[h,if_neg (by omega)]
  have s:=q c.1.1 f (k+1) (m+2) (pre++[(43,0)]) (y.ts++z.ts++b) (by rw[i];simp[E.ts]) (by simp[j]) (by omega) (by simp at g ⊢;omega) (by omega)
  have u:=r c.1.2 (f - x.ts.length) (k+1+x.ts.length) (m+1) (pre++((43,0)::x.ts)) (z.ts++b) (by rw[i];simp[E.ts]) (by simp[j];omega) (by omega) (by simp at g ⊢;omega) (by omega)
  have C:=B c.2 (f - x.ts.length - y.ts.length) (k+1+x.ts.length+y.ts.length) m (pre++((43,0)::(x.ts++y.ts))) b (by rw[i];simp[E.ts]) (by simp[j];omega) (by omega) (by simp at g ⊢;omega) (by omega)
  rw[show m+3 - 1=m+2 by omega,s,if_neg (by omega),show m+2 - 1=m+1 by omega,u,if_neg (by omega),show m+1 - 1=m by omega,C,show k+1+x.ts.length+y.ts.length+z.ts.length=k+(x.ts.length+(y.ts.length+z.ts.length)+1) by omega,show f+1 - (x.ts.length+(y.ts.length+z.ts.length)+1)=f - x.ts.length - y.ts.length - z.ts.length by omega]
theorem Yz (F:Nat) (e:E) (c:e.arOk=true) {T pre a:dQ} {k:Nat} (d:T=pre++(e.ts++a)) (h:pre.length=k) (i:T.length<=800) (g:e.ts.length<=F):AX F T (k:Int)=some (((k+e.ts.length:Nat):Int)):=by
 have f:1<=e.ts.length:=by cases e<;>simp[E.ts]
 have b:=congrArg List.length d
 simp only[List.length_append]at b
 unfold AX zK
 rw[if_neg (by omega)]
 simp only[decide_eq_true_eq]
 rw[if_neg (by omega)]
 have:=VY F T (by omega) e c F k 1 pre a d h (by omega) (by simp;omega) g
 rw[if_pos rfl]at this
 exact this
end
section
def LE (b:Bool):Int:=if b then 1 else 0
theorem sQ (f:Nat) (b:Bool):gS f b=some (LE b):=by cases b<;>rfl
theorem Ay {a:Type} [Inhabited a] {l:List a} {k:Nat} (h:k<l.length):l.take (k+1)=l.take k++[at' l (k:Int)]:=by
 rw[List.take_add_one,List.getElem?_eq_getElem h,gG,List.getD_eq_getElem?_getD,List.getElem?_eq_getElem h];rfl
theorem iZ {a:Type} [Inhabited a] {l:List a} {k:Nat} (h:k<l.length):at' l (k:Int)=l[k]:=by
 rw[gG,List.getD_eq_getElem?_getD,List.getElem?_eq_getElem h];rfl
theorem Jl {p:Nat->Prop}:∀(n:Nat),p n->∃m,m<=n∧p m∧∀j,j<m->¬p j:=by
 intro n
 induction n using Nat.strongRecOn with
 | _ n ih =>
  intro h
  by_cases hm:∃m,m<n∧p m
  ·obtain⟨m,h1,h2⟩:=hm
   obtain⟨k,a,b,c⟩:=ih m h1 h2
   exact⟨k,by omega,b,c⟩
  ·exact⟨n,Nat.le_refl n,h,fun j hj hp=>hm ⟨j,hj,hp⟩⟩
theorem PC {g:Type} [DecidableEq g]:∀(c b:List g),c.Nodup->(∀x∈c,x∈b)->c.length<=b.length
 | [],b,_,_=>Nat.zero_le _
 |a::c,b,h,hs=>by
  have d:=hs a List.mem_cons_self
  have h:=List.nodup_cons.1 h
  have:=PC c (b.erase a) h.2 (fun x f=>(List.mem_erase_of_ne (fun(e:x=a)=>h.1 (by rw[<-e];exact f))).2 (hs x (List.mem_cons_of_mem _ f)))
  rw[List.length_erase_of_mem d]at this
  have i:0<b.length:=List.length_pos_of_mem d
  simp only[List.length_cons];omega
def nz (x:Int):Bool:=decide (x≠0)
theorem SY (f:Nat) (l:aQ) (h:l.length<f) (d:l.length<=1000):pE f l=some ((l.countP nz:Nat):Int):=by
 unfold pE
 have:=dM (step:=pV l) (K:=some ((l.countP nz:Nat):Int)) l.length (fun k=>(((l.take k).countP nz:Nat),(k:Int))) (fun k b c=>by
  have hc:(l.take k).countP nz<=k:=Nat.le_trans List.countP_le_length (by simp;omega)
  unfold pV sG
  dsimp only
  rw[if_pos (by omega),cQ (by omega),Ay c,List.countP_append,dY (by omega),dY (by omega)]
  by_cases a:at' l (k:Int)=0
  ·rw[if_neg (by simpa using a)];simp[nz,a]
  ·rw[if_pos a];simp[nz,a]) (fun b=>by
  unfold pV wF
  dsimp only
  rw[if_neg (by omega),List.take_length]) f h
 exact this
theorem FN (f:Nat) (l:aQ) (x:Int) (h:l.length<f) (hl:l.length<=1000):qJ f l x=some (decide (x∈l)):=by
 have key:∃i:Int,oL f l x=some i∧(0<=i↔x∈l):=by
  by_cases hx:x∈l
  ·obtain⟨i,hi,hix⟩:=List.mem_iff_getElem.1 hx
   have hfirst:∃i,i<l.length∧at' l (i:Int)=x∧∀j,j<i->at' l (j:Int)≠x:=by
    obtain⟨m,h1,h2,h3⟩:=Jl (p:=fun i=>at' l (i:Int)=x) i (by rw[iZ hi,hix])
    exact⟨m,by omega,h2,h3⟩
   obtain⟨i,hi,h1,h2⟩:=hfirst
   refine⟨i,?_,iff_of_true (by omega) hx⟩
   unfold oL
   exact dM (step:=iV l x) (K:=some (i:Int)) i (fun k=>(k:Int)) (fun k ag hk=>by
    unfold iV
    rw[if_pos (by omega),cQ (by omega),if_neg (fun e=>h2 k hk e.symm),dY (by omega)]) (fun ag=>by
    unfold iV
    rw[if_pos (by omega),cQ (by omega),if_pos h1.symm]) f (by omega)
  ·refine⟨-1,?_,iff_of_false (by omega) hx⟩
   unfold oL
   exact dM (step:=iV l x) (K:=some (-1)) l.length (fun k=>(k:Int)) (fun k ag hk=>by
    unfold iV
    rw[if_pos (by omega),cQ (by omega),if_neg (fun e=>hx (by rw[e,iZ hk];exact List.getElem_mem hk)),dY (by omega)]) (fun ag=>by
    unfold iV tG
    rw[if_neg (by omega)]) f h
 obtain⟨i,h1,h2⟩:=key
 unfold qJ
 rw[aZ h1]
 by_cases hx:x∈l
 ·rw[decide_eq_true hx,decide_eq_true (h2.2 hx)]
 ·rw[decide_eq_false hx,decide_eq_false (fun e=>hx (h2.1 e))]
def AR (l:aQ):Int:=match l.findIdx? nz with
 |some i=>(i:Int)
 |none=> -1
theorem zG {l:aQ} {i:Nat} (a:i<l.length) (b:at' l (i:Int)≠0) (c:∀j,j<i->at' l (j:Int)=0):AR l=i:=by
 have:l.findIdx? nz=some i:=by
  rw[List.findIdx?_eq_some_iff_getElem]
  refine⟨a,by rw[<-iZ a];simpa [nz]using b,fun j d=> ?_⟩
  have:=c j d
  rw[iZ (by omega)]at this
  simp[nz,this]
 unfold AR;rw[this]
theorem zF {l:aQ} (h:∀j,j<l.length->at' l (j:Int)=0):AR l = -1:=by
 have:l.findIdx? nz=none:=by
  rw[List.findIdx?_eq_none_iff]
  intro x b
  obtain⟨i,a,rfl⟩:=List.mem_iff_getElem.1 b
  have:=h i a
  rw[iZ a]at this
  simp[nz,this]
 unfold AR;rw[this]
theorem Tv (f:Nat) (l:aQ) (h:l.length<f) (hl:l.length<=1000):lY f l (fun y0=>nL f y0)=some (AR l):=by
 unfold lY
 by_cases hx:∃i,i<l.length∧at' l (i:Int)≠0
 ·obtain⟨i,hi,h0⟩:=hx
  obtain⟨m,h1,h2,h3⟩:=Jl (p:=fun i=>at' l (i:Int)≠0) i h0
  have h3:∀j,j<m->at' l (j:Int)=0:=fun j hj=>Decidable.not_not.1 (h3 j hj)
  rw[zG (by omega) h2 h3]
  exact dM (step:=fC l _) (K:=some (m:Int)) m (fun k=>(k:Int)) (fun k ag hk=>by
   unfold fC nL
   rw[if_pos (by omega),cQ (by omega),aZ rfl,if_neg (by simp[h3 k hk]),dY (by omega)]) (fun ag=>by
   unfold fC nL
   rw[if_pos (by omega),cQ (by omega),aZ rfl,if_pos (by simpa using h2)]) f (by omega)
 ·have hx:∀j,j<l.length->at' l (j:Int)=0:=fun j hj=>Decidable.not_not.1 fun e=>hx ⟨j,hj,e⟩
  rw[zF hx]
  exact dM (step:=fC l _) (K:=some (-1)) l.length (fun k=>(k:Int)) (fun k ag hk=>by
   unfold fC nL
   rw[if_pos (by omega),cQ (by omega),aZ rfl,if_neg (by simp[hx k hk]),dY (by omega)]) (fun ag=>by
   unfold fC nV
   rw[if_neg (by omega)]) f h
def YT (l:aQ):Int:=l.foldl min 1073741824
theorem YU (f:Nat) (l:aQ) (h:l.length<f) (c:l.length<=1000):bM (rJ l) f ((1073741824:Int),(0:Int))=some (YT l):=by
 exact dM (step:=rJ l) (K:=some (YT l)) l.length (fun k=>((l.take k).foldl min 1073741824,(k:Int))) (fun k a b=>by
  unfold rJ
  dsimp only
  rw[if_pos (by omega),cQ (by omega),Ay b,List.foldl_append,dY (by omega)];rfl) (fun a=>by
  unfold rJ xU
  dsimp only
  rw[if_neg (by omega),List.take_length];rfl) f h
def Md (l:aQ):Nat->Nat->Nat
 |0,k=>k
 |f+1,k=>if((k:Nat):Int)∈l then Md l f (k+1)else k
def Dw (l:aQ):Nat:=Md l (l.length+1) 0
theorem Aq (l:aQ):((Dw l:Nat):Int)∉l∧(∀j,j<Dw l->((j:Nat):Int)∈l)∧Dw l<=l.length:=by
 have key:∀(f k:Nat),(∀j,j<k->((j:Nat):Int)∈l)->(∀j,j<Md l f k->((j:Nat):Int)∈l)∧(Md l f k=k+f∨((Md l f k:Nat):Int)∉l):=by
  intro f
  induction f with
  |zero=>intro k h;exact⟨h,.inl rfl⟩
  | succ f ih =>
   intro k h
   by_cases hk:((k:Nat):Int)∈l
   ·have:=ih (k+1) (fun j hj=>by
     rcases Nat.lt_or_ge j k with q|q
     ·exact h j q
     ·rw[show j=k by omega];exact hk)
    simp only[Md,if_pos hk]
    exact⟨this.1,this.2.imp (fun e=>by omega) id⟩
   ·simp only[Md,if_neg hk]
    exact⟨h,.inr hk⟩
 have hle:∀m,(∀j,j<m->((j:Nat):Int)∈l)->m<=l.length:=fun m h=>by
  have:=PC ((List.range m).map fun j=>((j:Nat):Int)) l (by
   rw[List.nodup_iff_pairwise_ne,List.pairwise_map]
   exact(List.nodup_iff_pairwise_ne.1 List.nodup_range).imp (fun h e=>h (by omega))) (fun x hx=>by
   obtain⟨j,hj,rfl⟩:=List.mem_map.1 hx
   exact h j (List.mem_range.1 hj))
  simpa using this
 obtain⟨h1,h2⟩:=key (l.length+1) 0 (fun j hj=>by omega)
 have h3:=hle _ h1
 refine⟨?_,h1,h3⟩
 rcases h2 with h2|h2
 ·have:Md l (l.length+1) 0<=l.length:=h3
  omega
 ·exact h2
theorem YS (f:Nat) (l:aQ) (h:l.length+2<f) (hl:l.length<=900):yL f l=some ((Dw l:Nat):Int):=by
 obtain⟨h1,h2,h3⟩:=Aq l
 unfold yL
 exact dM (step:=wY f l) (K:=some ((Dw l:Nat):Int)) (Dw l) (fun k=>(k:Int)) (fun k ag hk=>by
  unfold wY
  rw[aZ (FN f l (k:Int) (by omega) (by omega)),if_pos (by simpa using h2 k hk),dY (by omega)]) (fun ag=>by
  unfold wY zE
  rw[aZ (FN f l _ (by omega) (by omega)),if_neg (by simpa using h1)]) f (by omega)
def WO (l:aQ):Int:=l.foldl (fun a x=>wI .i64 (a+x)) 0
theorem Zg (f:Nat) (l:aQ) (h:l.length<f) (c:l.length<=1000):bM (rK f l) f ((0:Int),(0:Int))=AQ f (WO l):=by
 refine(dM (step:=rK f l) l.length (fun k=>(WO (l.take k),(k:Int))) (fun k a b=> ?_) (fun a=> ?_) f h).trans rfl
 ·unfold rK
  dsimp only
  rw[if_pos (by omega),cQ (by omega),dY (by omega),Ay b]
  unfold WO
  rw[List.foldl_append];rfl
 ·unfold rK
  dsimp only
  rw[if_neg (by omega),List.take_length]
def Pm (o:Int) (l:aQ):Int:=
 if o=20 then LE (l.all nz)else if o=21 then LE (l.any nz)else if o=22 then((l.countP nz:Nat):Int)else if o=23 then AR l else if o=24 then YT l else if o=26 then max (-1073741824) (min (WO l) 1073741824)else((Dw l:Nat):Int)
theorem Wd (f:Nat) (o:Int) (l:aQ) (hf:40<=f) (hl:l.length<=24) (ho:o=20∨o=21∨o=22∨o=23∨o=24∨o=26∨o=27):zH f o l=some (Pm o l):=by
 have hc:=SY f l (by omega) (by omega)
 unfold zH
 rcases ho with rfl|rfl|rfl|rfl|rfl|rfl|rfl
 ·rw[if_pos rfl,aZ hc,aZ (sQ f _),Pm,if_pos rfl]
  have:(decide (((l.countP nz:Nat):Int)=(l.length:Int)))=l.all nz:=by
   rw[Bool.eq_iff_iff];simp[List.countP_eq_length,Int.ofNat_inj]
  rw[this]
 ·rw[if_neg (by decide),if_pos rfl,aZ hc,aZ (sQ f _),Pm,if_neg (by decide),if_pos rfl]
  have:(decide ((0:Int)<((l.countP nz:Nat):Int)))=l.any nz:=by
   rw[Bool.eq_iff_iff,decide_eq_true_eq,List.any_eq_true,show((0:Int)<((l.countP nz:Nat):Int))↔0<l.countP nz by omega,List.countP_pos_iff]
  rw[this]
 ·rw[if_neg (by decide),if_neg (by decide),if_pos rfl,aZ hc];rfl
 ·rw[if_neg (by decide),if_neg (by decide),if_neg (by decide),if_pos rfl,aZ (Tv f l (by omega) (by omega))];rfl
 ·rw[if_neg (by decide),if_neg (by decide),if_neg (by decide),if_neg (by decide),if_pos rfl,YU f l (by omega) (by omega)];rfl
 ·rw[if_neg (by decide),if_neg (by decide),if_neg (by decide),if_neg (by decide),if_neg (by decide),if_neg (by decide),if_pos rfl,Zg f l (by omega) (by omega)];rfl
 ·rw[if_neg (by decide),if_neg (by decide),if_neg (by decide),if_neg (by decide),if_neg (by decide),if_neg (by decide),if_neg (by decide),if_pos rfl,aZ (YS f l (by omega) (by omega))];rfl
end
end Go.Proofs.YtpenklncfhiloaaGreatDoor
end
section
namespace Go.Proofs.YtpenklncfhiloaaGreatDoor
open Go.Sx
section
def zW  (a:Unit):Option (Int):=
 some (-1:Int)
def wL (p0:cT) (p1:Int) (p2:Int) (a:Int) (b:(Int)->Option (Int)):Option (Int):=
 ck (0<=p1∧p1<(List.length p0.2:Int)) (if a<(List.length (at' p0.2 p1):Int)then(ck (0<=p1∧p1<(List.length p0.2:Int)) (ck (0<=a∧a<(List.length (at' p0.2 p1):Int)) (if((at' (at' p0.2 p1) a).1)=p2 then(some (a))else(b (wI .i64 (a+(1:Int)))))))else(zW  (())))
def rQ (U:Nat) (p0:cT) (p1:Int) (p2:Int):Option (Int):=
 bM (wL p0 p1 p2) U (0:Int)
theorem XL:aO Tryz.prog 13:=Tryz.call13
theorem KI (U:Nat) {p0:cT} {p1:Int} {p2:Int} (v0:Value)  (v1:Value)  (z2:jT) (r:Int) (h:rQ U p0 p1 p2=some r):
  aV Tryz.prog 13 #[Value.agg #[v0,v1],vI (p1),vI (p2)] [Sl bL v0 p0.1,S2 aW v1 z2 p0.2] (fun x:Unit=>vI (r)) (fun x l=>l) (fun _ l=>l):=by
 refine aV.of Tryz.func13 rfl Tryz.ntmps13 rfl fun c=>?_
 unfold rQ at h
 refine sqR<|aE (aG.box (cs:=[v0,v1]) rfl rfl) rfl fun b1=>qkAsg rfl<|dtN<|aH<|midU (fun a2=>zW  a2=some r) (fun a2 b3=>[]) (fun a2 b3=>[]) ?_ ?_
 ·refine sqR<|qkAsg rfl<|dtN<|aR<|loopL (wL p0 p1 p2) (fun a6 b7=>[(1,vI (p1)),(2,vI (p2)),(3,vP b1),(7,vI (a6))]) (fun a6 b7=>[bS b1 [v0,v1] 28]) (0:Int) () h SF (aS.refl _) ?_
  intro k8 a6 b7 h
  refine aH<|sqR<|qkMove rfl<|qkFld rfl<|qkLd 0 rfl<|qkMove rfl<|ckE h fun j9 h=>aB (cG rfl rfl (aC.fact 1 rfl) rfl rfl j9) rfl<|aB (cI rfl (aC.fact 1 rfl) rfl rfl j9) rfl<|aB (fM rfl (aC.el (aC.fact 1 rfl) j9.1 j9.2) rfl) rfl<|qkLss rfl<|dtN ?_
  refine eZ h rfl (fun h=>?_) fun h=>?_
  ·refine cL<|aH<|aR<|sqR<|qkFld rfl<|qkLd 0 rfl<|qkMove rfl<|ckE h fun j11 h=>aB (cG rfl rfl (aC.fact 1 rfl) rfl rfl j11) rfl<|aB (cI rfl (aC.fact 1 rfl) rfl rfl j11) rfl<|qkMove rfl<|ckE h fun j12 h=>aB (bG rfl rfl (aC.el (aC.fact 1 rfl) j11.1 j11.2) rfl rfl j12) rfl<|aB (jJ rfl rfl rfl rfl rfl) rfl<|aB (mD rfl (aC.el (aC.fact 1 rfl) j11.1 j11.2) rfl rfl rfl vN j12) rfl<|qkMove rfl<|qkEql rfl<|dtN ?_
   refine eZ h rfl (fun h=>?_) fun h=>?_
   ·refine sqR<|qkMove rfl<|qkAsg rfl<|dtN<|aN<|bT<|aI<|aI<|bT<|aI ?_
    cases h
    exact vH rfl
   refine eJ<|inT<|aM<|qkMove rfl<|qkAdd rfl<|qkAsg rfl<|dtN ?_
   exact Ah (wI .i64 (a6+(1:Int))) () h SF rfl
  refine gH ?_
  exact bO () (()) h SF .nil (aA.refl _ _)
 intro a2 b3 h
 unfold zW at h
 refine sqR<|qkAsg rfl<|dtN<|aN ?_
 cases h
 exact lD rfl
end
section
def rZ (p1:cT) (a:cJ):Option rB:=
 some ((p1.1,a))
def kO (U:Nat) (p0:Az) (p1:cT) (a:Int×cJ) (b:(Int×cJ)->Option rB) (c:Bool):Option rB:=
 if c=true then(ck (0<=a.1∧a.1<(List.length p0.2.1:Int)) (Option.bind (eQ U (at' p0.2.1 a.1) (List.length p1.2:Int)) fun d=>(ck (0<=(wI .i64 (a.1+(1:Int)))∧(wI .i64 (a.1+(1:Int)))<(List.length p0.2.1:Int)) (Option.bind (eQ U (at' p0.2.1 (wI .i64 (a.1+(1:Int)))) (List.length p1.2:Int)) fun e=>(Option.bind (qZ U p0.2.2.1 a.1) fun f=>(Option.bind (eQ U f (15:Int)) fun g=>(Option.bind (lU U ((p0.1,p0.2.1,p0.2.2.1,p0.2.2.2.1,p0.2.2.2.2.1,p0.2.2.2.2.2)) ((p1.1,a.2)) d e (wI .i64 ((1:Int)+g))) fun h=>(b ((wI .i64 (a.1+(2:Int))),h)))))))))else(rZ p1 (a.2))
def nT (U:Nat) (p0:Az) (p1:cT) (a:Int×cJ) (b:(Int×cJ)->Option rB):Option rB:=
 if(wI .i64 (a.1+(1:Int)))<(List.length p0.2.1:Int)then(kO U p0 p1 a b (decide (a.1<(60:Int))))else(kO U p0 p1 a b (false))
def jO (U:Nat) (p0:Az) (p1:cT):Option rB:=
 bM (nT U p0 p1) U ((List.length p1.2:Int),p1.2)
theorem Sy:aO Tryz.prog 21:=Tryz.call21
theorem yT (U:Nat) {p0:Az} {p1:cT} (v0:Value)  (v1:Value)  (v2:Value)  (v3:Value)  (v4:Value)  (w5:dO) (r:(aQ×cJ)) (h:jO U p0 p1=some r):
  AG Tryz.prog 21 #[Value.agg #[vI (p0.1),v0,v1,v2,vB (p0.2.2.2.2.1),vB (p0.2.2.2.2.2)],Value.agg #[v3,v4]] [Ar cE v3 p1.1,Ar c_.raw v4 w5,gU bH w5 p1.2] [Sl bL v0 p0.2.1,Sl bL v1 p0.2.2.1,Sl bL v2 p0.2.2.2.1] (fun x:Iq=>Value.agg #[x.1,x.2.1]) (fun x l=>Ar cE x.1 r.1::Ar c_.raw x.2.1 x.2.2::gU bH x.2.2 r.2::l):=by
 refine AG.of (vs:=[Value.agg #[vI (p0.1),v0,v1,v2,vB (p0.2.2.2.2.1),vB (p0.2.2.2.2.2)],Value.agg #[v3,v4]]) Tryz.func21 rfl Tryz.ntmps21 rfl fun c=>?_
 unfold jO at h
 refine sqR<|aE (aG.box (cs:=[vI (p0.1),v0,v1,v2,vB (p0.2.2.2.2.1),vB (p0.2.2.2.2.2)]) rfl rfl) rfl fun b1=>aE (aG.box (cs:=[v3,v4]) rfl rfl) rfl fun b2=>aE (aG.alloc (cs:=[eG,eG]) rfl rfl) rfl fun b3=>dtN<|sqR<|qkFld rfl<|qkLd 1 rfl<|aB (iY rfl (aP (i:=4) (j:=5) rfl rfl aU) rfl) rfl<|qkAsg rfl<|dtN<|aH<|xC (B:=dO) (fun a6=>rZ p1 a6=some r) (fun a6 b7=>[(3,vP b2),(4,vP b3)]) (fun a6 b7=>[bS b3 [eG,eG] 28,bS b2 [v3,v4] 28,Ar cE v3 p1.1,Ar c_.raw v4 b7,gU bH b7 a6]) (fun a6 b7=>[Sl bL v0 p0.2.1,Sl bL v1 p0.2.2.1,Sl bL v2 p0.2.2.2.1]) ?_ ?_
 ·refine sqR<|qkMove rfl<|qkAsg rfl<|dtN<|aR<|Ch (B:=dO) (nT U p0 p1) (fun a14 b15=>[(2,vP b1),(3,vP b2),(4,vP b3),(5,vI (List.length p1.2:Int)),(6,vI (a14.1))]) (fun a14 b15=>[bS b3 [eG,eG] 28,bS b2 [v3,v4] 28,bS b1 [vI (p0.1),v0,v1,v2,vB (p0.2.2.2.2.1),vB (p0.2.2.2.2.2)] 24,Ar cE v3 p1.1,Ar c_.raw v4 b15,gU bH b15 a14.2]) (fun a14 b15=>[Sl bL v0 p0.2.1,Sl bL v1 p0.2.2.1,Sl bL v2 p0.2.2.2.1]) ((List.length p1.2:Int),p1.2) (w5) h SF (aS.refl _) (aA.refl _ _) ?_
  intro k16 a14 b15 h
  refine aH<|aH<|xC (B:=Unit) (fun a18=>kO U p0 p1 a14 (bM (nT U p0 p1) k16) a18=some r) (fun a18 b19=>[(2,vP b1),(3,vP b2),(4,vP b3),(5,vI (List.length p1.2:Int)),(6,vI (a14.1)),(20,vB (a18))]) (fun a18 b19=>[bS b3 [eG,eG] 28,bS b2 [v3,v4] 28,bS b1 [vI (p0.1),v0,v1,v2,vB (p0.2.2.2.2.1),vB (p0.2.2.2.2.2)] 24,Ar cE v3 p1.1,Ar c_.raw v4 b15,gU bH b15 a14.2]) (fun a18 b19=>[Sl bL v0 p0.2.1,Sl bL v1 p0.2.2.1,Sl bL v2 p0.2.2.2.1]) ?_ ?_
  ·refine aM<|qkMove rfl<|qkAdd rfl<|qkFld rfl<|qkLd 2 rfl<|qkLen (aC.fact 0 rfl) rfl<|qkLss rfl<|qkMove rfl ?_
   refine AS h rfl (fun _ h=>?_) fun _ h=>?_
   ·refine gyMove rfl<|aL rfl (FJ rfl rfl) rfl<|qkPkT rfl<|dtN ?_
    exact iQ (decide (a14.1<(60:Int))) () h SF rfl
   refine gdSkip rfl<|gdSkip rfl<|qkPkF rfl<|dtN ?_
   exact iQ (false) () h SF rfl
  intro a18 b19 h
  refine zQ h rfl (fun _ h=>?_) fun _ h=>?_
  ·refine cL<|aH<|aR ?_
   refine JR.start [0,0,0,4,0,28,60,0,252,0,512,0,2048,7680,15872,0,65532,0,131072,0,1048572,2097148,4194300,8388607] 23 mixedOrders (by decide +kernel) ?_
   refine JR.open (by exact rfl) ?_
   refine jkLdA 2 rfl<|jkLdA 1 rfl<|jkFld rfl<|jkLd 2 rfl<|jkMove rfl<|ckE h fun j21 h=>bD rfl .nil (lA 0 rfl) (bG rfl rfl (aC.fact 0 rfl) rfl rfl j21) aK.z<|bD rfl .nil (lA 0 rfl) (cK rfl (aC.fact 0 rfl) rfl rfl rfl fE j21) aK.z<|jkMove rfl<|bnE h fun r22 hr23 h=>JR.loud rfl rfl rfl (aG.callQ CV (gQ U  r22 hr23) rfl .nil) rfl (fun x24=>(jM [([1],[]),([2],[])] rfl)) fun x24=>jqN rfl (dD rfl rfl rfl rfl rfl)<|bD rfl (aS.cons 2 rfl .nil) .nil (d_ 0 rfl rfl rfl rfl rfl) (aK.h (aS.ix [2] rfl rfl) .nil aK.z)<|jqN rfl (kT rfl)<|jqN rfl (xE rfl rfl)<|ckE h fun j25 h=>bD rfl .nil (lA 0 rfl) (bG rfl rfl (aC.fact 0 rfl) rfl rfl j25) (aK.h .nil (lA 0 rfl) aK.z)<|bD rfl .nil (lA 0 rfl) (cK rfl (aC.fact 0 rfl) rfl rfl rfl fE j25) (aK.h .nil (lA 0 rfl) aK.z)<|jqN rfl (kT rfl)<|bnE h fun r26 hr27 h=>JR.loud rfl rfl rfl (aG.callQ CV (gQ U  r26 hr27) rfl .nil) rfl (fun x28=>(jM [([1],[]),([2],[])] rfl)) fun x28=>jqN rfl (dD rfl rfl rfl rfl rfl)<|bD rfl (aS.cons 2 rfl .nil) .nil (d_ 0 rfl rfl rfl rfl rfl) (aK.h (aS.ix [2] rfl rfl) .nil (aK.h (aS.ix [2] rfl rfl) .nil aK.z))<|jqN rfl (kT rfl)<|bnE h fun r29 hr30 h=>JR.loud rfl rfl rfl (aG.callQ Hk (yW U v1 r29 hr30) rfl (iJ [1] rfl)) rfl (fun x31=>(jM [([1],[]),([2],[])] rfl)) fun x31=>bnE h fun r32 hr33 h=>JR.loud rfl rfl rfl (aG.callQ CV (gQ U  r32 hr33) rfl .nil) rfl (fun x34=>(jM [([1],[]),([2],[])] rfl)) fun x34=>jqN rfl (xE rfl rfl)<|bF 23 rfl rfl<|bnE h fun r35 hr36 h=>aE (yA (Min:=[Ar c_.raw v4 b15,gU bH b15 a14.2]) (Mr:=[bS b3 [eG,eG] 28,bS b2 [v3,v4] 28,bS b1 [vI (p0.1),v0,v1,v2,vB (p0.2.2.2.2.1),vB (p0.2.2.2.2.2)] 24,Ar cE v3 p1.1]) SG (yS U v0 v1 v2 v3 v4 b15 r35 hr36) rfl (aS.ix [4,5,0,1,2,3] rfl rfl) (aA.cons (aC.fact 0 rfl) (aA.cons (aC.fact 1 rfl) (aA.cons (aC.fact 2 rfl) (aA.cons (aT (aC.res 3 rfl) cW) .nil)))) (fun _ _=>rfl)) rfl fun x37=>eI<|inT<|aM<|qkMove rfl<|qkAdd rfl<|qkAsg rfl<|dtN ?_
   exact kN ((wI .i64 (a14.1+(2:Int))),r35) (x37) h SF (aS.ix [2,3,4,5,0,1] rfl rfl) (aA.refl _ _)
  refine gH ?_
  exact bO (a14.2) (b15) h SF (aS.ix [0,1,3,4,5] rfl rfl) (aA.refl _ _)
 intro a6 b7 h
 unfold rZ at h
 refine sqR<|qkLdA 1 rfl<|bJ (Know.one ((aT (aC.res 2 rfl) cW))) fun ho8=>bJ (Know.one (aC.sl (aP (i:=3) (j:=4) rfl rfl aU))) fun ho9=>aY 0 (vs:=[v3,v4]) rfl rfl (cB ho8 (cB ho9 rfl)) rfl rfl rfl<|dtN<|aN ?_
 cases h
 exact gE (v3,v4,b7) rfl rfl (RV.cell 0 rfl rfl rfl rfl) (aS.ix [2,3,4] rfl rfl) aA.nil
end
section
def kI (U:Nat) (p0:Az) (p1:Int):Option rB:=
 Option.bind (lT U ((p0.1,p0.2.1,p0.2.2.1,p0.2.2.2.1,p0.2.2.2.2.1,p0.2.2.2.2.2)) p1) fun a=>(Option.bind (jO U ((p0.1,p0.2.1,p0.2.2.1,p0.2.2.2.1,p0.2.2.2.2.1,p0.2.2.2.2.2)) ((a.1,a.2))) fun b=>(some ((b.1,b.2))))
theorem XP:aO Tryz.prog 20:=Tryz.call20
theorem Aw (U:Nat) {p0:Az} {p1:Int} (b:Value)  (d:Value)  (e:Value) (r:(aQ×cJ)) (h:kI U p0 p1=some r):
  aV Tryz.prog 20 #[Value.agg #[vI (p0.1),b,d,e,vB (p0.2.2.2.2.1),vB (p0.2.2.2.2.2)],vI (p1)] [Sl bL b p0.2.1,Sl bL d p0.2.2.1,Sl bL e p0.2.2.2.1] (fun x:Iq=>Value.agg #[x.1,x.2.1]) (fun x l=>Ar cE x.1 r.1::Ar c_.raw x.2.1 x.2.2::gU bH x.2.2 r.2::l) (fun _ l=>l):=by
 refine aV.of Tryz.func20 rfl Tryz.ntmps20 rfl fun c=>?_
 refine sqR<|aE (aG.box (cs:=[vI (p0.1),b,d,e,vB (p0.2.2.2.2.1),vB (p0.2.2.2.2.2)]) rfl rfl) rfl fun n=>aE (aG.alloc (cs:=[eG,eG]) rfl rfl) rfl fun o=>dtN<|aH ?_
 refine JR.start [0,0,0,6,15,31] 4 mixedOrders (by decide +kernel) ?_
 refine JR.open (by exact rfl) ?_
 refine jkLdA 1 rfl<|jkLdA 1 rfl<|jkMove rfl<|bnE h fun m q h=>JR.loud rfl rfl rfl (aG.callQ SB (yR U b d e m q) rfl (iJ [0,1,2] rfl)) rfl (fun a=>(jM [([4],[])] rfl)) fun a=>bF 4 rfl rfl<|bnE h fun p s h=>aE (yA (Min:=[Ar cE a.1 m.1,Ar c_.raw a.2.1 a.2.2,gU bH a.2.2 m.2]) (Mr:=[bS o [eG,eG] 28,bS n [vI (p0.1),b,d,e,vB (p0.2.2.2.2.1),vB (p0.2.2.2.2.2)] 24]) Sy (yT U b d e a.1 a.2.1 a.2.2 p s) rfl (aS.refl _) (iJ [0,1,2] rfl) (fun _ _=>rfl)) rfl fun g=>bJ (Know.one ((aT (aC.res 0 rfl) cW))) fun k=>bJ (Know.one (aC.sl (aP (i:=1) (j:=2) rfl rfl aU))) fun f=>aY 3 (vs:=[g.1,g.2.1]) rfl rfl (cB k (cB f rfl)) rfl rfl rfl<|dtN<|aN ?_
 cases h
 exact gE (g.1,g.2.1,g.2.2) rfl rfl (RV.cell 3 rfl rfl rfl rfl) (aS.ix [0,1,2] rfl rfl) aA.nil
end
section
def xH  (a:Unit):Option (Int):=
 some (-1:Int)
def sW (p0:cT) (p1:Int) (p2:Int) (a:Int) (b:(Int)->Option (Int)):Option (Int):=
 if a<(List.length (at' p0.2 p1):Int)then(ck (0<=a∧a<(List.length (at' p0.2 p1):Int)) (if((at' (at' p0.2 p1) a).1)=p2 then(some (a))else(b (wI .i64 (a+(1:Int))))))else(xH  (()))
def fS (U:Nat) (p0:cT) (p1:Int) (p2:Int):Option (Int):=
 ck (0<=p1∧p1<(List.length p0.2:Int)) (bM (sW p0 p1 p2) U (0:Int))
theorem EU:aO Tryz.prog 33:=Tryz.call33
theorem oP (U:Nat) {p0:cT} {p1:Int} {p2:Int} (v0:Value)  (v1:Value)  (z2:jT) (r:Int) (h:fS U p0 p1 p2=some r):
  aV Tryz.prog 33 #[Value.agg #[v0,v1],vI (p1),vI (p2)] [Sl bL v0 p0.1,S2 aW v1 z2 p0.2] (fun x:Unit=>vI (r)) (fun x l=>l) (fun _ l=>l):=by
 refine aV.of Tryz.func33 rfl Tryz.ntmps33 rfl fun c=>?_
 refine sqR<|aE (aG.box (cs:=[v0,v1]) rfl rfl) rfl fun b1=>qkAsg rfl<|dtN<|aH<|midU (fun a2=>xH  a2=some r) (fun a2 b3=>[]) (fun a2 b3=>[]) ?_ ?_
 ·refine sqR<|qkFld rfl<|qkLd 0 rfl<|qkMove rfl<|ckE h fun j4 h=>aB (cG rfl rfl (aC.fact 1 rfl) rfl rfl j4) rfl<|aB (cI rfl (aC.fact 1 rfl) rfl rfl j4) rfl<|aB (fM rfl (aC.el (aC.fact 1 rfl) j4.1 j4.2) rfl) rfl<|qkMove rfl<|dtN<|aR<|loopL (sW p0 p1 p2) (fun a7 b8=>[(2,vI (p2)),(13,(at' z2 p1).1),(14,vI (List.length (at' p0.2 p1):Int)),(15,vI (a7))]) (fun a7 b8=>[]) (0:Int) () h SF .nil ?_
  intro k9 a7 b8 h
  refine sqR<|qkLss rfl<|dtN<|aH ?_
  refine eZ h rfl (fun h=>?_) fun h=>?_
  ·refine cL<|aH<|aR<|sqR<|qkMove rfl<|ckE h fun j11 h=>aB (bG rfl rfl (aC.el (aC.fact 1 rfl) j4.1 j4.2) rfl rfl j11) rfl<|aB (gV (cs:=[vI ((at' (at' p0.2 p1) a7).1),vI ((at' (at' p0.2 p1) a7).2)]) rfl (aC.el (aC.fact 1 rfl) j4.1 j4.2) aU rfl rfl rfl rfl j11) rfl<|aE (aG.alloc (cs:=Oz) rfl rfl) rfl fun b12=>qkAsg rfl<|aY 0 (vs:=[vI ((at' (at' p0.2 p1) a7).1),vI ((at' (at' p0.2 p1) a7).2)]) rfl rfl rfl rfl rfl rfl<|dtN<|sqR<|qkFld rfl<|qkLd 0 rfl<|qkMove rfl<|qkEql rfl<|dtN ?_
   refine eZ h rfl (fun h=>?_) fun h=>?_
   ·refine sqR<|qkMove rfl<|qkAsg rfl<|dtN<|aN<|bT<|aI<|aI<|bT<|aI ?_
    cases h
    exact vH rfl
   refine eJ<|inT<|aM<|qkAdd rfl<|qkMove rfl<|dtN ?_
   exact kN (wI .i64 (a7+(1:Int))) () h SF .nil (aA.refl _ _)
  refine gH ?_
  exact iQ () (()) h SF rfl
 intro a2 b3 h
 unfold xH at h
 refine sqR<|qkAsg rfl<|dtN<|aN ?_
 cases h
 exact lD rfl
end
section
def nA (U:Nat) (p0:Az) (p1:Int):Option rB:=
 if(!p0.2.2.2.2.1)=true then(Option.bind (kI U ((p0.1,p0.2.1,p0.2.2.1,p0.2.2.2.1,p0.2.2.2.2.1,p0.2.2.2.2.2)) p1) fun b=>(some ((b.1,b.2))))else(Option.bind (kR U ((p0.1,p0.2.1,p0.2.2.1,p0.2.2.2.1,p0.2.2.2.2.1,p0.2.2.2.2.2)) p1) fun c=>(Option.bind (jO U ((p0.1,p0.2.1,p0.2.2.1,p0.2.2.2.1,p0.2.2.2.2.1,p0.2.2.2.2.2)) ((c.1,c.2))) fun a=>(some ((a.1,a.2)))))
theorem ZW:aO Tryz.prog 4:=Tryz.call4
theorem Ev (U:Nat) {p0:Az} {p1:Int} (d:Value)  (e:Value)  (f:Value) (r:(aQ×cJ)) (h:nA U p0 p1=some r):
  aV Tryz.prog 4 #[Value.agg #[vI (p0.1),d,e,f,vB (p0.2.2.2.2.1),vB (p0.2.2.2.2.2)],vI (p1)] [Sl bL d p0.2.1,Sl bL e p0.2.2.1,Sl bL f p0.2.2.2.1] (fun x:Iq=>Value.agg #[x.1,x.2.1]) (fun x l=>Ar cE x.1 r.1::Ar c_.raw x.2.1 x.2.2::gU bH x.2.2 r.2::l) (fun _ l=>l):=by
 refine aV.of Tryz.func4 rfl Tryz.ntmps4 rfl fun c=>?_
 refine sqR<|aE (aG.box (cs:=[vI (p0.1),d,e,f,vB (p0.2.2.2.2.1),vB (p0.2.2.2.2.2)]) rfl rfl) rfl fun u=>aE (aG.alloc (cs:=[eG,eG]) rfl rfl) rfl fun v=>dtN<|aH<|sqR<|qkFld rfl<|qkLd 1 rfl<|aB (o_ rfl) rfl<|dtN ?_
 refine zQ h rfl (fun _ h=>?_) fun _ h=>?_
 ·refine sqR<|qkLdA 1 rfl<|qkMove rfl<|bnE h fun w y h=>aE (aG.callQ XP (Aw U d e f w y) rfl (iJ [0,1,2] rfl)) rfl fun m=>bJ (Know.one ((aT (aC.res 0 rfl) cW))) fun n=>bJ (Know.one (aC.sl (aP (i:=1) (j:=2) rfl rfl aU))) fun o=>aY 3 (vs:=[m.1,m.2.1]) rfl rfl (cB n (cB o rfl)) rfl rfl rfl<|dtN<|aN<|aI ?_
  cases h
  exact gE (m.1,m.2.1,m.2.2) rfl rfl (RV.cell 3 rfl rfl rfl rfl) (aS.ix [0,1,2] rfl rfl) aA.nil
 refine cL<|aH ?_
 refine JR.start [0,0,0,6,15,31] 4 mixedOrders (by decide +kernel) ?_
 refine JR.open (by exact rfl) ?_
 refine jkLdA 1 rfl<|jkLdA 1 rfl<|jkMove rfl<|bnE h fun q s h=>JR.loud rfl rfl rfl (aG.callQ SA (xO U d e f q s) rfl (iJ [0,1,2] rfl)) rfl (fun a=>(jM [([4],[])] rfl)) fun a=>bF 4 rfl rfl<|bnE h fun p t h=>aE (yA (Min:=[Ar cE a.1 q.1,Ar c_.raw a.2.1 a.2.2,gU bH a.2.2 q.2]) (Mr:=[bS v [eG,eG] 28,bS u [vI (p0.1),d,e,f,vB (p0.2.2.2.2.1),vB (p0.2.2.2.2.2)] 24]) Sy (yT U d e f a.1 a.2.1 a.2.2 p t) rfl (aS.refl _) (iJ [0,1,2] rfl) (fun _ _=>rfl)) rfl fun b=>bJ (Know.one ((aT (aC.res 0 rfl) cW))) fun g=>bJ (Know.one (aC.sl (aP (i:=1) (j:=2) rfl rfl aU))) fun k=>aY 3 (vs:=[b.1,b.2.1]) rfl rfl (cB g (cB k rfl)) rfl rfl rfl<|dtN<|aN ?_
 cases h
 exact gE (b.1,b.2.1,b.2.2) rfl rfl (RV.cell 3 rfl rfl rfl rfl) (aS.ix [0,1,2] rfl rfl) aA.nil
end
section
def mW  (a:Unit):Option (Bool):=
 some (true)
def mX (c:Int) (a:(Int)->Option (Bool)) (b:Unit):Option (Bool):=
 a (wI .i64 (c+(1:Int)))
def mY (b:Int) (a:(Int)->Option (Bool)) (c:Bool):Option (Bool):=
 if c=true then(some (false))else(a (wI .i64 (b+(1:Int))))
def jX (p1:a_) (d:Int) (a:Int) (b:(Int)->Option (Bool)) (c:eS):Option (Bool):=
 if(at' (at' p1 d) a)<c.1 then(mY a b (true))else(mY a b (decide (c.2<(at' (at' p1 d) a))))
def eB (p0:cT) (p1:a_) (p2:aQ) (b:Int) (d:(Int)->Option (Bool)) (a:Int) (c:(Int)->Option (Bool)):Option (Bool):=
 if a<(List.length (at' p1 b):Int)then(ck (0<=a∧a<(List.length (at' p1 b):Int)) (ck (0<=a∧a<(List.length p2:Int)) (if(at' p2 a)=(-1:Int)then(ck (0<=b∧b<(List.length p0.2:Int)) (jX p1 b a c ((-1:Int),(wI .i64 ((List.length (at' p0.2 b):Int) - (1:Int))))))else(jX p1 b a c ((0:Int),(at' p2 a))))))else(mX b d (()))
def dL (U:Nat) (p0:cT) (p1:a_) (p2:aQ) (a:Int) (b:(Int)->Option (Bool)):Option (Bool):=
 if a<(List.length p1:Int)then(ck (0<=a∧a<(List.length p1:Int)) (if(List.length (at' p1 a):Int)≠(List.length p2:Int)then(some (false))else(bM (eB p0 p1 p2 a b) U (0:Int))))else(mW  (()))
def iO (U:Nat) (p0:cT) (p1:a_) (p2:aQ):Option (Bool):=
 if(List.length p1:Int)≠(List.length p0.1:Int)then(some (false))else(bM (dL U p0 p1 p2) U (0:Int))
theorem X_:aO Tryz.prog 54:=Tryz.call54
theorem CP (U:Nat) {p0:cT} {p1:a_} {p2:aQ} (v0:Value)  (v1:Value)  (z2:jT)  (v3:Value)  (z4:oV)  (v5:Value) (r:Bool) (h:iO U p0 p1 p2=some r):
  aV Tryz.prog 54 #[Value.agg #[v0,v1],v3,v5] [Sl bL v0 p0.1,S2 aW v1 z2 p0.2,S2 bL v3 z4 p1,Sl bL v5 p2] (fun x:Unit=>vB (r)) (fun x l=>l) (fun _ l=>l):=by
 refine aV.of Tryz.func54 rfl Tryz.ntmps54 rfl fun c=>?_
 refine sqR<|aE (aG.box (cs:=[v0,v1]) rfl rfl) rfl fun b1=>qkAsg rfl<|dtN<|aH<|sqR<|qkMove rfl<|aB (iY rfl (aC.fact 2 rfl) rfl) rfl<|qkFld rfl<|qkLd 0 rfl<|qkLen (aC.fact 0 rfl) rfl<|qkNeq rfl<|dtN ?_
 refine eZ h rfl (fun h=>?_) fun h=>?_
 ·refine sqR<|qkAsg rfl<|dtN<|aN<|aI ?_
  cases h
  exact vH rfl
 refine cL<|aH<|midU (fun a3=>mW  a3=some r) (fun a3 b4=>[]) (fun a3 b4=>[]) ?_ ?_
 ·refine sqR<|qkMove rfl<|aB (iY rfl (aC.fact 2 rfl) rfl) rfl<|qkMove rfl<|dtN<|aR<|loopL (dL U p0 p1 p2) (fun a7 b8=>[(2,v5),(3,vP b1),(19,v3),(20,vI (List.length p1:Int)),(21,vI (a7))]) (fun a7 b8=>[bS b1 [v0,v1] 28]) (0:Int) () h SF (aS.refl _) ?_
  intro k9 a7 b8 h
  refine sqR<|qkLss rfl<|dtN<|aH ?_
  refine eZ h rfl (fun h=>?_) fun h=>?_
  ·refine cL<|aH<|midU (fun a11=>mX a7 (bM (dL U p0 p1 p2) k9) a11=some r) (fun a11 b12=>[(2,v5),(3,vP b1),(19,v3),(20,vI (List.length p1:Int)),(21,vI (a7))]) (fun a11 b12=>[bS b1 [v0,v1] 28]) ?_ ?_
   ·refine aR<|sqR<|qkMove rfl<|ckE h fun j13 h=>aB (cG rfl rfl (aC.fact 2 rfl) rfl rfl j13) rfl<|aB (cI rfl (aC.fact 2 rfl) rfl rfl j13) rfl<|qkAsg rfl<|qkAsg rfl<|dtN<|aH<|sqR<|qkMove rfl<|aB (fM rfl (aC.el (aC.fact 2 rfl) j13.1 j13.2) rfl) rfl<|qkMove rfl<|qkLen (aC.fact 3 rfl) rfl<|qkNeq rfl<|dtN ?_
    refine eZ h rfl (fun h=>?_) fun h=>?_
    ·refine sqR<|qkAsg rfl<|dtN<|aN<|aI<|bT<|aI<|aI<|bT<|aI ?_
     cases h
     exact vH rfl
    refine cL<|sqR<|qkMove rfl<|aB (fM rfl (aC.el (aC.fact 2 rfl) j13.1 j13.2) rfl) rfl<|qkMove rfl<|dtN<|aR<|loopL (eB p0 p1 p2 a7 (bM (dL U p0 p1 p2) k9)) (fun a17 b18=>[(2,v5),(3,vP b1),(7,vI (a7)),(19,v3),(20,vI (List.length p1:Int)),(21,vI (a7)),(31,(at' z4 a7).1),(32,vI (List.length (at' p1 a7):Int)),(33,vI (a17))]) (fun a17 b18=>[bS b1 [v0,v1] 28]) (0:Int) () h SF (aS.refl _) ?_
    intro k19 a17 b18 h
    refine sqR<|qkLss rfl<|dtN<|aH ?_
    refine eZ h rfl (fun h=>?_) fun h=>?_
    ·refine cL<|aH<|aR<|sqR<|qkMove rfl<|ckE h fun j21 h=>aB (bG rfl rfl (aC.el (aC.fact 2 rfl) j13.1 j13.2) rfl rfl j21) rfl<|aB (cK rfl (aC.el (aC.fact 2 rfl) j13.1 j13.2) rfl rfl rfl fE j21) rfl<|qkAsg rfl<|qkAsg rfl<|dtN<|aH ?_
     refine JR.start [0,0,3,7,0,31] 5 mixedOrders (by decide +kernel) ?_
     refine JR.open (by exact rfl) ?_
     refine jkMove rfl<|jkMove rfl<|ckE h fun j22 h=>bD rfl .nil (lA 3 rfl) (bG rfl rfl (aC.fact 0 rfl) rfl rfl j22) aK.z<|bD rfl .nil (lA 3 rfl) (cK rfl (aC.fact 0 rfl) rfl rfl rfl fE j22) aK.z<|jqN rfl (nX rfl)<|bF 5 rfl rfl<|qkAsg rfl<|dtN<|aH<|midU (fun a25=>jX p1 a7 a17 (bM (eB p0 p1 p2 a7 (bM (dL U p0 p1 p2) k9)) k19) a25=some r) (fun a25 b26=>[(2,v5),(3,vP b1),(7,vI (a7)),(10,vI (at' (at' p1 a7) a17)),(11,vI (a25.1)),(12,vI (a25.2)),(19,v3),(20,vI (List.length p1:Int)),(21,vI (a7)),(31,(at' z4 a7).1),(32,vI (List.length (at' p1 a7):Int)),(33,vI (a17))]) (fun a25 b26=>[bS b1 [v0,v1] 28]) ?_ ?_
     ·refine sqR<|qkMove rfl<|qkEql rfl<|dtN ?_
      refine eZ h rfl (fun h=>?_) fun h=>?_
      ·refine JR.start [0,1,0,7,15,31,63,0,255] 8 mixedOrders (by decide +kernel) ?_
       refine JR.open (by exact rfl) ?_
       refine jkFld rfl<|jkLd 0 rfl<|jkMove rfl<|ckE h fun j33 h=>bD rfl .nil (lA 1 rfl) (cG rfl rfl (aC.fact 0 rfl) rfl rfl j33) aK.z<|bD rfl .nil (lA 1 rfl) (cI rfl (aC.fact 0 rfl) rfl rfl j33) aK.z<|bD rfl .nil (lA 1 rfl) (fM rfl (aC.el (aC.fact 0 rfl) j33.1 j33.2) rfl) aK.z<|jqN rfl (pD rfl rfl)<|jqN rfl (nX rfl)<|bF 8 rfl rfl<|qkAsg rfl<|dtN ?_
       exact iQ ((-1:Int),(wI .i64 ((List.length (at' p0.2 a7):Int) - (1:Int)))) () h SF rfl
      refine cL ?_
      exact iQ ((0:Int),(at' p2 a17)) () h SF rfl
     intro a25 b26 h
     refine aH<|midU (fun a28=>mY a17 (bM (eB p0 p1 p2 a7 (bM (dL U p0 p1 p2) k9)) k19) a28=some r) (fun a28 b29=>[(2,v5),(3,vP b1),(7,vI (a7)),(19,v3),(20,vI (List.length p1:Int)),(21,vI (a7)),(31,(at' z4 a7).1),(32,vI (List.length (at' p1 a7):Int)),(33,vI (a17)),(58,vB (a28))]) (fun a28 b29=>[bS b1 [v0,v1] 28]) ?_ ?_
     ·refine aM<|qkMove rfl<|qkMove rfl<|qkLss rfl<|qkMove rfl ?_
      refine AS h rfl (fun _ h=>?_) fun _ h=>?_
      ·refine gdSkip rfl<|gdSkip rfl<|gdSkip rfl<|qkPkT rfl<|dtN ?_
       exact iQ (true) () h SF rfl
      refine gyMove rfl<|gyMove rfl<|aL rfl (wX rfl rfl) rfl<|qkPkF rfl<|dtN ?_
      exact iQ (decide (a25.2<(at' (at' p1 a7) a17))) () h SF rfl
     intro a28 b29 h
     refine zQ h rfl (fun _ h=>?_) fun _ h=>?_
     ·refine sqR<|qkAsg rfl<|dtN<|aN<|bT<|aI<|aI<|bT<|bT<|aI<|aI<|bT<|aI ?_
      cases h
      exact vH rfl
     refine eJ<|inT<|aM<|qkAdd rfl<|qkMove rfl<|dtN ?_
     exact Ah (wI .i64 (a17+(1:Int))) () h SF rfl
    refine qP<|eL<|eL<|wU<|inT ?_
    exact iQ () (()) h SF rfl
   intro a11 b12 h
   unfold mX at h
   refine aM<|qkAdd rfl<|qkMove rfl<|dtN ?_
   exact Ah (wI .i64 (a7+(1:Int))) () h SF rfl
  refine gH ?_
  exact bO () (()) h SF .nil (aA.refl _ _)
 intro a3 b4 h
 unfold mW at h
 refine sqR<|qkAsg rfl<|dtN<|aN ?_
 cases h
 exact lD rfl
end
section
def tJ  (a:a_):Option a_:=
 some (a)
def xL (a:a_×Int) (c:(a_×Int)->Option a_) (b:aQ):Option a_:=
 ck ((List.length a.1:Int)+(List.length ([b]):Int)<=1099511627) (c ((a.1++[b]),(wI .i64 (a.2+(1:Int)))))
def mS (U:Nat) (p1:Ga) (p2:aQ) (e:a_×Int) (a:aQ×Int) (c:(aQ×Int)->Option a_) (b:eS):Option a_:=
 Option.bind (qZ U p2 (wI .i64 ((wI .i64 (e.2*(List.length p1:Int)))+a.2))) fun f=>(Option.bind (eQ U f (wI .i64 ((wI .i64 (b.2 - b.1))+(1:Int)))) fun d=>(ck ((List.length a.1:Int)+(List.length ([(wI .i64 (b.1+d))]):Int)<=1099511627) (c ((a.1++([(wI .i64 (b.1+d))])),(wI .i64 (a.2+(1:Int)))))))
def mT (U:Nat) (p0:cT) (p1:Ga) (p2:aQ) (e:Int) (b:a_×Int) (d:(a_×Int)->Option a_) (a:aQ×Int) (c:(aQ×Int)->Option a_):Option a_:=
 if a.2<(List.length p1:Int)then(ck (0<=a.2∧a.2<(List.length p1:Int)) (ck (0<=a.2∧a.2<(List.length p1:Int)) (ck (0<=a.2∧a.2<(List.length p1:Int)) (ck (0<=a.2∧a.2<(List.length p1:Int)) (ck (0<=a.2∧a.2<(List.length p1:Int)) (if((at' p1 a.2).2.1)=(2:Int)then(mS U p1 p2 b a c ((0:Int),(1:Int)))else(if((at' p1 a.2).2.1)=(3:Int)then(ck (0<=b.2∧b.2<(List.length p0.2:Int)) (mS U p1 p2 b a c ((-1:Int),(wI .i64 ((List.length (at' p0.2 b.2):Int) - (1:Int))))))else(mS U p1 p2 b a c (((at' p1 a.2).2.2.1),(wI .i64 ((wI .i64 (((at' p1 a.2).2.2.2.1)+(wI .i64 (((at' p1 a.2).2.2.2.2.1)*(List.length p0.2:Int)))))+(wI .i64 (((at' p1 a.2).2.2.2.2.2)*e)))))))))))))else(xL b d (a.1))
def iX (U:Nat) (p0:cT) (p1:Ga) (p2:aQ) (c:Int) (a:a_×Int) (b:(a_×Int)->Option a_):Option a_:=
 if a.2<(List.length p0.2:Int)then(bM (mT U p0 p1 p2 c a b) U (([]:aQ),(0:Int)))else(tJ  (a.1))
def pR (U:Nat) (p0:cT) (p1:Ga) (p2:aQ) (a:Int):Option a_:=
 bM (iX U p0 p1 p2 a) U (([]:a_),(0:Int))
def tK (U:Nat) (p0:cT) (p1:Ga) (p2:aQ) (a:eS) (b:eR->Option a_):Option a_:=
 if a.2<(List.length p0.2:Int)then(ck (0<=a.2∧a.2<(List.length p0.1:Int)) (b ((max a.1 (at' p0.1 a.2)),(wI .i64 (a.2+(1:Int))))))else(pR U p0 p1 p2 (a.1))
def lZ (U:Nat) (p0:cT) (p1:Ga) (p2:aQ):Option a_:=
 bM (tK U p0 p1 p2) U ((0:Int),(0:Int))
theorem ZY:aO Tryz.prog 7:=Tryz.call7
theorem Il (U:Nat) {p0:cT} {p1:Ga} {p2:aQ} (v0:Value)  (v1:Value)  (z2:jT)  (v3:Value)  (v4:Value) (r:a_) (h:lZ U p0 p1 p2=some r):
  aV Tryz.prog 7 #[Value.agg #[v0,v1],v3,v4] [Sl bL v0 p0.1,S2 aW v1 z2 p0.2,Sl aJ v3 p1,Sl bL v4 p2] (fun x:Cd=>x.1) (fun x l=>Ar c_.raw x.1 x.2::gU cE x.2 r::l) (fun _ l=>l):=by
 refine aV.of Tryz.func7 rfl Tryz.ntmps7 rfl fun c=>?_
 unfold lZ at h
 refine sqR<|aE (aG.box (cs:=[v0,v1]) rfl rfl) rfl fun b1=>qkAsg rfl<|dtN<|sqR<|qkFld rfl<|qkLd 0 rfl<|aB (iY rfl (aC.fact 1 rfl) rfl) rfl<|qkAsg rfl<|qkAsg rfl<|dtN<|aH<|midU (fun a3=>pR U p0 p1 p2 a3=some r) (fun a3 b4=>[(1,v3),(2,v4),(3,vP b1),(7,vI (List.length p0.2:Int)),(8,vI (a3))]) (fun a3 b4=>[bS b1 [v0,v1] 28]) ?_ ?_
 ·refine sqR<|qkAsg rfl<|dtN<|aR<|loopL (tK U p0 p1 p2) (fun a61 b62=>[(1,v3),(2,v4),(3,vP b1),(7,vI (List.length p0.2:Int)),(8,vI (a61.1)),(9,vI (a61.2))]) (fun a61 b62=>[bS b1 [v0,v1] 28]) ((0:Int),(0:Int)) () h SF (aS.refl _) ?_
  intro k63 a61 b62 h
  refine aH<|sqR<|qkMove rfl<|qkMove rfl<|qkLss rfl<|dtN ?_
  refine eZ h rfl (fun h=>?_) fun h=>?_
  ·refine cL<|aH<|aR<|aM<|qkMove rfl<|qkFld rfl<|qkLd 0 rfl<|qkMove rfl<|ckE h fun j65 h=>aB (bG rfl rfl (aC.fact 0 rfl) rfl rfl j65) rfl<|aB (cK rfl (aC.fact 0 rfl) rfl rfl rfl fE j65) rfl<|aB (Hc rfl rfl) rfl<|qkAsg rfl<|eI<|inT<|aM<|qkMove rfl<|qkAdd rfl<|qkAsg rfl<|dtN ?_
   exact Ah ((max a61.1 (at' p0.1 a61.2)),(wI .i64 (a61.2+(1:Int)))) () h SF rfl
  refine gH ?_
  exact iQ (a61.1) () h SF rfl
 intro a3 b4 h
 unfold pR at h
 refine sqR<|qkAsg rfl<|dtN<|aH<|midL (B:=Cd) (fun a8=>tJ  a8=some r) (fun a8 b9=>[(10,b9.1)]) (fun a8 b9=>[Ar c_.raw b9.1 b9.2,gU cE b9.2 a8]) ?_ ?_
 ·refine sqR<|qkAsg rfl<|dtN<|aR<|dV (dA c_.raw) (dV (gY cE) ?_)
  refine loopL (B:=Cd) (iX U p0 p1 p2 a3) (fun a15 b16=>[(1,v3),(2,v4),(3,vP b1),(7,vI (List.length p0.2:Int)),(8,vI (a3)),(10,b16.1),(11,vI (a15.2))]) (fun a15 b16=>[bS b1 [v0,v1] 28,Ar c_.raw b16.1 b16.2,gU cE b16.2 a15.1]) (([]:a_),(0:Int)) ((eG),([]:dO)) h SF (aS.ix [2,1,0] rfl rfl) ?_
  intro k17 a15 b16 h
  refine aH<|sqR<|qkMove rfl<|qkMove rfl<|qkLss rfl<|dtN ?_
  refine eZ h rfl (fun h=>?_) fun h=>?_
  ·refine cL<|aH<|aR<|sqR<|qkAsg rfl<|dtN<|aH<|midL (B:=Value) (fun a21=>xL a15 (bM (iX U p0 p1 p2 a3) k17) a21=some r) (fun a21 b22=>[(1,v3),(2,v4),(3,vP b1),(7,vI (List.length p0.2:Int)),(8,vI (a3)),(10,b16.1),(11,vI (a15.2)),(12,b22)]) (fun a21 b22=>[bS b1 [v0,v1] 28,Ar c_.raw b16.1 b16.2,gU cE b16.2 a15.1,Ar cE b22 a21]) ?_ ?_
   ·refine sqR<|qkAsg rfl<|dtN<|aR<|dV (dA cE)<|loopL (B:=Value) (mT U p0 p1 p2 a3 a15 (bM (iX U p0 p1 p2 a3) k17)) (fun a33 b34=>[(1,v3),(2,v4),(3,vP b1),(7,vI (List.length p0.2:Int)),(8,vI (a3)),(10,b16.1),(11,vI (a15.2)),(12,b34),(13,vI (a33.2))]) (fun a33 b34=>[bS b1 [v0,v1] 28,Ar c_.raw b16.1 b16.2,gU cE b16.2 a15.1,Ar cE b34 a33.1]) (([]:aQ),(0:Int)) (eG) h SF (aS.ix [1,2,3,0] rfl rfl) ?_
    intro k35 a33 b34 h
    refine aH<|sqR<|qkMove rfl<|qkMove rfl<|qkLen (aC.fact 2 rfl) rfl<|qkLss rfl<|dtN ?_
    refine eZ h rfl (fun h=>?_) fun h=>?_
    ·refine cL<|aH<|aR<|aH ?_
     refine JR.start [0,0,3,7,15,0,0,96,224,480,0,0,3072,7168,15360,0,64512,131040,0,0,786432,1835008,3932160,0,16515072,33554400,31,134217727] 27 mixedOrders (by decide +kernel) ?_
     refine JR.open (by exact rfl) ?_
     refine jkMove rfl<|jkMove rfl<|ckE h fun j37 h=>bD rfl .nil (lA 2 rfl) (bG rfl rfl (aC.fact 0 rfl) rfl rfl j37) aK.z<|jqN rfl (jJ rfl rfl rfl rfl rfl)<|bD rfl .nil (lA 2 rfl) (mD rfl (aC.fact 0 rfl) rfl rfl rfl Bn j37) aK.z<|jkMove rfl<|jkMove rfl<|ckE h fun j38 h=>bD rfl .nil (lA 2 rfl) (bG rfl rfl (aC.fact 0 rfl) rfl rfl j38) aK.z<|jqN rfl (jJ rfl rfl rfl rfl rfl)<|bD rfl .nil (lA 2 rfl) (mD rfl (aC.fact 0 rfl) rfl rfl rfl Bo j38) aK.z<|jkMove rfl<|jkMove rfl<|ckE h fun j39 h=>bD rfl .nil (lA 2 rfl) (bG rfl rfl (aC.fact 0 rfl) rfl rfl j39) aK.z<|jqN rfl (jJ rfl rfl rfl rfl rfl)<|bD rfl .nil (lA 2 rfl) (mD rfl (aC.fact 0 rfl) rfl rfl rfl Bp j39) aK.z<|jkMove rfl<|jqN rfl (AL rfl rfl)<|jqN rfl (xE rfl rfl)<|jkMove rfl<|jkMove rfl<|ckE h fun j40 h=>bD rfl .nil (lA 2 rfl) (bG rfl rfl (aC.fact 0 rfl) rfl rfl j40) aK.z<|jqN rfl (jJ rfl rfl rfl rfl rfl)<|bD rfl .nil (lA 2 rfl) (mD rfl (aC.fact 0 rfl) rfl rfl rfl Bq j40) aK.z<|jkMove rfl<|jqN rfl (AL rfl rfl)<|jqN rfl (xE rfl rfl)<|jqN rfl (nX rfl)<|bF 27 rfl rfl<|qkAsg rfl<|dtN<|aH<|midU (fun a43=>mS U p1 p2 a15 a33 (bM (mT U p0 p1 p2 a3 a15 (bM (iX U p0 p1 p2 a3) k17)) k35) a43=some r) (fun a43 b44=>[(1,v3),(2,v4),(3,vP b1),(7,vI (List.length p0.2:Int)),(8,vI (a3)),(10,b16.1),(11,vI (a15.2)),(12,b34),(13,vI (a33.2)),(14,vI (a43.1)),(15,vI (a43.2))]) (fun a43 b44=>[bS b1 [v0,v1] 28,Ar c_.raw b16.1 b16.2,gU cE b16.2 a15.1,Ar cE b34 a33.1]) ?_ ?_
     ·refine sqR<|qkMove rfl<|qkMove rfl<|ckE h fun j54 h=>aB (bG rfl rfl (aC.fact 2 rfl) rfl rfl j54) rfl<|aB (jJ rfl rfl rfl rfl rfl) rfl<|aB (mD rfl (aC.fact 2 rfl) rfl rfl rfl mC j54) rfl<|dtN<|aR<|sqR<|qkEql rfl<|qkAsg rfl<|dtN ?_
      refine eZ h rfl (fun h=>?_) fun h=>?_
      ·refine aM<|qkAsg rfl<|qkAsg rfl<|eI<|inT ?_
       exact iQ ((0:Int),(1:Int)) () h SF rfl
      refine sqR<|qkEql rfl<|qkAsg rfl<|dtN ?_
      refine eZ h rfl (fun h=>?_) fun h=>?_
      ·refine JR.start [0,1,0,7,15,31,63,0,255] 8 mixedOrders (by decide +kernel) ?_
       refine JR.open (by exact rfl) ?_
       refine jkFld rfl<|jkLd 0 rfl<|jkMove rfl<|ckE h fun j57 h=>bD rfl .nil (lA 1 rfl) (cG rfl rfl (aC.fact 0 rfl) rfl rfl j57) aK.z<|bD rfl .nil (lA 1 rfl) (cI rfl (aC.fact 0 rfl) rfl rfl j57) aK.z<|bD rfl .nil (lA 1 rfl) (fM rfl (aC.el (aC.fact 0 rfl) j57.1 j57.2) rfl) aK.z<|jqN rfl (pD rfl rfl)<|jqN rfl (nX rfl)<|bF 8 rfl rfl<|qkAsg rfl<|eI<|inT ?_
       exact iQ ((-1:Int),(wI .i64 ((List.length (at' p0.2 a15.2):Int) - (1:Int)))) () h SF rfl
      refine eJ<|inT ?_
      exact iQ (((at' p1 a33.2).2.2.1),(wI .i64 ((wI .i64 (((at' p1 a33.2).2.2.2.1)+(wI .i64 (((at' p1 a33.2).2.2.2.2.1)*(List.length p0.2:Int)))))+(wI .i64 (((at' p1 a33.2).2.2.2.2.2)*a3))))) () h SF rfl
     intro a43 b44 h
     refine aM<|qkMove rfl<|qkMove rfl<|qkMove rfl<|qkMove rfl<|qkMove rfl<|qkLen (aC.fact 2 rfl) rfl<|aB (AL rfl rfl) rfl<|qkMove rfl<|qkAdd rfl<|bnE h fun r45 w46 h=>aE (aG.callQ Hk (yW U v4 r45 w46) rfl (iJ [3] rfl)) rfl fun x47=>qkMove rfl<|qkMove rfl<|aB (pD rfl rfl) rfl<|qkAdd rfl<|bnE h fun r48 w49 h=>aE (aG.callQ CV (gQ U  r48 w49) rfl .nil) rfl fun x50=>qkAdd rfl<|aE (cR (e:=cE) ([(wI .i64 (a43.1+r48))]) [(0,vI (wI .i64 (a43.1+r48)))] rfl rfl rfl rfl (pK (vI (wI .i64 (a43.1+r48))) rfl) rfl rfl rfl) rfl fun u51=>ckE h fun j53 h=>aE (fU 4 cW rfl rfl rfl (aT (aC.res 0 rfl) cW) rfl rfl rfl rfl j53 rfl) rfl fun u52=>qkAsg rfl<|eI<|inT<|aM<|qkMove rfl<|qkAdd rfl<|qkAsg rfl<|dtN ?_
     exact kN ((a33.1++([(wI .i64 (a43.1+r48))])),(wI .i64 (a33.2+(1:Int)))) (u52) h SF (aS.ix [1,2,3,4] rfl rfl) (aA.refl _ _)
    refine gH ?_
    exact iQ (a33.1) (b34) h SF rfl
   intro a21 b22 h
   refine aM<|qkMove rfl<|qkMove rfl<|dV (gY cE)<|bJ (Know.one ((aT (aC.res 4 rfl) cW))) fun ho23=>dV (Nx 0 4 rfl rfl rfl) ?_
   refine aE (cR (e:=c_.raw) [b22] [(0,b22)] rfl rfl rfl rfl (pK (b22) ho23) rfl rfl (by simp[cellsOf,c_.raw,ho23])) rfl fun u24=>?_
   refine bJ (bZ 4 rfl) fun hl25=>bJ (bZ 1 rfl) fun hl26=>ckE h fun j27 h=>dV (Lq 4 1 rfl rfl rfl) ?_
   refine aE (aG.append 2 0 rfl rfl rfl rfl rfl rfl rfl (by have q:=j27;have q1:=hl25;have q2:=hl26;(try simp only[List.length_cons,List.length_nil]at q q1 q2 ⊢);omega) (by have q:=j27;have q1:=hl25;have q2:=hl26;(try simp only[List.length_cons,List.length_nil]at q q1 q2 ⊢);omega) rfl) rfl fun u28=>?_
   refine qkAsg rfl<|eI<|inT<|aM<|qkMove rfl<|qkAdd rfl<|qkAsg rfl<|dtN ?_
   exact kN ((a15.1++[a21]),(wI .i64 (a15.2+(1:Int)))) (u28,(b16.2++[b22])) h SF (aS.ix [1,2,3] rfl rfl) (aA.refl _ _)
  refine gH ?_
  exact bO (a15.1) (b16.1,b16.2) h SF (aS.ix [1,2] rfl rfl) (aA.refl _ _)
 intro a8 b9 h
 unfold tJ at h
 refine sqR<|qkMove rfl<|qkAsg rfl<|dtN<|aN ?_
 cases h
 exact gE (b9.1,b9.2) rfl rfl (RV.tmp rfl) (aS.refl _) aA.nil
end
section
def wZ (U:Nat) (p0:cT):Option (Int):=
 ck (0<=(List.length p0.1:Int)) (some (wI .u32 ((xF .u32 (1:Int) (List.length p0.1:Int)) - (1:Int))))
theorem Yi:aO Tryz.prog 73:=Tryz.call73
theorem MJ (U:Nat) {p0:cT} (a:Value)  (b:Value)  (e:jT) (r:Int) (h:wZ U p0=some r):
  aV Tryz.prog 73 #[Value.agg #[a,b]] [Sl bL a p0.1,S2 aW b e p0.2] (fun x:Unit=>vU (r)) (fun x l=>l) (fun _ l=>l):=by
 refine aV.of Tryz.func73 rfl Tryz.ntmps73 rfl fun c=>?_
 refine sqR<|aE (aG.box (cs:=[a,b]) rfl rfl) rfl fun f=>qkAsg rfl<|dtN<|sqR<|qkFld rfl<|qkLd 0 rfl<|qkLen (aC.fact 0 rfl) rfl<|ckE h fun d h=>aB (FL rfl rfl d) rfl<|aB (pD rfl rfl) rfl<|qkAsg rfl<|dtN<|aN ?_
 cases h
 exact vH rfl
end
section
def yM (U:Nat) (p0:ByteArray) (p1:Int) (p2:Int) (p3:Int):Option ((ByteArray×Int×Int×Int×Int×Int)):=
 some ((p0,(1:Int),(0:Int),p1,p2,p3))
theorem XQ:aO Tryz.prog 25:=Tryz.call25
theorem Ii (U:Nat) {p0:ByteArray} {p1:Int} {p2:Int} {p3:Int} (r:(ByteArray×Int×Int×Int×Int×Int)) (h:yM U p0 p1 p2 p3=some r):
  aV Tryz.prog 25 #[vS (p0),vI (p1),vI (p2),vI (p3)] [] (fun x:Unit=>Value.agg #[vS (r.1),vI (r.2.1),vI (r.2.2.1),vI (r.2.2.2.1),vI (r.2.2.2.2.1),vI (r.2.2.2.2.2)]) (fun x l=>l) (fun _ l=>l):=by
 refine aV.of Tryz.func25 rfl Tryz.ntmps25 rfl fun c=>?_
 unfold yM at h
 refine sqR<|aE (aG.alloc (cs:=vD6) rfl rfl) rfl fun a=>dtN<|sqR<|qkMove rfl<|qkMove rfl<|qkMove rfl<|qkMove rfl ?_
 refine aB (Y.bld5 (r:=Value.agg #[vS (p0),vI (1:Int),vI (0:Int),vI (p1),vI (p2),vI (p3)]) rfl rfl rfl rfl rfl (by intro w;simp[Instr.build,Instr.fill,bV,bQ,bK,bW,bX,bR,cC])) rfl ?_
 refine aY 0 (vs:=[vS (p0),vI (1:Int),vI (0:Int),vI (p1),vI (p2),vI (p3)]) rfl rfl rfl rfl rfl rfl<|dtN<|aN ?_
 cases h
 exact gE () rfl rfl (RV.cell 0 rfl rfl rfl rfl) .nil aA.nil
end
section
def AW (U:Nat)  : Option ((List (ByteArray×Int×Int×Int×Int×Int))):=
 Option.bind (yM U (ByteArray.mk #[99]) (0:Int) (1:Int) (0:Int)) fun a=>(some ([(a.1,a.2.1,a.2.2.1,a.2.2.2.1,a.2.2.2.2.1,a.2.2.2.2.2)]))
theorem ZZ:aO Tryz.prog 8:=Tryz.call8
theorem KJ (U:Nat)  (r:(List (ByteArray×Int×Int×Int×Int×Int))) (h:AW U  = some r):
  aV Tryz.prog 8 #[] [] (fun x:Value=>x) (fun x l=>Ar rW x r::l) (fun _ l=>l):=by
 refine aV.of Tryz.func8 rfl Tryz.ntmps8 rfl fun c=>?_
 refine sqR<|qkAsg rfl<|dtN<|sqR<|bnE h fun a d h=>aE (aG.callQ XQ (Ii U  a d) rfl .nil) rfl fun f=>aE (cR (e:=rW) ([((a.1,a.2.1,a.2.2.1,a.2.2.2.1,a.2.2.2.2.1,a.2.2.2.2.2))]) [(0,Value.agg #[vS (a.1),vI (a.2.1),vI (a.2.2.1),vI (a.2.2.2.1),vI (a.2.2.2.2.1),vI (a.2.2.2.2.2)])] rfl rfl rfl rfl (Ts (vS (a.1)) (vI (a.2.1)) (vI (a.2.2.1)) (vI (a.2.2.2.1)) (vI (a.2.2.2.2.1)) (vI (a.2.2.2.2.2))) rfl rfl rfl) rfl fun b=>qkAsg rfl<|dtN<|aN ?_
 cases h
 exact gE (b) rfl rfl (RV.tmp rfl) (aS.refl _) aA.nil
end
end Go.Proofs.YtpenklncfhiloaaGreatDoor
end
