/- Models and proofs. Conditions: none. -/
import Derived.Test.YtigggfnchamobaaGreatDoorZCRo2
import Derived.Test.YtigggfnchamobaaGreatDoorZCRo4
import Derived.Test.YtigggfnchamobaaGreatDoorZCRo1
set_option linter.unusedVariables false
set_option linter.unusedSimpArgs false
set_option maxHeartbeats 4000000
set_option maxRecDepth 20000
section
namespace Go.Proofs.YtigggfnchamobaaGreatDoor
open Go.Sx
section
def sD (a3:(List ((Int×Int)×Int))) (kv6:(Int×Int)×Int) (xa9:Option (Bool)):Option (Bool):=
 if(Option.getD (kH (kv6.1.2,kv6.1.1) a3) (0:Int))≠kv6.2 then(some (false))else(xa9)
def fS  (a3:(List ((Int×Int)×Int))):Option (Bool):=
 GZ (sD a3) (some (true)) a3
def kP (a17:Et) (ag16:HX->Option (Bool)) (a22:(List ((Int×Int)×Int))):Option (Bool):=
 ag16 ((wI .i64 (a17.1+(1:Int))),a22)
def fT (p0:dZ) (a17:Et) (a28:Et) (ag27:HX->Option (Bool)) (a39:Bool):Option (Bool):=
 if a39=true then(some (false))else(if(Option.isSome (kH (a17.1,((at' (at' p0 a17.1) a28.1).1)) a28.2))=true then(some (false))else(ag27 ((wI .i64 (a28.1+(1:Int))),(zH (a17.1,((at' (at' p0 a17.1) a28.1).1)) ((at' (at' p0 a17.1) a28.1).2) a28.2))))
def eT (p0:dZ) (a17:Et) (a28:Et) (ag27:HX->Option (Bool)) (a35:Bool):Option (Bool):=
 if a35=true then(some (false))else(if((at' (at' p0 a17.1) a28.1).2)<(1:Int)then(fT p0 a17 a28 ag27 (true))else(fT p0 a17 a28 ag27 (decide ((15:Int)<((at' (at' p0 a17.1) a28.1).2)))))
def bQ (p0:dZ) (a17:Et) (ag16:HX->Option (Bool)) (a28:Et) (ag27:HX->Option (Bool)):Option (Bool):=
 if a28.1<(List.length (at' p0 a17.1):Int)then(ck (0<=a28.1∧a28.1<(List.length (at' p0 a17.1):Int)) (if((at' (at' p0 a17.1) a28.1).1)<(0:Int)then(eT p0 a17 a28 ag27 (true))else(if(List.length p0:Int)<=((at' (at' p0 a17.1) a28.1).1)then(eT p0 a17 a28 ag27 (true))else(eT p0 a17 a28 ag27 (decide (((at' (at' p0 a17.1) a28.1).1)=a17.1))))))else(kP a17 ag16 (a28.2))
def bY (U:Nat) (p0:dZ) (a17:Et) (ag16:HX->Option (Bool)):Option (Bool):=
 if a17.1<(List.length p0:Int)then(ck (0<=a17.1∧a17.1<(List.length p0:Int)) (bD (bQ p0 a17 ag16) U ((0:Int),a17.2)))else(fS  (a17.2))
def eN (U:Nat) (p0:dZ):Option (Bool):=
 bD (bY U p0) U ((0:Int),([]:List ((Int×Int)×Int)))
theorem WF:aP Tryz.prog 59:=Tryz.call59
theorem Di (U:Nat) {p0:dZ} (v0:Value)  (z1:nK) (r:Bool) (h:eN U p0=some r):
  aU Tryz.prog 59 #[v0] [S2 aW v0 z1 p0] (fun x:Unit=>vB (r)) (fun x l=>l) (fun _ l=>l):=by
 refine aU.of Tryz.func59 rfl Tryz.ntmps59 rfl fun c=>?_
 unfold eN at h
 refine sqR<|qkAsg rfl<|dtN<|sqR<|aE (aI.makeMap k_ Lg) rfl fun b1=>qkAsg rfl<|dtN<|aH<|midU (fun a3=>fS  a3=some r) (fun a3 b4=>[(3,Value.map (some b1))]) (fun a3 b4=>[Mp k_ Lg b1 a3]) ?_ ?_
 ·refine sqR<|qkMove rfl<|aB (hZ rfl (aC.fact 0 rfl) rfl) rfl<|qkMove rfl<|dtN<|aN<|loopL (bY U p0) (fun a17 b18=>[(0,v0),(3,Value.map (some b1)),(14,v0),(15,vI (List.length p0:Int)),(16,vI (a17.1))]) (fun a17 b18=>[Mp k_ Lg b1 a17.2]) ((0:Int),([]:List ((Int×Int)×Int))) () h SF (aT.refl _) ?_
  intro k19 a17 b18 h
  refine sqR<|qkLss rfl<|dtN<|aH ?_
  refine eD h rfl (fun h=>?_) fun h=>?_
  ·refine cG<|aH<|midU (fun a22=>kP a17 (bD (bY U p0) k19) a22=some r) (fun a22 b23=>[(0,v0),(3,Value.map (some b1)),(14,v0),(15,vI (List.length p0:Int)),(16,vI (a17.1))]) (fun a22 b23=>[Mp k_ Lg b1 a22]) ?_ ?_
   ·refine aN<|sqR<|qkMove rfl<|ckE h fun j24 h=>aB (cI rfl rfl (aC.fact 0 rfl) rfl rfl j24) rfl<|aB (cJ rfl (aC.fact 0 rfl) rfl rfl j24) rfl<|qkAsg rfl<|qkAsg rfl<|dtN<|sqR<|qkMove rfl<|aB (fI rfl (aC.el (aC.fact 0 rfl) j24.1 j24.2) rfl) rfl<|qkMove rfl<|dtN<|aN<|loopL (bQ p0 a17 (bD (bY U p0) k19)) (fun a28 b29=>[(0,v0),(3,Value.map (some b1)),(4,vI (a17.1)),(14,v0),(15,vI (List.length p0:Int)),(16,vI (a17.1)),(21,(at' z1 a17.1).1),(22,vI (List.length (at' p0 a17.1):Int)),(23,vI (a28.1))]) (fun a28 b29=>[Mp k_ Lg b1 a28.2]) ((0:Int),a17.2) () h SF (aT.refl _) ?_
    intro k30 a28 b29 h
    refine sqR<|qkLss rfl<|dtN<|aH ?_
    refine eD h rfl (fun h=>?_) fun h=>?_
    ·refine cG<|aH<|aN<|sqR<|ckE h fun j32 h=>aB (aY rfl rfl (aC.el (aC.fact 0 rfl) j24.1 j24.2) rfl rfl j32) rfl<|aB (fR (cs:=[vI ((at' (at' p0 a17.1) a28.1).1),vI ((at' (at' p0 a17.1) a28.1).2)]) rfl (aC.el (aC.fact 0 rfl) j24.1 j24.2) bK rfl rfl rfl rfl j32) rfl<|aE (aI.alloc (cs:=MM) rfl rfl) rfl fun b33=>bF 0 (vs:=[vI ((at' (at' p0 a17.1) a28.1).1),vI ((at' (at' p0 a17.1) a28.1).2)]) rfl rfl rfl rfl rfl rfl<|dtN<|aH<|aH<|midU (fun a35=>eT p0 a17 a28 (bD (bQ p0 a17 (bD (bY U p0) k19)) k30) a35=some r) (fun a35 b36=>[(0,v0),(3,Value.map (some b1)),(4,vI (a17.1)),(7,vP b33),(14,v0),(15,vI (List.length p0:Int)),(16,vI (a17.1)),(21,(at' z1 a17.1).1),(22,vI (List.length (at' p0 a17.1):Int)),(23,vI (a28.1)),(42,vB (a35))]) (fun a35 b36=>[bM b33 [vI ((at' (at' p0 a17.1) a28.1).1),vI ((at' (at' p0 a17.1) a28.1).2)] 72,Mp k_ Lg b1 a28.2]) ?_ ?_
     ·refine aM<|qkFld rfl<|qkLd 0 rfl<|qkLss rfl<|qkMove rfl ?_
      refine B_ h rfl (fun _ h=>?_) fun _ h=>?_
      ·refine gdSkip rfl<|gdSkip rfl<|gdSkip rfl<|gdSkip rfl<|gdSkip rfl<|qkPkT rfl<|qkMove rfl<|gdSkip rfl<|gdSkip rfl<|gdSkip rfl<|gdSkip rfl<|qkPkT rfl<|dtN ?_
       exact jA (true) () h SF rfl
      refine aO rfl (cP rfl rfl rfl rfl rfl) rfl<|aO rfl (dD 0 rfl rfl rfl rfl rfl) rfl<|gyMove rfl<|aO rfl (hZ rfl (aC.fact 0 rfl) rfl) rfl<|aO rfl (Fx rfl rfl) rfl<|qkPkF rfl<|qkMove rfl ?_
      refine B_ h rfl (fun _ h=>?_) fun _ h=>?_
      ·refine gdSkip rfl<|gdSkip rfl<|gdSkip rfl<|gdSkip rfl<|qkPkT rfl<|dtN ?_
       exact jA (true) () h SF rfl
      refine aO rfl (cP rfl rfl rfl rfl rfl) rfl<|aO rfl (dD 0 rfl rfl rfl rfl rfl) rfl<|gyMove rfl<|aO rfl (Hp rfl rfl) rfl<|qkPkF rfl<|dtN ?_
      exact jA (decide (((at' (at' p0 a17.1) a28.1).1)=a17.1)) () h SF rfl
     intro a35 b36 h
     refine Ah h rfl (fun _ h=>?_) fun _ h=>?_
     ·refine sqR<|qkAsg rfl<|dtN<|aQ<|aG<|bH<|aG<|aG<|bH<|bH<|aG<|aG<|bH<|aG ?_
      cases h
      exact uV rfl
     refine cG<|aH<|aH<|midU (fun a39=>fT p0 a17 a28 (bD (bQ p0 a17 (bD (bY U p0) k19)) k30) a39=some r) (fun a39 b40=>[(0,v0),(3,Value.map (some b1)),(4,vI (a17.1)),(7,vP b33),(14,v0),(15,vI (List.length p0:Int)),(16,vI (a17.1)),(21,(at' z1 a17.1).1),(22,vI (List.length (at' p0 a17.1):Int)),(23,vI (a28.1)),(50,vB (a39))]) (fun a39 b40=>[bM b33 [vI ((at' (at' p0 a17.1) a28.1).1),vI ((at' (at' p0 a17.1) a28.1).2)] 72,Mp k_ Lg b1 a28.2]) ?_ ?_
     ·refine aM<|qkFld rfl<|qkLd 0 rfl<|qkLss rfl<|qkMove rfl ?_
      refine B_ h rfl (fun _ h=>?_) fun _ h=>?_
      ·refine gdSkip rfl<|gdSkip rfl<|gdSkip rfl<|qkPkT rfl<|dtN ?_
       exact jA (true) () h SF rfl
      refine aO rfl (cP rfl rfl rfl rfl rfl) rfl<|aO rfl (dD 0 rfl rfl rfl rfl rfl) rfl<|aO rfl (uN rfl rfl) rfl<|qkPkF rfl<|dtN ?_
      exact jA (decide ((15:Int)<((at' (at' p0 a17.1) a28.1).2))) () h SF rfl
     intro a39 b40 h
     refine Ah h rfl (fun _ h=>?_) fun _ h=>?_
     ·refine sqR<|qkAsg rfl<|dtN<|aQ<|aG<|bH<|aG<|aG<|bH<|bH<|aG<|aG<|bH<|aG ?_
      cases h
      exact uV rfl
     refine cG<|sqR<|qkMove rfl<|qkFld rfl<|qkLd 0 rfl ?_
     refine aB (As (r:=Value.agg #[vI (a17.1),vI ((at' (at' p0 a17.1) a28.1).1)]) rfl rfl (by intro w;simp[Instr.build,Instr.fill,dU,cX,cK,dV,dW,cY,eP])) rfl ?_
     refine aE (aI.alloc (cs:=MM) rfl rfl) rfl fun b42=>bF 0 (vs:=[vI (a17.1),vI ((at' (at' p0 a17.1) a28.1).1)]) rfl rfl rfl rfl rfl rfl<|dtN<|aH<|sqR<|qkMove rfl<|qkLdA 0 rfl ?_
     refine aB (JW 2 ((a17.1,((at' (at' p0 a17.1) a28.1).1))) (u:=vI (Option.getD (kH (a17.1,((at' (at' p0 a17.1) a28.1).1)) a28.2) (0:Int))) IQ rfl rfl rfl rfl rfl (by cases kH ((a17.1,((at' (at' p0 a17.1) a28.1).1))) a28.2<;>rfl)) rfl ?_
     refine qkMove rfl<|qkExt rfl<|qkExt rfl<|qkAsg rfl<|qkAsg rfl<|dtN<|sqR<|qkMove rfl<|dtN ?_
     refine Ah h rfl (fun _ h=>?_) fun _ h=>?_
     ·refine sqR<|qkAsg rfl<|dtN<|aQ<|aG<|bH<|aG<|aG<|bH<|bH<|aG<|aG<|bH<|aG ?_
      cases h
      exact uV rfl
     refine cG<|aM<|qkMove rfl<|qkLdA 0 rfl<|qkFld rfl<|qkLd 1 rfl<|Jv 2 ((a17.1,((at' (at' p0 a17.1) a28.1).1))) ((at' (at' p0 a17.1) a28.1).2) IQ rfl rfl rfl rfl rfl<|dY<|inT<|aM<|qkAdd rfl<|qkMove rfl<|dtN ?_
     exact mO ((wI .i64 (a28.1+(1:Int))),(zH (a17.1,((at' (at' p0 a17.1) a28.1).1)) ((at' (at' p0 a17.1) a28.1).2) a28.2)) () h SF (aT.ix [2] rfl rfl) (aD.refl _ _)
    refine pG<|dR<|dR<|uK<|inT ?_
    exact jA (a28.2) () h SF rfl
   intro a22 b23 h
   unfold kP at h
   refine aM<|qkAdd rfl<|qkMove rfl<|dtN ?_
   exact yB ((wI .i64 (a17.1+(1:Int))),a22) () h SF rfl
  refine vT ?_
  exact jA (a17.2) () h SF rfl
 intro a3 b4 h
 unfold fS at h
 refine aH<|sqR<|qkMove rfl<|aE (aI.range 0 rfl rfl rfl) rfl fun b5=>dtN<|aN<|Ts [(3,Value.map (some b1)),(69,vP b5)] [It b5 b1 (List.length a3) ([]),Mp k_ Lg b1 a3] [S2 aW v0 z1 p0] SF (aT.refl _) (aD.refl _ _) ?_
 refine On (sD a3) 1 0 (by intro a b x;unfold sD;repeat' split;all_goals first|rfl|contradiction|simp_all) h rfl rfl rfl rfl rfl rfl ?_ ?_
 ·skip
  intro kv6 i7 se8 xa9 hkv10 h
  refine aN<|sqR<|aE (aI.entry 1 0 hkv10 rfl rfl rfl) rfl fun x11=>qkExt rfl<|qkExt rfl<|aE (aI.alloc (cs:=MM) rfl rfl) rfl fun b12=>bF 0 (vs:=[vI (kv6.1.1),vI (kv6.1.2)]) rfl rfl rfl rfl rfl rfl<|qkAsg rfl<|dtN<|sqR<|qkMove rfl ?_
  refine aB (lZ (i:=1) rfl rfl rfl rfl rfl (by decide)) rfl ?_
  refine qkLd 0 rfl ?_
  refine aB (lZ (i:=0) rfl rfl rfl rfl rfl (by decide)) rfl ?_
  refine qkLd 0 rfl ?_
  refine aB (As (r:=Value.agg #[vI (kv6.1.2),vI (kv6.1.1)]) rfl rfl (by intro w;simp[Instr.build,Instr.fill,dU,cX,cK,dV,dW,cY,eP])) rfl ?_
  refine aB (JW 2 ((kv6.1.2,kv6.1.1)) (u:=vI (Option.getD (kH (kv6.1.2,kv6.1.1) a3) (0:Int))) IQ rfl rfl rfl rfl rfl (by cases kH ((kv6.1.2,kv6.1.1)) a3<;>rfl)) rfl ?_
  refine qkMove rfl<|qkNeq rfl<|dtN ?_
  refine eD h rfl (fun h=>?_) fun h=>?_
  ·refine sqR<|qkAsg rfl<|dtN<|aQ<|bH<|aG<|bH<|aG ?_
   cases h
   exact uV rfl
  refine cS<|inT ?_
  exact LC h SF (aT.ix [1,2] rfl rfl) (aD.refl _ _)
 intro se8 h
 refine uK<|wZ<|sqR<|qkAsg rfl<|dtN<|aQ ?_
 cases h
 exact uV rfl
end
section
def nD  (a7:Bool):Option (Bool):=
 some (a7)
def nC (U:Nat) (p0:dB) (a3:Bool):Option (Bool):=
 if a3=true then(some (false))else(Option.bind (gG U p0.1) fun r9=>(if r9=true then(Option.bind (eN U p0.2) fun r13=>(nD  (r13)))else(nD  (false))))
def e_ (U:Nat) (p0:dB):Option (Bool):=
 if(List.length p0.1:Int)<(1:Int)then(nC U p0 (true))else(if(24:Int)<(List.length p0.1:Int)then(nC U p0 (true))else(nC U p0 (decide ((List.length p0.2:Int)≠(List.length p0.1:Int)))))
theorem Ix:aP Tryz.prog 40:=Tryz.call40
theorem uH (U:Nat) {p0:dB} (v0:Value)  (v1:Value)  (z2:nK) (r:Bool) (h:e_ U p0=some r):
  aU Tryz.prog 40 #[Value.agg #[v0,v1]] [Sl bL v0 p0.1,S2 aW v1 z2 p0.2] (fun x:Unit=>vB (r)) (fun x l=>l) (fun _ l=>l):=by
 refine aU.of Tryz.func40 rfl Tryz.ntmps40 rfl fun c=>?_
 refine sqR<|aE (aI.box (cs:=[v0,v1]) rfl rfl) rfl fun b1=>qkAsg rfl<|dtN<|sqR<|qkFld rfl<|qkLd 0 rfl<|qkLen (aC.fact 0 rfl) rfl<|qkAsg rfl<|dtN<|aH<|aH<|midU (fun a3=>nC U p0 a3=some r) (fun a3 b4=>[(1,vP b1),(19,vB (a3))]) (fun a3 b4=>[bM b1 [v0,v1] 28]) ?_ ?_
 ·refine aM<|qkMove rfl<|qkLss rfl<|qkMove rfl ?_
  refine B_ h rfl (fun _ h=>?_) fun _ h=>?_
  ·refine gdSkip rfl<|gdSkip rfl<|qkPkT rfl<|qkMove rfl<|gdSkip rfl<|gdSkip rfl<|gdSkip rfl<|gdSkip rfl<|gdSkip rfl<|qkPkT rfl<|dtN ?_
   exact jA (true) () h SF rfl
  refine gyMove rfl<|aO rfl (uN rfl rfl) rfl<|qkPkF rfl<|qkMove rfl ?_
  refine B_ h rfl (fun _ h=>?_) fun _ h=>?_
  ·refine gdSkip rfl<|gdSkip rfl<|gdSkip rfl<|gdSkip rfl<|gdSkip rfl<|qkPkT rfl<|dtN ?_
   exact jA (true) () h SF rfl
  refine aO rfl (cP rfl rfl rfl rfl rfl) rfl<|aO rfl (dD 0 rfl rfl rfl rfl rfl) rfl<|aO rfl (hZ rfl (aC.fact 1 rfl) rfl) rfl<|gyMove rfl<|aO rfl (Bz rfl rfl) rfl<|qkPkF rfl<|dtN ?_
  exact jA (decide ((List.length p0.2:Int)≠(List.length p0.1:Int))) () h SF rfl
 intro a3 b4 h
 refine Ah h rfl (fun _ h=>?_) fun _ h=>?_
 ·refine sqR<|qkAsg rfl<|dtN<|aQ<|aG ?_
  cases h
  exact uV rfl
 refine cG<|aH<|midU (fun a7=>nD  a7=some r) (fun a7 b8=>[(2,vB (a7))]) (fun a7 b8=>[]) ?_ ?_
 ·refine aM<|qkFld rfl<|qkLd 0 rfl<|bnE h fun r9 w10 h=>aE (aI.callQ WE (AM U v0 r9 w10) rfl (nE [0] rfl)) rfl fun x11=>qkMove rfl ?_
  refine Cq (by exact rfl) (by exact rfl) (fun hp12=>?_) (fun hp12=>?_)
  ·have h:=Rx hp12 h
   refine aO rfl (cP rfl rfl rfl rfl rfl) rfl<|aO rfl (dD 0 rfl rfl rfl rfl rfl) rfl<|bnE h fun r13 w14 h=>tZ rfl (aI.callQ WF (Di U v1 z2 r13 w14) rfl (nE [1] rfl)) rfl fun x15=>qkPkT rfl<|qkAsg rfl<|dtN ?_
   exact cE (r13) () h SF .nil (aD.refl _ _)
  have h:=Rv hp12 h
  refine gdSkip rfl<|gdSkip rfl<|gdSkip rfl<|qkPkF rfl<|qkAsg rfl<|dtN ?_
  exact cE (false) () h SF .nil (aD.refl _ _)
 intro a7 b8 h
 unfold nD at h
 refine aQ ?_
 cases h
 exact lF rfl
end
section
def oL  (a4:Int):Option (Int):=
 some (a4)
def eX (U:Nat) (p0:Int) (p1:Int):Option (Int):=
 if p1<(1:Int)then(some (0:Int))else(ck (p1≠0) (if(Int.tmod p0 p1)<(0:Int)then(oL  (wI .i64 ((Int.tmod p0 p1)+p1)))else(oL  (Int.tmod p0 p1))))
theorem Av:aP Tryz.prog 29:=Tryz.call29
theorem jI (U:Nat) {p0:Int} {p1:Int} (r:Int) (h:eX U p0 p1=some r):
  aU Tryz.prog 29 #[vI (p0),vI (p1)] [] (fun x:Unit=>vI (r)) (fun x l=>l) (fun _ l=>l):=by
 refine aU.of Tryz.func29 rfl Tryz.ntmps29 rfl fun c=>?_
 refine sqR<|qkAsg rfl<|dtN<|aH<|sqR<|qkMove rfl<|qkLss rfl<|dtN ?_
 refine eD h rfl (fun h=>?_) fun h=>?_
 ·refine sqR<|qkAsg rfl<|dtN<|aQ<|aG ?_
  cases h
  exact lF rfl
 refine cG<|sqR<|qkMove rfl<|qkMove rfl<|ckE h fun j2 h=>aB (JZ rfl rfl j2) rfl<|qkAsg rfl<|dtN<|aH<|midU (fun a4=>oL  a4=some r) (fun a4 b5=>[(0,vI (a4))]) (fun a4 b5=>[]) ?_ ?_
 ·refine sqR<|qkMove rfl<|qkLss rfl<|dtN ?_
  refine eD h rfl (fun h=>?_) fun h=>?_
  ·refine aM<|qkMove rfl<|qkMove rfl<|qkAdd rfl<|qkAsg rfl<|dtN ?_
   exact jA (wI .i64 ((Int.tmod p0 p1)+p1)) () h SF rfl
  refine cG ?_
  exact jA (Int.tmod p0 p1) () h SF rfl
 intro a4 b5 h
 unfold oL at h
 refine sqR<|qkMove rfl<|qkAsg rfl<|dtN<|aQ ?_
 cases h
 exact lF rfl
end
section
def pR (U:Nat) (p0:aL) (p1:Int):Option (Int):=
 if p1<(List.length p0:Int)then(ck (0<=p1∧p1<(List.length p0:Int)) (some (at' p0 p1)))else(some (0:Int))
theorem FD:aP Tryz.prog 30:=Tryz.call30
theorem wT (U:Nat) {p0:aL} {p1:Int} (v0:Value) (r:Int) (h:pR U p0 p1=some r):
  aU Tryz.prog 30 #[v0,vI (p1)] [Sl bL v0 p0] (fun x:Unit=>vI (r)) (fun x l=>l) (fun _ l=>l):=by
 refine aU.of Tryz.func30 rfl Tryz.ntmps30 rfl fun c=>?_
 refine sqR<|qkAsg rfl<|dtN<|aH<|sqR<|qkMove rfl<|qkMove rfl<|qkLen (aC.fact 0 rfl) rfl<|qkLss rfl<|dtN ?_
 refine eD h rfl (fun h=>?_) fun h=>?_
 ·refine sqR<|qkMove rfl<|qkMove rfl<|ckE h fun j2 h=>aB (aY rfl rfl (aC.fact 0 rfl) rfl rfl j2) rfl<|aB (bR rfl (aC.fact 0 rfl) rfl rfl rfl dN j2) rfl<|qkAsg rfl<|dtN<|aQ<|aG ?_
  cases h
  exact lF rfl
 refine cG<|sqR<|qkAsg rfl<|dtN<|aQ ?_
 cases h
 exact lF rfl
end
section
def lN (r3:Int) (a13:aL):Option qG:=
 some ((a13,(List.replicate (Int.toNat (wI .i64 ((1:Int)+r3))) ([]:eJ))))
def pL (a21:mD) (ag20:sJ->Option qG) (a32:Int):Option qG:=
 ck ((List.length a21.2:Int)+(List.length ([a32]):Int)<=1099511627) (ag20 ((wI .i64 (a21.1+(1:Int))),(a21.2++[a32])))
def jB (ag40:gM->Option qG) (a47:eY):Option qG:=
 ag40 (a47.1,(wI .i64 (a47.2+(1:Int))))
def jC (a21:mD) (ag20:sJ->Option qG) (a41:eY) (ag40:gM->Option qG):Option qG:=
 if a41.2<a21.1 then(ck (0<=a41.2∧a41.2<(List.length a21.2:Int)) (if(at' a21.2 a41.2)=a41.1 then(ck ((256:Int)≠0) (jB ag40 ((Int.tmod (wI .i64 (a41.1+(1:Int))) (256:Int)),(-1:Int))))else(jB ag40 (a41.1,a41.2))))else(pL a21 ag20 (a41.1))
def fY (U:Nat) (p0:Aj) (r3:Int) (a21:mD) (ag20:sJ->Option qG):Option qG:=
 if a21.1<(wI .i64 ((1:Int)+r3))then(Option.bind (pR U p0.2.2.2.1 a21.1) fun r25=>(Option.bind (eX U r25 (256:Int)) fun r28=>(bD (jC a21 ag20) U (r28,(0:Int)))))else(lN r3 (a21.2))
def mI (U:Nat) (p0:Aj) (p1:Int):Option qG:=
 Option.bind (eX U (wI .i64 (p0.1 - (1:Int))) p1) fun r3=>(ck (0<=(wI .i64 ((1:Int)+r3))∧(wI .i64 ((1:Int)+r3))<=1099511627) (bD (fY U p0 r3) U ((0:Int),([]:aL))))
theorem Wz:aP Tryz.prog 39:=Tryz.call39
theorem Bt (U:Nat) {p0:Aj} {p1:Int} (v0:Value)  (v1:Value)  (v2:Value) (r:(aL×dZ)) (h:mI U p0 p1=some r):
  aU Tryz.prog 39 #[Value.agg #[vI (p0.1),v0,v1,v2,vB (p0.2.2.2.2.1),vB (p0.2.2.2.2.2)],vI (p1)] [Sl bL v0 p0.2.1,Sl bL v1 p0.2.2.1,Sl bL v2 p0.2.2.2.1] (fun x:Value×Value×List Value=>Value.agg #[x.1,x.2.1]) (fun x l=>Ar bU x.1 r.1::Ar c_.raw x.2.1 x.2.2::jK bT x.2.2 r.2::l) (fun _ l=>l):=by
 refine aU.of Tryz.func39 rfl Tryz.ntmps39 rfl fun c=>?_
 refine sqR<|aE (aI.box (cs:=[vI (p0.1),v0,v1,v2,vB (p0.2.2.2.2.1),vB (p0.2.2.2.2.2)]) rfl rfl) rfl fun b1=>aE (aI.alloc (cs:=[lX,lX]) rfl rfl) rfl fun b2=>dtN<|sqR<|qkFld rfl<|qkLd 1 rfl<|aB (oQ rfl rfl) rfl<|qkMove rfl<|bnE h fun r3 w4 h=>aE (aI.callQ Av (jI U  r3 w4) rfl .nil) rfl fun x5=>qkAdd rfl<|qkAsg rfl<|dtN<|sqR<|qkMove rfl<|ckE h fun j6 h=>jM (uM bT (Int.toNat (wI .i64 ((1:Int)+r3))))<|aE (pI (e:=c_.raw) (lX) rfl rfl rfl rfl j6 rfl rfl rfl) rfl fun u7=>bV (Know.one (aC.sl (bA (i:=0) (j:=1) rfl rfl bK))) fun ho8=>?_
 refine aB (Qm (r:=Value.agg #[lX,u7]) rfl (by intro w;simp[Instr.build,Instr.fill,dU,cX,cK,dV,dW,cY,eP,iS ho8])) rfl ?_
 refine aE (aI.alloc (cs:=[lX,lX]) rfl rfl) rfl fun b9=>bV (Know.one (aC.sl (bA (i:=1) (j:=2) rfl rfl bK))) fun ho10=>bF 0 (vs:=[lX,u7]) rfl rfl (cM rfl (cM ho10 rfl)) rfl rfl rfl<|dtN<|aH<|midL (B:=Value) (fun a13=>lN r3 a13=some r) (fun a13 b14=>[(4,vP b2),(6,vP b9)]) (fun a13 b14=>[bM b9 [b14,u7] 28,Ar c_.raw u7 (List.replicate (Int.toNat (wI .i64 ((1:Int)+r3))) (lX)),jK bT (List.replicate (Int.toNat (wI .i64 ((1:Int)+r3))) (lX)) (List.replicate (Int.toNat (wI .i64 ((1:Int)+r3))) ([]:eJ)),bM b2 [lX,lX] 28,Ar bU b14 a13]) ?_ ?_
 ·refine sqR<|qkAsg rfl<|dtN<|aN<|jM (iI bU)<|loopL (B:=Value) (fY U p0 r3) (fun a21 b22=>[(2,vP b1),(4,vP b2),(5,vI (wI .i64 ((1:Int)+r3))),(6,vP b9),(7,vI (a21.1))]) (fun a21 b22=>[bM b9 [b22,u7] 28,Ar c_.raw u7 (List.replicate (Int.toNat (wI .i64 ((1:Int)+r3))) (lX)),jK bT (List.replicate (Int.toNat (wI .i64 ((1:Int)+r3))) (lX)) (List.replicate (Int.toNat (wI .i64 ((1:Int)+r3))) ([]:eJ)),bM b2 [lX,lX] 28,bM b1 [vI (p0.1),v0,v1,v2,vB (p0.2.2.2.2.1),vB (p0.2.2.2.2.2)] 24,Ar bU b22 a21.2]) ((0:Int),([]:aL)) (lX) h SF (aT.ix [1,2,3,4,5,0] rfl rfl) ?_
  intro k23 a21 b22 h
  refine aH<|sqR<|qkMove rfl<|qkMove rfl<|qkLss rfl<|dtN ?_
  refine eD h rfl (fun h=>?_) fun h=>?_
  ·refine cG<|aH<|aN<|sqR<|qkFld rfl<|qkLd 4 rfl<|qkMove rfl<|bnE h fun r25 w26 h=>aE (aI.callQ FD (wT U v2 r25 w26) rfl (nE [2] rfl)) rfl fun x27=>bnE h fun r28 w29 h=>aE (aI.callQ Av (jI U  r28 w29) rfl .nil) rfl fun x30=>qkAsg rfl<|dtN<|aH<|midU (fun a32=>pL a21 (bD (fY U p0 r3) k23) a32=some r) (fun a32 b33=>[(2,vP b1),(4,vP b2),(5,vI (wI .i64 ((1:Int)+r3))),(6,vP b9),(7,vI (a21.1)),(8,vI (a32))]) (fun a32 b33=>[bM b9 [b22,u7] 28,Ar c_.raw u7 (List.replicate (Int.toNat (wI .i64 ((1:Int)+r3))) (lX)),jK bT (List.replicate (Int.toNat (wI .i64 ((1:Int)+r3))) (lX)) (List.replicate (Int.toNat (wI .i64 ((1:Int)+r3))) ([]:eJ)),bM b2 [lX,lX] 28,bM b1 [vI (p0.1),v0,v1,v2,vB (p0.2.2.2.2.1),vB (p0.2.2.2.2.2)] 24,Ar bU b22 a21.2]) ?_ ?_
   ·refine sqR<|qkAsg rfl<|dtN<|aN<|loopL (jC a21 (bD (fY U p0 r3) k23)) (fun a41 b42=>[(2,vP b1),(4,vP b2),(5,vI (wI .i64 ((1:Int)+r3))),(6,vP b9),(7,vI (a21.1)),(8,vI (a41.1)),(9,vI (a41.2))]) (fun a41 b42=>[bM b9 [b22,u7] 28,Ar c_.raw u7 (List.replicate (Int.toNat (wI .i64 ((1:Int)+r3))) (lX)),jK bT (List.replicate (Int.toNat (wI .i64 ((1:Int)+r3))) (lX)) (List.replicate (Int.toNat (wI .i64 ((1:Int)+r3))) ([]:eJ)),bM b2 [lX,lX] 28,bM b1 [vI (p0.1),v0,v1,v2,vB (p0.2.2.2.2.1),vB (p0.2.2.2.2.2)] 24,Ar bU b22 a21.2]) (r28,(0:Int)) () h SF (aT.refl _) ?_
    intro k43 a41 b42 h
    refine aH<|sqR<|qkMove rfl<|qkMove rfl<|qkLss rfl<|dtN ?_
    refine eD h rfl (fun h=>?_) fun h=>?_
    ·refine cG<|aH<|midU (fun a47=>jB (bD (jC a21 (bD (fY U p0 r3) k23)) k43) a47=some r) (fun a47 b48=>[(2,vP b1),(4,vP b2),(5,vI (wI .i64 ((1:Int)+r3))),(6,vP b9),(7,vI (a21.1)),(8,vI (a47.1)),(9,vI (a47.2))]) (fun a47 b48=>[bM b9 [b22,u7] 28,Ar c_.raw u7 (List.replicate (Int.toNat (wI .i64 ((1:Int)+r3))) (lX)),jK bT (List.replicate (Int.toNat (wI .i64 ((1:Int)+r3))) (lX)) (List.replicate (Int.toNat (wI .i64 ((1:Int)+r3))) ([]:eJ)),bM b2 [lX,lX] 28,bM b1 [vI (p0.1),v0,v1,v2,vB (p0.2.2.2.2.1),vB (p0.2.2.2.2.2)] 24,Ar bU b22 a21.2]) ?_ ?_
     ·refine aN<|sqR<|qkFld rfl<|qkLd 0 rfl<|qkMove rfl<|ckE h fun j49 h=>aB (aY rfl rfl (aR (aC.res 5 rfl) cH) rfl rfl j49) rfl<|aB (bR rfl (aR (aC.res 5 rfl) cH) rfl rfl rfl dN j49) rfl<|qkMove rfl<|qkEql rfl<|dtN ?_
      refine eD h rfl (fun h=>?_) fun h=>?_
      ·refine aM<|qkMove rfl<|qkAdd rfl<|ckE h fun j51 h=>aB (JZ rfl rfl j51) rfl<|qkAsg rfl<|qkAsg rfl<|dY<|inT ?_
       exact jA ((Int.tmod (wI .i64 (a41.1+(1:Int))) (256:Int)),(-1:Int)) () h SF rfl
      refine cS<|inT ?_
      exact jA (a41.1,a41.2) () h SF rfl
     intro a47 b48 h
     unfold jB at h
     refine aM<|qkMove rfl<|qkAdd rfl<|qkAsg rfl<|dtN ?_
     exact yB (a47.1,(wI .i64 (a47.2+(1:Int)))) () h SF rfl
    refine vT ?_
    exact jA (a41.1) () h SF rfl
   intro a32 b33 h
   refine aM<|qkFld rfl<|qkLd 0 rfl<|qkMove rfl<|aE (bZ (e:=bU) ([a32]) [(0,vI (a32))] rfl rfl rfl rfl (nA (vI (a32)) rfl) rfl rfl rfl) rfl fun u34=>ckE h fun j36 h=>aE (fP 6 cH rfl rfl rfl (aR (aC.res 0 rfl) cH) rfl rfl rfl rfl j36 rfl) rfl fun u35=>qkFld rfl<|bV (Know.one ((aR (aC.res 6 rfl) cH))) fun ho37=>eR 1 rfl rfl ho37 rfl rfl rfl<|dY<|inT<|aM<|qkMove rfl<|qkAdd rfl<|qkAsg rfl<|dtN ?_
   exact mO ((wI .i64 (a21.1+(1:Int))),(a21.2++[a32])) (u35) h SF (aT.ix [1,2,3,4,5,6] rfl rfl) (aD.refl _ _)
  refine vT ?_
  exact cE (a21.2) (b22) h SF (aT.ix [0,1,2,3,5] rfl rfl) (aD.refl _ _)
 intro a13 b14 h
 unfold lN at h
 refine sqR<|qkLdA 0 rfl<|bV (Know.one ((aR (aC.res 4 rfl) cH))) fun ho15=>bV (Know.one (aC.sl (bA (i:=1) (j:=2) rfl rfl bK))) fun ho16=>bF 3 (vs:=[b14,u7]) rfl rfl (cM ho15 (cM ho16 rfl)) rfl rfl rfl<|dtN<|aQ ?_
 cases h
 exact fO (b14,u7,(List.replicate (Int.toNat (wI .i64 ((1:Int)+r3))) (lX))) rfl rfl (RV.cell 3 rfl rfl rfl rfl) (aT.ix [4,1,2] rfl rfl) aD.nil
end
section
def sA  (a2:Unit):Option (Bool):=
 some (false)
def vF (p0:dB) (p1:Int) (p2:Int) (a6:Int) (ag5:(Int)->Option (Bool)):Option (Bool):=
 ck (0<=p1∧p1<(List.length p0.2:Int)) (if a6<(List.length (at' p0.2 p1):Int)then(ck (0<=p1∧p1<(List.length p0.2:Int)) (ck (0<=a6∧a6<(List.length (at' p0.2 p1):Int)) (if((at' (at' p0.2 p1) a6).1)=p2 then(some (true))else(ag5 (wI .i64 (a6+(1:Int)))))))else(sA  (())))
def kZ (U:Nat) (p0:dB) (p1:Int) (p2:Int):Option (Bool):=
 bD (vF p0 p1 p2) U (0:Int)
theorem WG:aP Tryz.prog 60:=Tryz.call60
theorem GG (U:Nat) {p0:dB} {p1:Int} {p2:Int} (v0:Value)  (v1:Value)  (z2:nK) (r:Bool) (h:kZ U p0 p1 p2=some r):
  aU Tryz.prog 60 #[Value.agg #[v0,v1],vI (p1),vI (p2)] [Sl bL v0 p0.1,S2 aW v1 z2 p0.2] (fun x:Unit=>vB (r)) (fun x l=>l) (fun _ l=>l):=by
 refine aU.of Tryz.func60 rfl Tryz.ntmps60 rfl fun c=>?_
 unfold kZ at h
 refine sqR<|aE (aI.box (cs:=[v0,v1]) rfl rfl) rfl fun b1=>qkAsg rfl<|dtN<|aH<|midU (fun a2=>sA  a2=some r) (fun a2 b3=>[]) (fun a2 b3=>[]) ?_ ?_
 ·refine sqR<|qkAsg rfl<|dtN<|aN<|loopL (vF p0 p1 p2) (fun a6 b7=>[(1,vI (p1)),(2,vI (p2)),(3,vP b1),(7,vI (a6))]) (fun a6 b7=>[bM b1 [v0,v1] 28]) (0:Int) () h SF (aT.refl _) ?_
  intro k8 a6 b7 h
  refine aH<|sqR<|qkMove rfl<|qkFld rfl<|qkLd 0 rfl<|qkMove rfl<|ckE h fun j9 h=>aB (cI rfl rfl (aC.fact 1 rfl) rfl rfl j9) rfl<|aB (cJ rfl (aC.fact 1 rfl) rfl rfl j9) rfl<|aB (fI rfl (aC.el (aC.fact 1 rfl) j9.1 j9.2) rfl) rfl<|qkLss rfl<|dtN ?_
  refine eD h rfl (fun h=>?_) fun h=>?_
  ·refine cG<|aH<|aN<|sqR<|qkFld rfl<|qkLd 0 rfl<|qkMove rfl<|ckE h fun j11 h=>aB (cI rfl rfl (aC.fact 1 rfl) rfl rfl j11) rfl<|aB (cJ rfl (aC.fact 1 rfl) rfl rfl j11) rfl<|qkMove rfl<|ckE h fun j12 h=>aB (aY rfl rfl (aC.el (aC.fact 1 rfl) j11.1 j11.2) rfl rfl j12) rfl<|aB (mR rfl rfl rfl rfl rfl) rfl<|aB (oU rfl (aC.el (aC.fact 1 rfl) j11.1 j11.2) rfl rfl rfl yT j12) rfl<|qkMove rfl<|qkEql rfl<|dtN ?_
   refine eD h rfl (fun h=>?_) fun h=>?_
   ·refine sqR<|qkAsg rfl<|dtN<|aQ<|bH<|aG<|aG<|bH<|aG ?_
    cases h
    exact uV rfl
   refine cS<|inT<|aM<|qkMove rfl<|qkAdd rfl<|qkAsg rfl<|dtN ?_
   exact yB (wI .i64 (a6+(1:Int))) () h SF rfl
  refine vT ?_
  exact cE () (()) h SF .nil (aD.refl _ _)
 intro a2 b3 h
 unfold sA at h
 refine sqR<|qkAsg rfl<|dtN<|aQ ?_
 cases h
 exact lF rfl
end
section
def mF (p0:Aj) (p1:dB) (p2:Int) (p3:Int) (p4:Int) (a4:Bool):Option (dZ):=
 if a4=true then(some (p1.2))else(if p0.2.2.2.2.2=true then(ck (0<=p2∧p2<(List.length p1.2:Int)) (ck ((List.length ([(p3,p4)]):Int)+(List.length (at' p1.2 p2):Int)<=1099511627) (ck (0<=p2∧p2<(List.length p1.2:Int)) (ck (0<=p3∧p3<(List.length (List.set p1.2 (Int.toNat p2) (([(p3,p4)])++(at' p1.2 p2))):Int)) (ck ((List.length ([(p2,p4)]):Int)+(List.length (at' (List.set p1.2 (Int.toNat p2) (([(p3,p4)])++(at' p1.2 p2))) p3):Int)<=1099511627) (ck (0<=p3∧p3<(List.length (List.set p1.2 (Int.toNat p2) (([(p3,p4)])++(at' p1.2 p2))):Int)) (some (List.set (List.set p1.2 (Int.toNat p2) (([(p3,p4)])++(at' p1.2 p2))) (Int.toNat p3) (([(p2,p4)])++(at' (List.set p1.2 (Int.toNat p2) (([(p3,p4)])++(at' p1.2 p2))) p3))))))))))else(ck (0<=p2∧p2<(List.length p1.2:Int)) (ck (0<=p3∧p3<(List.length p1.2:Int)) (ck ((List.length (at' p1.2 p2):Int)+(List.length ([(p3,p4)]):Int)<=1099511627) (ck ((List.length (at' p1.2 p3):Int)+(List.length ([(p2,p4)]):Int)<=1099511627) (ck (Int.toNat p2≠Int.toNat p3) (ck (0<=p2∧p2<(List.length (List.set (List.set p1.2 (Int.toNat p2) ((at' p1.2 p2)++([(p3,p4)]))) (Int.toNat p3) ((at' p1.2 p3)++([(p2,p4)]))):Int)) (ck (0<=p3∧p3<(List.length (List.set (List.set p1.2 (Int.toNat p2) ((at' p1.2 p2)++([(p3,p4)]))) (Int.toNat p3) ((at' p1.2 p3)++([(p2,p4)]))):Int)) (some (List.set (List.set p1.2 (Int.toNat p2) ((at' p1.2 p2)++([(p3,p4)]))) (Int.toNat p3) ((at' p1.2 p3)++([(p2,p4)]))))))))))))
def kT (U:Nat) (p0:Aj) (p1:dB) (p2:Int) (p3:Int) (p4:Int):Option (dZ):=
 if p2=p3 then(mF p0 p1 p2 p3 p4 (true))else(Option.bind (kZ U ((p1.1,p1.2)) p2 p3) fun r86=>(mF p0 p1 p2 p3 p4 (r86)))
theorem QD:aP Tryz.prog 44:=Tryz.call44
theorem wP (U:Nat) {p0:Aj} {p1:dB} {p2:Int} {p3:Int} {p4:Int} (v0:Value)  (v1:Value)  (v2:Value)  (v3:Value)  (v4:Value)  (w5:gH) (r:dZ) (h:kT U p0 p1 p2 p3 p4=some r):
  BQ Tryz.prog 44 #[Value.agg #[vI (p0.1),v0,v1,v2,vB (p0.2.2.2.2.1),vB (p0.2.2.2.2.2)],Value.agg #[v3,v4],vI (p2),vI (p3),vI (p4)] [Ar c_.raw v4 w5,jK bT w5 p1.2] [Sl bL v0 p0.2.1,Sl bL v1 p0.2.2.1,Sl bL v2 p0.2.2.2.1,Sl bL v3 p1.1] (fun x:gH=>Value.tuple #[]) (fun x l=>Ar c_.raw v4 x::jK bT x r::l):=by
 refine BQ.of (vs:=[Value.agg #[vI (p0.1),v0,v1,v2,vB (p0.2.2.2.2.1),vB (p0.2.2.2.2.2)],Value.agg #[v3,v4],vI (p2),vI (p3),vI (p4)]) Tryz.func44 rfl Tryz.ntmps44 rfl fun c=>?_
 refine sqR<|aE (aI.box (cs:=[vI (p0.1),v0,v1,v2,vB (p0.2.2.2.2.1),vB (p0.2.2.2.2.2)]) rfl rfl) rfl fun b1=>aE (aI.box (cs:=[v3,v4]) rfl rfl) rfl fun b2=>dtN<|aH<|aH<|BO (B:=Unit) (fun a4=>mF p0 p1 p2 p3 p4 a4=some r) (fun a4 b5=>[(2,vI (p2)),(3,vI (p3)),(4,vI (p4)),(5,vP b1),(6,vP b2),(20,vB (a4))]) (fun a4 b5=>[bM b2 [v3,v4] 28,bM b1 [vI (p0.1),v0,v1,v2,vB (p0.2.2.2.2.1),vB (p0.2.2.2.2.2)] 24,Ar c_.raw v4 w5,jK bT w5 p1.2]) (fun a4 b5=>[Sl bL v0 p0.2.1,Sl bL v1 p0.2.2.1,Sl bL v2 p0.2.2.2.1,Sl bL v3 p1.1]) ?_ ?_
 ·refine aM<|qkMove rfl<|qkMove rfl<|qkEql rfl<|qkMove rfl ?_
  refine B_ h rfl (fun _ h=>?_) fun _ h=>?_
  ·refine gdSkip rfl<|gdSkip rfl<|gdSkip rfl<|gdSkip rfl<|qkPkT rfl<|dtN ?_
   exact jA (true) () h SF rfl
  refine aO rfl (nO 0 rfl rfl rfl rfl) rfl<|gyMove rfl<|gyMove rfl<|bnE h fun r86 hr87 h=>tZ rfl (aI.callQ WG (GG U v3 v4 (List.zip w5 p1.2) r86 hr87) rfl (aD.cons (aC.fact 3 rfl) (aD.cons (bA (i:=2) (j:=3) rfl rfl bK) .nil))) rfl fun x88=>qkPkF rfl<|dtN ?_
  exact jA (r86) () h SF rfl
 intro a4 b5 h
 refine Ah h rfl (fun _ h=>?_) fun _ h=>?_
 ·refine aQ<|aG ?_
  cases h
  exact AT (w5) rfl rfl .ret (.inl rfl) (aT.ix [2,3] rfl rfl) aD.nil
 refine cG<|sqR<|qkMove rfl<|qkMove rfl ?_
 refine aB (As (r:=Value.agg #[vI (p3),vI (p4)]) rfl rfl (by intro w;simp[Instr.build,Instr.fill,dU,cX,cK,dV,dW,cY,eP])) rfl ?_
 refine qkMove rfl<|qkMove rfl ?_
 refine aB (As (r:=Value.agg #[vI (p2),vI (p4)]) rfl rfl (by intro w;simp[Instr.build,Instr.fill,dU,cX,cK,dV,dW,cY,eP])) rfl ?_
 refine aE (aI.alloc (cs:=MM) rfl rfl) rfl fun b7=>aE (aI.alloc (cs:=MM) rfl rfl) rfl fun b8=>bF 1 (vs:=[vI (p3),vI (p4)]) rfl rfl rfl rfl rfl rfl<|bF 0 (vs:=[vI (p2),vI (p4)]) rfl rfl rfl rfl rfl rfl<|dtN<|aH<|sqR<|qkFld rfl<|qkLd 3 rfl<|dtN ?_
 refine Ah h rfl (fun _ h=>?_) fun _ h=>?_
 ·refine aH ?_
  refine JR.start [0,1,0,0,8,0,32,0,224,480,1016,2047,4095] 11 mixedOrders (by decide +kernel) ?_
  refine JR.open (by exact rfl) ?_
  refine jkFld rfl<|jkLd 2 rfl<|jkMove rfl<|jkLdA 1 rfl<|JR.loud rfl rfl rfl (bZ (e:=bT) ([((p3,p4))]) [(0,Value.agg #[vI (p3),vI (p4)])] rfl rfl rfl rfl (uP (vI (p3)) (vI (p4))) rfl rfl rfl) rfl (fun u10=>(n_ [([3],[])] rfl)) fun u10=>jqN rfl (cP rfl rfl rfl rfl rfl)<|bG rfl (aT.cons 3 rfl .nil) .nil (dD 0 rfl rfl rfl rfl rfl) (aK.h (aT.ix [2] rfl rfl) .nil aK.z)<|jqN rfl (jS rfl)<|ckE h fun j11 h=>bS (cC 6 rfl) fun hl12=>?_
  refine bG rfl (aT.cons 5 rfl .nil) .nil (fV 0 rfl rfl rfl rfl rfl j11.1 (by have q1:=j11.2;have q2:=hl12;(try simp only[List.length_set]at q1);(try simp only[List.length_set]at q2);(try simp only[List.length_set]);omega)) (aK.h (aT.ix [4] rfl rfl) .nil aK.z) ?_
  refine bS (cC 6 rfl) fun hl13=>bG rfl (aT.cons 5 rfl .nil) .nil (kF 0 rfl rfl hl13 rfl rfl j11) (aK.h (aT.ix [4] rfl rfl) .nil aK.z)<|ckE h fun j15 h=>JR.loud rfl rfl rfl (fP 0 bK rfl rfl rfl (aC.row (j:=6) rfl bK j11.1 j11.2) rfl rfl rfl rfl j15 rfl) rfl (fun u14=>(n_ [([3],[])] rfl)) fun u14=>bN 11 rfl rfl<|ckE h fun j16 h=>aB (cI rfl rfl (bA (i:=5) (j:=6) rfl rfl bK) rfl rfl j16) rfl<|bV (Know.one ((aR (aC.res 0 rfl) bK))) fun ho17=>jM (tP (k:=p2) 6 0 rfl rfl rfl j16) ?_
  refine nN 4 5 ⟨j16.1,by first|exact j16.2|simpa using j16.2⟩ rfl rfl rfl rfl rfl (by simp) ho17 rfl ?_
  refine dtN<|aH ?_
  refine JR.start [0,1,0,0,8,0,32,0,224,480,1016,2047,4095] 11 mixedOrders (by decide +kernel) ?_
  refine JR.open (by exact rfl) ?_
  refine jkFld rfl<|jkLd 2 rfl<|jkMove rfl<|jkLdA 0 rfl<|JR.loud rfl rfl rfl (bZ (e:=bT) ([((p2,p4))]) [(0,Value.agg #[vI (p2),vI (p4)])] rfl rfl rfl rfl (uP (vI (p2)) (vI (p4))) rfl rfl rfl) rfl (fun u18=>(n_ [([3],[])] rfl)) fun u18=>jqN rfl (cP rfl rfl rfl rfl rfl)<|bG rfl (aT.cons 3 rfl .nil) .nil (dD 0 rfl rfl rfl rfl rfl) (aK.h (aT.ix [2] rfl rfl) .nil aK.z)<|jqN rfl (jS rfl)<|ckE h fun j19 h=>bS (cC 6 rfl) fun hl20=>?_
  refine bG rfl (aT.cons 5 rfl .nil) .nil (fV 0 rfl rfl rfl rfl rfl j19.1 (by have q1:=j19.2;have q2:=hl20;(try simp only[List.length_set]at q1);(try simp only[List.length_set]at q2);(try simp only[List.length_set]);omega)) (aK.h (aT.ix [4] rfl rfl) .nil aK.z) ?_
  refine bS (cC 6 rfl) fun hl21=>bG rfl (aT.cons 5 rfl .nil) .nil (kF 0 rfl rfl hl21 rfl rfl j19) (aK.h (aT.ix [4] rfl rfl) .nil aK.z)<|ckE h fun j23 h=>JR.loud rfl rfl rfl (fP 0 bK rfl rfl rfl (aC.row (j:=6) rfl bK j19.1 (by first|exact j19.2|simpa using j19.2)) rfl rfl rfl rfl j23 rfl) rfl (fun u22=>(n_ [([3],[])] rfl)) fun u22=>?_
  refine bN 11 rfl rfl<|ckE h fun j24 h=>aB (cI rfl rfl (bA (i:=5) (j:=6) rfl rfl bK) rfl rfl j24) rfl<|bV (Know.one ((aR (aC.res 0 rfl) bK))) fun ho25=>jM (tP (k:=p3) 6 0 rfl rfl rfl j24) ?_
  refine nN 4 5 ⟨j24.1,by first|exact j24.2|simpa using j24.2⟩ rfl rfl rfl rfl rfl (by simp) ho25 rfl ?_
  refine dtN<|aQ<|aG ?_
  cases h
  exact AT (List.set (List.set w5 (Int.toNat p2) u14) (Int.toNat p3) u22) rfl rfl .ret (.inl rfl) (aT.ix [4,5] rfl rfl) aD.nil
 refine cG<|ckE h fun j26 h=>ckE h fun j29 h=>ckE h fun j34 h=>ckE h fun j37 h=>ckE h fun j38 h=>ckE h fun j39 h=>ckE h fun j43 h=>Hj [0,1,0,0,8,0,0,64,0,448,960,0,2048,8128,0,16384,0,114688,245760,0,524288,2097088,4194247,8388551,16777215,33554431] 24 [[0,1,2,3,4,5,6,7,8,9,10,11,14,15,16,17,18,19,12,13,20,21,22,23,24,25],[0,1,2,3,4,5,6,7,8,9,10,11,14,15,16,17,18,19,12,20,13,21,22,23,24,25],[0,1,2,3,4,5,6,7,8,9,10,11,14,15,16,17,18,19,20,12,13,21,22,23,24,25]] mixedOrders (by decide +kernel) (by decide +kernel) ?_
 intro o ho
 simp only[List.mem_cons,List.not_mem_nil,or_false]at ho
 rcases ho with rfl|rfl|rfl
 ·refine jkFld rfl<|jkLd 2 rfl<|jkMove rfl<|jkFld rfl<|jkLd 2 rfl<|jkMove rfl<|jkFld rfl<|jkLd 2 rfl<|jkMove rfl<|bS (cC 5 rfl) fun hl46=>?_
  refine bG rfl (aT.cons 4 rfl .nil) .nil (fV 0 rfl rfl rfl rfl rfl j26.1 (by have q1:=j26.2;have q2:=hl46;(try simp only[List.length_set]at q1);(try simp only[List.length_set]at q2);(try simp only[List.length_set]);omega)) aK.z ?_
  refine bS (cC 5 rfl) fun hl47=>bG rfl (aT.cons 4 rfl .nil) .nil (kF 0 rfl rfl hl47 rfl rfl j26) aK.z<|jkLdA 1 rfl<|jkFld rfl<|jkLd 2 rfl<|jkMove rfl<|bS (cC 5 rfl) fun hl48=>?_
  refine bG rfl (aT.cons 4 rfl .nil) .nil (fV 0 rfl rfl rfl rfl rfl j29.1 (by have q1:=j29.2;have q2:=hl48;(try simp only[List.length_set]at q1);(try simp only[List.length_set]at q2);(try simp only[List.length_set]);omega)) aK.z ?_
  refine bS (cC 5 rfl) fun hl49=>bG rfl (aT.cons 4 rfl .nil) .nil (kF 0 rfl rfl hl49 rfl rfl j29) aK.z<|jkLdA 0 rfl<|JR.loud rfl rfl rfl (bZ (e:=bT) ([((p3,p4))]) [(0,Value.agg #[vI (p3),vI (p4)])] rfl rfl rfl rfl (uP (vI (p3)) (vI (p4))) rfl rfl rfl) rfl (fun u50=>(n_ [([1],[]),([5],[]),([5],[]),([3],[]),([5],[]),([5],[]),([3],[]),([3],[]),([3],[])] rfl)) fun u50=>JR.loud rfl rfl rfl (nZ 6 bK rfl rfl rfl (aR (aC.res 0 rfl) bK) rfl rfl rfl rfl j26 j34 rfl) rfl (fun u51=>(n_ [([1],[]),([5],[]),([5],[]),([3],[]),([3],[]),([3],[])] rfl)) fun u51=>JR.loud rfl rfl rfl (bZ (e:=bT) ([((p2,p4))]) [(0,Value.agg #[vI (p2),vI (p4)])] rfl rfl rfl rfl (uP (vI (p2)) (vI (p4))) rfl rfl rfl) rfl (fun u52=>(n_ [([6],[]),([6],[]),([4],[]),([3],[]),([6],[]),([6],[]),([4],[]),([4],[]),([4],[])] rfl)) fun u52=>JR.loud rfl rfl rfl (uX (j:=p2) 7 bK rfl rfl rfl (aR (aC.res 0 rfl) bK) rfl rfl rfl rfl j29 j37 rfl j38) rfl (fun u53=>(n_ [([4],[]),([4],[])] rfl)) fun u53=>bS (cC 7 rfl) fun hl54=>?_
  refine bG rfl (aT.cons 6 rfl .nil) .nil (fV 0 rfl rfl rfl rfl rfl j39.1 (by have q1:=j39.2;have q2:=hl54;(try simp only[List.length_set]at q1);(try simp only[List.length_set]at q2);(try simp only[List.length_set]);omega)) (hkI rfl) ?_
  refine bS (yS (k:=p2) (j:=p3) 7 rfl (by omega) ⟨j39.1,by first|exact j39.2|simpa using j39.2⟩) fun ho55=>?_
  refine qW rfl rfl rfl (xM 6 7 ⟨j39.1,by first|exact j39.2|simpa using j39.2⟩ rfl rfl rfl rfl (by simp) ho55 rfl) (fun x56=>(n_ [([4],[])] rfl)) fun x56=>?_
  refine bN 24 rfl rfl<|bV (cC 7 rfl) fun hl57=>?_
  refine aB (fV 6 rfl rfl rfl rfl rfl j43.1 (by have q1:=j43.2;have q2:=hl57;(try simp only[List.length_set]at q1);(try simp only[List.length_set]at q2);(try simp only[List.length_set]);omega)) rfl ?_
  refine bV (w_ 7 (k:=p3) rfl ⟨j43.1,by first|exact j43.2|simpa using j43.2⟩) fun ho58=>?_
  refine nN 6 7 ⟨j43.1,by first|exact j43.2|simpa using j43.2⟩ rfl rfl rfl rfl rfl (by simp) ho58 rfl ?_
  refine dY ?_
  cases h
  exact AT (List.set (List.set w5 (Int.toNat p2) u51) (Int.toNat p3) u53) rfl rfl .normal (.inr rfl) (aT.ix [6,7] rfl rfl) aD.nil
 ·refine jkFld rfl<|jkLd 2 rfl<|jkMove rfl<|jkFld rfl<|jkLd 2 rfl<|jkMove rfl<|jkFld rfl<|jkLd 2 rfl<|jkMove rfl<|bS (cC 5 rfl) fun hl59=>?_
  refine bG rfl (aT.cons 4 rfl .nil) .nil (fV 0 rfl rfl rfl rfl rfl j26.1 (by have q1:=j26.2;have q2:=hl59;(try simp only[List.length_set]at q1);(try simp only[List.length_set]at q2);(try simp only[List.length_set]);omega)) aK.z ?_
  refine bS (cC 5 rfl) fun hl60=>bG rfl (aT.cons 4 rfl .nil) .nil (kF 0 rfl rfl hl60 rfl rfl j26) aK.z<|jkLdA 1 rfl<|jkFld rfl<|jkLd 2 rfl<|jkMove rfl<|bS (cC 5 rfl) fun hl61=>?_
  refine bG rfl (aT.cons 4 rfl .nil) .nil (fV 0 rfl rfl rfl rfl rfl j29.1 (by have q1:=j29.2;have q2:=hl61;(try simp only[List.length_set]at q1);(try simp only[List.length_set]at q2);(try simp only[List.length_set]);omega)) aK.z ?_
  refine bS (cC 5 rfl) fun hl62=>bG rfl (aT.cons 4 rfl .nil) .nil (kF 0 rfl rfl hl62 rfl rfl j29) aK.z<|jkLdA 0 rfl<|JR.loud rfl rfl rfl (bZ (e:=bT) ([((p3,p4))]) [(0,Value.agg #[vI (p3),vI (p4)])] rfl rfl rfl rfl (uP (vI (p3)) (vI (p4))) rfl rfl rfl) rfl (fun u63=>(n_ [([1],[]),([5],[]),([5],[]),([3],[]),([5],[]),([5],[]),([3],[]),([3],[]),([3],[])] rfl)) fun u63=>JR.loud rfl rfl rfl (bZ (e:=bT) ([((p2,p4))]) [(0,Value.agg #[vI (p2),vI (p4)])] rfl rfl rfl rfl (uP (vI (p2)) (vI (p4))) rfl rfl rfl) rfl (fun u64=>(n_ [([6],[]),([6],[]),([4],[]),([3],[]),([6],[]),([6],[]),([4],[]),([4],[]),([4],[])] rfl)) fun u64=>JR.loud rfl rfl rfl (nZ 7 bK rfl rfl rfl (aR (aC.res 1 rfl) bK) rfl rfl rfl rfl j26 j34 rfl) rfl (fun u65=>(n_ [([2],[]),([6],[]),([6],[]),([4],[]),([4],[]),([4],[])] rfl)) fun u65=>JR.loud rfl rfl rfl (uX (j:=p2) 7 bK rfl rfl rfl (aR (aC.res 0 rfl) bK) rfl rfl rfl rfl j29 j37 rfl j38) rfl (fun u66=>(n_ [([4],[]),([4],[])] rfl)) fun u66=>bS (cC 7 rfl) fun hl67=>?_
  refine bG rfl (aT.cons 6 rfl .nil) .nil (fV 0 rfl rfl rfl rfl rfl j39.1 (by have q1:=j39.2;have q2:=hl67;(try simp only[List.length_set]at q1);(try simp only[List.length_set]at q2);(try simp only[List.length_set]);omega)) (hkI rfl) ?_
  refine bS (yS (k:=p2) (j:=p3) 7 rfl (by omega) ⟨j39.1,by first|exact j39.2|simpa using j39.2⟩) fun ho68=>?_
  refine qW rfl rfl rfl (xM 6 7 ⟨j39.1,by first|exact j39.2|simpa using j39.2⟩ rfl rfl rfl rfl (by simp) ho68 rfl) (fun x69=>(n_ [([4],[])] rfl)) fun x69=>?_
  refine bN 24 rfl rfl<|bV (cC 7 rfl) fun hl70=>?_
  refine aB (fV 6 rfl rfl rfl rfl rfl j43.1 (by have q1:=j43.2;have q2:=hl70;(try simp only[List.length_set]at q1);(try simp only[List.length_set]at q2);(try simp only[List.length_set]);omega)) rfl ?_
  refine bV (w_ 7 (k:=p3) rfl ⟨j43.1,by first|exact j43.2|simpa using j43.2⟩) fun ho71=>?_
  refine nN 6 7 ⟨j43.1,by first|exact j43.2|simpa using j43.2⟩ rfl rfl rfl rfl rfl (by simp) ho71 rfl ?_
  refine dY ?_
  cases h
  exact AT (List.set (List.set w5 (Int.toNat p2) u65) (Int.toNat p3) u66) rfl rfl .normal (.inr rfl) (aT.ix [6,7] rfl rfl) aD.nil
 refine jkFld rfl<|jkLd 2 rfl<|jkMove rfl<|jkFld rfl<|jkLd 2 rfl<|jkMove rfl<|jkFld rfl<|jkLd 2 rfl<|jkMove rfl<|bS (cC 5 rfl) fun hl72=>?_
 refine bG rfl (aT.cons 4 rfl .nil) .nil (fV 0 rfl rfl rfl rfl rfl j26.1 (by have q1:=j26.2;have q2:=hl72;(try simp only[List.length_set]at q1);(try simp only[List.length_set]at q2);(try simp only[List.length_set]);omega)) aK.z ?_
 refine bS (cC 5 rfl) fun hl73=>bG rfl (aT.cons 4 rfl .nil) .nil (kF 0 rfl rfl hl73 rfl rfl j26) aK.z<|jkLdA 1 rfl<|jkFld rfl<|jkLd 2 rfl<|jkMove rfl<|bS (cC 5 rfl) fun hl74=>?_
 refine bG rfl (aT.cons 4 rfl .nil) .nil (fV 0 rfl rfl rfl rfl rfl j29.1 (by have q1:=j29.2;have q2:=hl74;(try simp only[List.length_set]at q1);(try simp only[List.length_set]at q2);(try simp only[List.length_set]);omega)) aK.z ?_
 refine bS (cC 5 rfl) fun hl75=>bG rfl (aT.cons 4 rfl .nil) .nil (kF 0 rfl rfl hl75 rfl rfl j29) aK.z<|jkLdA 0 rfl<|JR.loud rfl rfl rfl (bZ (e:=bT) ([((p2,p4))]) [(0,Value.agg #[vI (p2),vI (p4)])] rfl rfl rfl rfl (uP (vI (p2)) (vI (p4))) rfl rfl rfl) rfl (fun u76=>(n_ [([5],[]),([5],[]),([3],[]),([2],[]),([5],[]),([5],[]),([3],[]),([3],[]),([3],[])] rfl)) fun u76=>JR.loud rfl rfl rfl (bZ (e:=bT) ([((p3,p4))]) [(0,Value.agg #[vI (p3),vI (p4)])] rfl rfl rfl rfl (uP (vI (p3)) (vI (p4))) rfl rfl rfl) rfl (fun u77=>(n_ [([2],[]),([6],[]),([6],[]),([4],[]),([6],[]),([6],[]),([4],[]),([4],[]),([4],[])] rfl)) fun u77=>JR.loud rfl rfl rfl (nZ 7 bK rfl rfl rfl (aR (aC.res 0 rfl) bK) rfl rfl rfl rfl j26 j34 rfl) rfl (fun u78=>(n_ [([2],[]),([6],[]),([6],[]),([4],[]),([4],[]),([4],[])] rfl)) fun u78=>JR.loud rfl rfl rfl (uX (j:=p2) 7 bK rfl rfl rfl (aR (aC.res 1 rfl) bK) rfl rfl rfl rfl j29 j37 rfl j38) rfl (fun u79=>(n_ [([4],[]),([4],[])] rfl)) fun u79=>bS (cC 7 rfl) fun hl80=>?_
 refine bG rfl (aT.cons 6 rfl .nil) .nil (fV 0 rfl rfl rfl rfl rfl j39.1 (by have q1:=j39.2;have q2:=hl80;(try simp only[List.length_set]at q1);(try simp only[List.length_set]at q2);(try simp only[List.length_set]);omega)) (hkI rfl) ?_
 refine bS (yS (k:=p2) (j:=p3) 7 rfl (by omega) ⟨j39.1,by first|exact j39.2|simpa using j39.2⟩) fun ho81=>?_
 refine qW rfl rfl rfl (xM 6 7 ⟨j39.1,by first|exact j39.2|simpa using j39.2⟩ rfl rfl rfl rfl (by simp) ho81 rfl) (fun x82=>(n_ [([4],[])] rfl)) fun x82=>?_
 refine bN 24 rfl rfl<|bV (cC 7 rfl) fun hl83=>?_
 refine aB (fV 6 rfl rfl rfl rfl rfl j43.1 (by have q1:=j43.2;have q2:=hl83;(try simp only[List.length_set]at q1);(try simp only[List.length_set]at q2);(try simp only[List.length_set]);omega)) rfl ?_
 refine bV (w_ 7 (k:=p3) rfl ⟨j43.1,by first|exact j43.2|simpa using j43.2⟩) fun ho84=>?_
 refine nN 6 7 ⟨j43.1,by first|exact j43.2|simpa using j43.2⟩ rfl rfl rfl rfl rfl (by simp) ho84 rfl ?_
 refine dY ?_
 cases h
 exact AT (List.set (List.set w5 (Int.toNat p2) u78) (Int.toNat p3) u79) rfl rfl .normal (.inr rfl) (aT.ix [6,7] rfl rfl) aD.nil
end
section
def mE (r3:(aL×dZ)) (a11:dZ):Option qG:=
 some ((r3.1,a11))
def qK (U:Nat) (p0:Aj) (r3:(aL×dZ)) (a19:Int×dZ) (ag18:(Int×dZ)->Option qG):Option qG:=
 if a19.1<(List.length a19.2:Int)then(Option.bind (pR U p0.2.1 (wI .i64 (a19.1 - (1:Int)))) fun r23=>(Option.bind (eX U r23 a19.1) fun r26=>(Option.bind (pR U p0.2.2.1 (wI .i64 (a19.1 - (1:Int)))) fun r29=>(Option.bind (eX U r29 (15:Int)) fun r32=>(Option.bind (kT U ((p0.1,p0.2.1,p0.2.2.1,p0.2.2.2.1,p0.2.2.2.2.1,p0.2.2.2.2.2)) ((r3.1,a19.2)) r26 a19.1 (wI .i64 ((1:Int)+r32))) fun r35=>(ag18 ((wI .i64 (a19.1+(1:Int))),r35)))))))else(mE r3 (a19.2))
def kS (U:Nat) (p0:Aj) (p1:Int):Option qG:=
 Option.bind (mI U ((p0.1,p0.2.1,p0.2.2.1,p0.2.2.2.1,p0.2.2.2.2.1,p0.2.2.2.2.2)) p1) fun r3=>(bD (qK U p0 r3) U ((1:Int),r3.2))
theorem QB:aP Tryz.prog 27:=Tryz.call27
theorem wO (U:Nat) {p0:Aj} {p1:Int} (v0:Value)  (v1:Value)  (v2:Value) (r:(aL×dZ)) (h:kS U p0 p1=some r):
  aU Tryz.prog 27 #[Value.agg #[vI (p0.1),v0,v1,v2,vB (p0.2.2.2.2.1),vB (p0.2.2.2.2.2)],vI (p1)] [Sl bL v0 p0.2.1,Sl bL v1 p0.2.2.1,Sl bL v2 p0.2.2.2.1] (fun x:Value×Value×List Value=>Value.agg #[x.1,x.2.1]) (fun x l=>Ar bU x.1 r.1::Ar c_.raw x.2.1 x.2.2::jK bT x.2.2 r.2::l) (fun _ l=>l):=by
 refine aU.of Tryz.func27 rfl Tryz.ntmps27 rfl fun c=>?_
 refine sqR<|aE (aI.box (cs:=[vI (p0.1),v0,v1,v2,vB (p0.2.2.2.2.1),vB (p0.2.2.2.2.2)]) rfl rfl) rfl fun b1=>aE (aI.alloc (cs:=[lX,lX]) rfl rfl) rfl fun b2=>dtN<|sqR<|qkLdA 1 rfl<|qkMove rfl<|bnE h fun r3 w4 h=>aE (aI.callQ Wz (Bt U v0 v1 v2 r3 w4) rfl (nE [0,1,2] rfl)) rfl fun x5=>aE (aI.alloc (cs:=[lX,lX]) rfl rfl) rfl fun b6=>bV (Know.one ((aR (aC.res 1 rfl) cH))) fun ho7=>bV (Know.one (aC.sl (bA (i:=2) (j:=3) rfl rfl bK))) fun ho8=>bF 0 (vs:=[x5.1,x5.2.1]) rfl rfl (cM ho7 (cM ho8 rfl)) rfl rfl rfl<|dtN<|aH<|midL (B:=gH) (fun a11=>mE r3 a11=some r) (fun a11 b12=>[(4,vP b2),(5,vP b6)]) (fun a11 b12=>[bM b6 [x5.1,x5.2.1] 28,Ar bU x5.1 r3.1,Ar c_.raw x5.2.1 b12,jK bT b12 a11,bM b2 [lX,lX] 28]) ?_ ?_
 ·refine sqR<|qkAsg rfl<|dtN<|aN<|loopL (B:=gH) (qK U p0 r3) (fun a19 b20=>[(2,vP b1),(4,vP b2),(5,vP b6),(6,vI (a19.1))]) (fun a19 b20=>[bM b6 [x5.1,x5.2.1] 28,Ar bU x5.1 r3.1,Ar c_.raw x5.2.1 b20,jK bT b20 a19.2,bM b2 [lX,lX] 28,bM b1 [vI (p0.1),v0,v1,v2,vB (p0.2.2.2.2.1),vB (p0.2.2.2.2.2)] 24]) ((1:Int),r3.2) (x5.2.2) h SF (aT.refl _) ?_
  intro k21 a19 b20 h
  refine aH<|sqR<|qkMove rfl<|qkFld rfl<|qkLd 0 rfl<|aB (hZ rfl (bA (i:=2) (j:=3) rfl rfl bK) rfl) rfl<|qkLss rfl<|dtN ?_
  refine eD h rfl (fun h=>?_) fun h=>?_
  ·refine cG<|aH<|aN ?_
   refine JR.start [0,0,0,4,0,16,60,0,252,0,0,1024,0,4096,15868,32252,65020,131071] 17 mixedOrders (by decide +kernel) ?_
   refine JR.open (by exact rfl) ?_
   refine jkLdA 5 rfl<|jkLdA 0 rfl<|jkFld rfl<|jkLd 5 rfl<|jkMove rfl<|jqN rfl (oQ rfl rfl)<|bnE h fun r23 w24 h=>JR.loud rfl rfl rfl (aI.callQ FD (wT U v0 r23 w24) rfl (nE [0] rfl)) rfl (fun x25=>(n_ [([0],[]),([5],[])] rfl)) fun x25=>jqN rfl (jS rfl)<|bnE h fun r26 w27 h=>JR.loud rfl rfl rfl (aI.callQ Av (jI U  r26 w27) rfl .nil) rfl (fun x28=>(n_ [([0],[]),([5],[])] rfl)) fun x28=>jqN rfl (jS rfl)<|jqN rfl (cP rfl rfl rfl rfl rfl)<|bG rfl (aT.cons 5 rfl .nil) .nil (dD 0 rfl rfl rfl rfl rfl) (aK.h (aT.ix [5] rfl rfl) .nil (aK.h (aT.ix [5] rfl rfl) .nil aK.z))<|jqN rfl (jS rfl)<|jqN rfl (oQ rfl rfl)<|bnE h fun r29 w30 h=>JR.loud rfl rfl rfl (aI.callQ FD (wT U v1 r29 w30) rfl (nE [1] rfl)) rfl (fun x31=>(n_ [([0],[]),([5],[])] rfl)) fun x31=>bnE h fun r32 w33 h=>JR.loud rfl rfl rfl (aI.callQ Av (jI U  r32 w33) rfl .nil) rfl (fun x34=>(n_ [([0],[]),([5],[])] rfl)) fun x34=>jqN rfl (sO rfl rfl)<|bN 17 rfl rfl<|bnE h fun r35 w36 h=>aE (BP (Min:=[Ar c_.raw x5.2.1 b20,jK bT b20 a19.2]) (Mr:=[bM b6 [x5.1,x5.2.1] 28,Ar bU x5.1 r3.1,bM b2 [lX,lX] 28,bM b1 [vI (p0.1),v0,v1,v2,vB (p0.2.2.2.2.1),vB (p0.2.2.2.2.2)] 24]) QD (wP U v0 v1 v2 x5.1 x5.2.1 b20 r35 w36) rfl (aT.ix [2,3,0,1,4,5] rfl rfl) (aD.cons (aC.fact 0 rfl) (aD.cons (aC.fact 1 rfl) (aD.cons (aC.fact 2 rfl) (aD.cons (aR (aC.res 1 rfl) cH) .nil)))) (fun _ _=>rfl)) rfl fun x37=>dY<|inT<|aM<|qkMove rfl<|qkAdd rfl<|qkAsg rfl<|dtN ?_
   exact mO ((wI .i64 (a19.1+(1:Int))),r35) (x37) h SF (aT.ix [2,3,0,1,4,5] rfl rfl) (aD.refl _ _)
  refine vT ?_
  exact cE (a19.2) (b20) h SF (aT.ix [0,1,2,3,4] rfl rfl) (aD.refl _ _)
 intro a11 b12 h
 unfold mE at h
 refine sqR<|qkLdA 0 rfl<|bV (Know.one ((aR (aC.res 1 rfl) cH))) fun ho13=>bV (Know.one (aC.sl (bA (i:=2) (j:=3) rfl rfl bK))) fun ho14=>bF 4 (vs:=[x5.1,x5.2.1]) rfl rfl (cM ho13 (cM ho14 rfl)) rfl rfl rfl<|dtN<|aQ ?_
 cases h
 exact fO (x5.1,x5.2.1,b12) rfl rfl (RV.cell 4 rfl rfl rfl rfl) (aT.ix [1,2,3] rfl rfl) aD.nil
end
section
def lO  (a3:Unit):Option (Bool):=
 some (true)
def lP (a7:Int) (ag6:(Int)->Option (Bool)) (a11:Unit):Option (Bool):=
 ag6 (wI .i64 (a7+(1:Int)))
def lQ (a17:Int) (ag16:(Int)->Option (Bool)) (a28:Bool):Option (Bool):=
 if a28=true then(some (false))else(ag16 (wI .i64 (a17+(1:Int))))
def jE (p1:a_) (a7:Int) (a17:Int) (ag16:(Int)->Option (Bool)) (a25:eY):Option (Bool):=
 if(at' (at' p1 a7) a17)<a25.1 then(lQ a17 ag16 (true))else(lQ a17 ag16 (decide (a25.2<(at' (at' p1 a7) a17))))
def dH (p0:dB) (p1:a_) (p2:aL) (a7:Int) (ag6:(Int)->Option (Bool)) (a17:Int) (ag16:(Int)->Option (Bool)):Option (Bool):=
 if a17<(List.length (at' p1 a7):Int)then(ck (0<=a17∧a17<(List.length (at' p1 a7):Int)) (ck (0<=a17∧a17<(List.length p2:Int)) (if(at' p2 a17)=(-1:Int)then(ck (0<=a7∧a7<(List.length p0.2:Int)) (jE p1 a7 a17 ag16 ((-1:Int),(wI .i64 ((List.length (at' p0.2 a7):Int) - (1:Int))))))else(jE p1 a7 a17 ag16 ((0:Int),(at' p2 a17))))))else(lP a7 ag6 (()))
def cR (U:Nat) (p0:dB) (p1:a_) (p2:aL) (a7:Int) (ag6:(Int)->Option (Bool)):Option (Bool):=
 if a7<(List.length p1:Int)then(ck (0<=a7∧a7<(List.length p1:Int)) (if(List.length (at' p1 a7):Int)≠(List.length p2:Int)then(some (false))else(bD (dH p0 p1 p2 a7 ag6) U (0:Int))))else(lO  (()))
def gT (U:Nat) (p0:dB) (p1:a_) (p2:aL):Option (Bool):=
 if(List.length p1:Int)≠(List.length p0.1:Int)then(some (false))else(bD (cR U p0 p1 p2) U (0:Int))
theorem QC:aP Tryz.prog 34:=Tryz.call34
theorem vJ (U:Nat) {p0:dB} {p1:a_} {p2:aL} (v0:Value)  (v1:Value)  (z2:nK)  (v3:Value)  (z4:qU)  (v5:Value) (r:Bool) (h:gT U p0 p1 p2=some r):
  aU Tryz.prog 34 #[Value.agg #[v0,v1],v3,v5] [Sl bL v0 p0.1,S2 aW v1 z2 p0.2,S2 bL v3 z4 p1,Sl bL v5 p2] (fun x:Unit=>vB (r)) (fun x l=>l) (fun _ l=>l):=by
 refine aU.of Tryz.func34 rfl Tryz.ntmps34 rfl fun c=>?_
 refine sqR<|aE (aI.box (cs:=[v0,v1]) rfl rfl) rfl fun b1=>qkAsg rfl<|dtN<|aH<|sqR<|qkMove rfl<|aB (hZ rfl (aC.fact 2 rfl) rfl) rfl<|qkFld rfl<|qkLd 0 rfl<|qkLen (aC.fact 0 rfl) rfl<|qkNeq rfl<|dtN ?_
 refine eD h rfl (fun h=>?_) fun h=>?_
 ·refine sqR<|qkAsg rfl<|dtN<|aQ<|aG ?_
  cases h
  exact uV rfl
 refine cG<|aH<|midU (fun a3=>lO  a3=some r) (fun a3 b4=>[]) (fun a3 b4=>[]) ?_ ?_
 ·refine sqR<|qkMove rfl<|aB (hZ rfl (aC.fact 2 rfl) rfl) rfl<|qkMove rfl<|dtN<|aN<|loopL (cR U p0 p1 p2) (fun a7 b8=>[(2,v5),(3,vP b1),(19,v3),(20,vI (List.length p1:Int)),(21,vI (a7))]) (fun a7 b8=>[bM b1 [v0,v1] 28]) (0:Int) () h SF (aT.refl _) ?_
  intro k9 a7 b8 h
  refine sqR<|qkLss rfl<|dtN<|aH ?_
  refine eD h rfl (fun h=>?_) fun h=>?_
  ·refine cG<|aH<|midU (fun a11=>lP a7 (bD (cR U p0 p1 p2) k9) a11=some r) (fun a11 b12=>[(2,v5),(3,vP b1),(19,v3),(20,vI (List.length p1:Int)),(21,vI (a7))]) (fun a11 b12=>[bM b1 [v0,v1] 28]) ?_ ?_
   ·refine aN<|sqR<|qkMove rfl<|ckE h fun j13 h=>aB (cI rfl rfl (aC.fact 2 rfl) rfl rfl j13) rfl<|aB (cJ rfl (aC.fact 2 rfl) rfl rfl j13) rfl<|qkAsg rfl<|qkAsg rfl<|dtN<|aH<|sqR<|qkMove rfl<|aB (fI rfl (aC.el (aC.fact 2 rfl) j13.1 j13.2) rfl) rfl<|qkMove rfl<|qkLen (aC.fact 3 rfl) rfl<|qkNeq rfl<|dtN ?_
    refine eD h rfl (fun h=>?_) fun h=>?_
    ·refine sqR<|qkAsg rfl<|dtN<|aQ<|aG<|bH<|aG<|aG<|bH<|aG ?_
     cases h
     exact uV rfl
    refine cG<|sqR<|qkMove rfl<|aB (fI rfl (aC.el (aC.fact 2 rfl) j13.1 j13.2) rfl) rfl<|qkMove rfl<|dtN<|aN<|loopL (dH p0 p1 p2 a7 (bD (cR U p0 p1 p2) k9)) (fun a17 b18=>[(2,v5),(3,vP b1),(7,vI (a7)),(19,v3),(20,vI (List.length p1:Int)),(21,vI (a7)),(31,(at' z4 a7).1),(32,vI (List.length (at' p1 a7):Int)),(33,vI (a17))]) (fun a17 b18=>[bM b1 [v0,v1] 28]) (0:Int) () h SF (aT.refl _) ?_
    intro k19 a17 b18 h
    refine sqR<|qkLss rfl<|dtN<|aH ?_
    refine eD h rfl (fun h=>?_) fun h=>?_
    ·refine cG<|aH<|aN<|sqR<|qkMove rfl<|ckE h fun j21 h=>aB (aY rfl rfl (aC.el (aC.fact 2 rfl) j13.1 j13.2) rfl rfl j21) rfl<|aB (bR rfl (aC.el (aC.fact 2 rfl) j13.1 j13.2) rfl rfl rfl dN j21) rfl<|qkAsg rfl<|qkAsg rfl<|dtN<|aH ?_
     refine JR.start [0,0,3,7,0,31] 5 mixedOrders (by decide +kernel) ?_
     refine JR.open (by exact rfl) ?_
     refine jkMove rfl<|jkMove rfl<|ckE h fun j22 h=>bG rfl .nil (mC 3 rfl) (aY rfl rfl (aC.fact 0 rfl) rfl rfl j22) aK.z<|bG rfl .nil (mC 3 rfl) (bR rfl (aC.fact 0 rfl) rfl rfl rfl dN j22) aK.z<|jqN rfl (sP rfl)<|bN 5 rfl rfl<|qkAsg rfl<|dtN<|aH<|midU (fun a25=>jE p1 a7 a17 (bD (dH p0 p1 p2 a7 (bD (cR U p0 p1 p2) k9)) k19) a25=some r) (fun a25 b26=>[(2,v5),(3,vP b1),(7,vI (a7)),(10,vI (at' (at' p1 a7) a17)),(11,vI (a25.1)),(12,vI (a25.2)),(19,v3),(20,vI (List.length p1:Int)),(21,vI (a7)),(31,(at' z4 a7).1),(32,vI (List.length (at' p1 a7):Int)),(33,vI (a17))]) (fun a25 b26=>[bM b1 [v0,v1] 28]) ?_ ?_
     ·refine sqR<|qkMove rfl<|qkEql rfl<|dtN ?_
      refine eD h rfl (fun h=>?_) fun h=>?_
      ·refine JR.start [0,1,0,7,15,31,63,0,255] 8 mixedOrders (by decide +kernel) ?_
       refine JR.open (by exact rfl) ?_
       refine jkFld rfl<|jkLd 0 rfl<|jkMove rfl<|ckE h fun j33 h=>bG rfl .nil (mC 1 rfl) (cI rfl rfl (aC.fact 0 rfl) rfl rfl j33) aK.z<|bG rfl .nil (mC 1 rfl) (cJ rfl (aC.fact 0 rfl) rfl rfl j33) aK.z<|bG rfl .nil (mC 1 rfl) (fI rfl (aC.el (aC.fact 0 rfl) j33.1 j33.2) rfl) aK.z<|jqN rfl (oQ rfl rfl)<|jqN rfl (sP rfl)<|bN 8 rfl rfl<|qkAsg rfl<|dtN ?_
       exact jA ((-1:Int),(wI .i64 ((List.length (at' p0.2 a7):Int) - (1:Int)))) () h SF rfl
      refine cG ?_
      exact jA ((0:Int),(at' p2 a17)) () h SF rfl
     intro a25 b26 h
     refine aH<|midU (fun a28=>lQ a17 (bD (dH p0 p1 p2 a7 (bD (cR U p0 p1 p2) k9)) k19) a28=some r) (fun a28 b29=>[(2,v5),(3,vP b1),(7,vI (a7)),(19,v3),(20,vI (List.length p1:Int)),(21,vI (a7)),(31,(at' z4 a7).1),(32,vI (List.length (at' p1 a7):Int)),(33,vI (a17)),(58,vB (a28))]) (fun a28 b29=>[bM b1 [v0,v1] 28]) ?_ ?_
     ·refine aM<|qkMove rfl<|qkMove rfl<|qkLss rfl<|qkMove rfl ?_
      refine B_ h rfl (fun _ h=>?_) fun _ h=>?_
      ·refine gdSkip rfl<|gdSkip rfl<|gdSkip rfl<|qkPkT rfl<|dtN ?_
       exact jA (true) () h SF rfl
      refine gyMove rfl<|gyMove rfl<|aO rfl (uN rfl rfl) rfl<|qkPkF rfl<|dtN ?_
      exact jA (decide (a25.2<(at' (at' p1 a7) a17))) () h SF rfl
     intro a28 b29 h
     refine Ah h rfl (fun _ h=>?_) fun _ h=>?_
     ·refine sqR<|qkAsg rfl<|dtN<|aQ<|bH<|aG<|aG<|bH<|bH<|aG<|aG<|bH<|aG ?_
      cases h
      exact uV rfl
     refine cS<|inT<|aM<|qkAdd rfl<|qkMove rfl<|dtN ?_
     exact yB (wI .i64 (a17+(1:Int))) () h SF rfl
    refine pG<|dR<|dR<|uK<|inT ?_
    exact jA () (()) h SF rfl
   intro a11 b12 h
   unfold lP at h
   refine aM<|qkAdd rfl<|qkMove rfl<|dtN ?_
   exact yB (wI .i64 (a7+(1:Int))) () h SF rfl
  refine vT ?_
  exact cE () (()) h SF .nil (aD.refl _ _)
 intro a3 b4 h
 unfold lO at h
 refine sqR<|qkAsg rfl<|dtN<|aQ ?_
 cases h
 exact lF rfl
end
section
def oW  (a12:Unit):Option (Bool):=
 some (true)
def oZ (a23:Int) (ag22:(Int)->Option (Bool)) (a27:Unit):Option (Bool):=
 ag22 (wI .i64 (a23+(1:Int)))
def o_ (a32:Int) (ag31:(Int)->Option (Bool)) (a40:Bool):Option (Bool):=
 if a40=true then(some (false))else(ag31 (wI .i64 (a32+(1:Int))))
def fL (p0:dB) (p1:a_) (p2:Int) (a23:Int) (ag22:(Int)->Option (Bool)) (a32:Int) (ag31:(Int)->Option (Bool)):Option (Bool):=
 if a32<(List.length (at' p0.2 a23):Int)then(ck (0<=a32∧a32<(List.length (at' p0.2 a23):Int)) (ck (0<=a23) (if(cQ .u32 (nP .u32 p2 a23) (1:Int))=(0:Int)then(ck (0<=a23∧a23<(List.length p1:Int)) (ck (0<=(0:Int)∧(0:Int)<(List.length (at' p1 a23):Int)) (ck (0<=((at' (at' p0.2 a23) a32).1)∧((at' (at' p0.2 a23) a32).1)<(List.length p1:Int)) (ck (0<=(0:Int)∧(0:Int)<(List.length (at' p1 ((at' (at' p0.2 a23) a32).1)):Int)) (o_ a32 ag31 (decide ((at' (at' p1 a23) (0:Int))=(at' (at' p1 ((at' (at' p0.2 a23) a32).1)) (0:Int)))))))))else(o_ a32 ag31 (false)))))else(oZ a23 ag22 (()))
def eM (U:Nat) (p0:dB) (p1:a_) (p2:Int) (a23:Int) (ag22:(Int)->Option (Bool)):Option (Bool):=
 if a23<(List.length p0.2:Int)then(ck (0<=a23∧a23<(List.length p0.2:Int)) (bD (fL p0 p1 p2 a23 ag22) U (0:Int)))else(oW  (()))
def oY (U:Nat) (p0:dB) (p1:a_) (p2:Int) (a15:Unit):Option (Bool):=
 bD (eM U p0 p1 p2) U (0:Int)
def oV (U:Nat) (p0:dB) (p1:a_) (p2:Int) (a8:Bool):Option (Bool):=
 if a8=true then(some (false))else(oY U p0 p1 p2 (()))
def nF (U:Nat) (p0:dB) (p1:a_) (p2:Int):Option (Bool):=
 Option.bind (e_ U ((p0.1,p0.2))) fun r50=>(if(!r50)=true then(oV U p0 p1 p2 (true))else(Option.bind (gT U ((p0.1,p0.2)) p1 ([(List.length p0.1:Int)])) fun r55=>(oV U p0 p1 p2 ((!r55)))))
theorem Wt:aP Tryz.prog 22:=Tryz.call22
theorem DY (U:Nat) {p0:dB} {p1:a_} {p2:Int} (v0:Value)  (v1:Value)  (z2:nK)  (v3:Value)  (z4:qU) (r:Bool) (h:nF U p0 p1 p2=some r):
  aU Tryz.prog 22 #[Value.agg #[v0,v1],v3,vU (p2)] [Sl bL v0 p0.1,S2 aW v1 z2 p0.2,S2 bL v3 z4 p1] (fun x:Unit=>vB (r)) (fun x l=>l) (fun _ l=>l):=by
 refine aU.of Tryz.func22 rfl Tryz.ntmps22 rfl fun c=>?_
 refine jM Cv<|sqR<|aE (aI.box (cs:=[v0,v1]) rfl rfl) rfl fun b2=>bV (Know.one (aC.sl (aC.fact 2 rfl))) fun ho4=>?_
 refine aE (aI.box (cs:=[v3]) rfl (by rw[iS ho4])) rfl fun b3=>?_
 refine aE (aI.box (cs:=[vU (p2)]) rfl rfl) rfl fun b5=>aE (aI.alloc (cs:=[vB (false)]) rfl rfl) rfl fun b6=>dtN<|aH<|aH<|xL (A:=Bool) (B:=Unit) (fun a8 b9=>⟨47,vH ([]:eC)⟩) (fun a8=>oV U p0 p1 p2 a8=some r) (fun a8 b9=>[(3,vP b2),(4,vP b3),(5,vP b5),(6,vP b6),(21,vB (a8))]) (fun a8 b9=>[bM b6 [vB (false)] 4,bM b5 [vU (p2)] 25,bM b3 [v3] 36,bM b2 [v0,v1] 28,zV ([]:eC)]) (fun a8 b9=>[Sl bL v0 p0.1,S2 aW v1 z2 p0.2,S2 bL v3 z4 p1]) ?_ ?_
 ·refine aM<|qkLdA 3 rfl<|bnE h fun r50 w51 h=>aE (aI.callQ Ix (uH U v0 v1 z2 r50 w51) rfl (nE [0,1] rfl)) rfl fun x52=>aB (qY rfl) rfl<|qkMove rfl ?_
  refine Cq (by exact rfl) (by exact rfl) (fun hp53=>?_) (fun hp53=>?_)
  ·have h:=Rx hp53 h
   refine gdSkip rfl<|gdSkip rfl<|gdSkip rfl<|gdSkip rfl<|gdSkip rfl<|gdSkip rfl<|gdSkip rfl<|gdSkip rfl<|qkPkT rfl<|dtN ?_
   exact nM (true) () rfl h SF (aT.refl _) (aD.refl _ _)
  have h:=Rv hp53 h
  refine aO rfl (nO 3 rfl rfl rfl rfl) rfl<|aO rfl (dD 2 rfl rfl rfl rfl rfl) rfl<|aO rfl (cP rfl rfl rfl rfl rfl) rfl<|aO rfl (dD 3 rfl rfl rfl rfl rfl) rfl<|aO rfl (fI rfl (aC.fact 0 rfl) rfl) rfl<|tZ rfl (bZ (e:=bU) ([(List.length p0.1:Int)]) [(0,vI (List.length p0.1:Int))] rfl rfl rfl rfl (nA (vI (List.length p0.1:Int)) rfl) rfl rfl rfl) rfl fun u54=>bnE h fun r55 w56 h=>tZ rfl (aI.callQ QC (vJ U v0 v1 z2 v3 z4 u54 r55 w56) rfl (aD.cons (aC.fact 0 rfl) (aD.cons (aC.fact 1 rfl) (aD.cons (aC.fact 2 rfl) (aD.cons (aR (aC.res 0 rfl) cH) .nil))))) rfl fun x57=>aO rfl (qY rfl) rfl<|qkPkF rfl<|dtN ?_
  exact nM ((!r55)) () rfl h SF (aT.ix [1,2,3,4,5] rfl rfl) (aD.refl _ _)
 intro a8 b9 h
 refine Ah h rfl (fun _ h=>?_) fun _ h=>?_
 ·refine sqR<|eR 0 rfl rfl rfl rfl rfl rfl<|dtN<|aQ<|aG<|gV (i:=4) (Ds:=([]:eC)) (.inl rfl) rfl ?_
  cases h
  exact fO () rfl rfl (Ao 0 rfl rfl rfl rfl) .nil aD.nil
 refine cG<|aH<|xL (A:=Unit) (B:=eC) (fun a12 b13=>⟨47,vH b13⟩) (fun a12=>oW  a12=some r) (fun a12 b13=>[(6,vP b6)]) (fun a12 b13=>[bM b6 [vB (false)] 4,zV b13]) (fun a12 b13=>[Sl bL v0 p0.1,S2 aW v1 z2 p0.2,S2 bL v3 z4 p1]) ?_ ?_
 ·refine sqR<|qkLdA 3 rfl<|yR (A:=Unit) (B:=Nat) (vs:=[Value.agg #[v0,v1]]) (fun a15=>oY U p0 p1 p2 a15=some r) (fun a15 b16=>Value.func (.func 50) #[] #[vP b16]) (fun a15 b16=>[bM b16 [v0,v1] 28,bM b6 [vB (false)] 4,bM b5 [vU (p2)] 25,bM b3 [v3] 36,zV ([]:eC)]) (fun a15 b16=>[Sl bL v0 p0.1,S2 aW v1 z2 p0.2,S2 bL v3 z4 p1]) (tH.fn (show aP Tryz.prog 35 from Tryz.call35) rfl) Tryz.func35 rfl Tryz.ntmps35 rfl rfl ?_ ?_
  ·refine sqR<|aE (aI.box (cs:=[v0,v1]) rfl rfl) rfl fun b49=>qkAsg rfl<|dtN<|sqR<|aB (tQ (cs:=[.tmp 1]) (vs:=[vP b49]) rfl) rfl<|qkAsg rfl<|dtN<|aQ ?_
   exact uW () (b49) h (.inl rfl) (Dt.r1 rfl (RV.tmp rfl)) rfl (aT.ix [0,1,2,3,5] rfl rfl) (aD.refl _ _)
  intro a15 b16 h
  unfold oY at h
  refine dtN<|aN<|vK (i:=4) (cs:=[vP b16]) ([]:eC) rfl (show aP Tryz.prog 50 from Tryz.call50) rfl Tryz.func50 rfl Tryz.ntmps50 rfl fun ND D18 R19 hR20=>sqR<|qkFld rfl<|qkLd 1 rfl<|aB (hZ rfl (aC.fact 1 rfl) rfl) rfl<|qkMove rfl<|dtN<|aN<|loopL (eM U p0 p1 p2) (fun a23 b24=>[(0,mA ND),(8,v1),(9,vI (List.length p0.2:Int)),(10,vI (a23))]) (fun a23 b24=>[Lp ND R19 LoopState.ready none,bM b16 [v0,v1] 28,bM b6 [vB (false)] 4,bM b5 [vU (p2)] 25,bM b3 [v3] 36,zV (List.cons D18 ([]:eC))]) (0:Int) () h SF (aT.refl _) ?_
  intro k25 a23 b24 h
  refine sqR<|qkLss rfl<|dtN<|aH ?_
  refine eD h rfl (fun h=>?_) fun h=>?_
  ·refine cG<|aH<|midU (fun a27=>oZ a23 (bD (eM U p0 p1 p2) k25) a27=some r) (fun a27 b28=>[(0,mA ND),(8,v1),(9,vI (List.length p0.2:Int)),(10,vI (a23))]) (fun a27 b28=>[Lp ND R19 LoopState.ready none,bM b16 [v0,v1] 28,bM b6 [vB (false)] 4,bM b5 [vU (p2)] 25,bM b3 [v3] 36,zV (List.cons D18 ([]:eC))]) ?_ ?_
   ·refine aN<|sqR<|qkMove rfl<|ckE h fun j29 h=>aB (cI rfl rfl (aC.fact 1 rfl) rfl rfl j29) rfl<|aB (cJ rfl (aC.fact 1 rfl) rfl rfl j29) rfl<|qkAsg rfl<|qkAsg rfl<|dtN<|sqR<|qkMove rfl<|aB (fI rfl (aC.el (aC.fact 1 rfl) j29.1 j29.2) rfl) rfl<|qkMove rfl<|dtN<|aN<|loopL (fL p0 p1 p2 a23 (bD (eM U p0 p1 p2) k25)) (fun a32 b33=>[(0,mA ND),(3,vI (a23)),(8,v1),(9,vI (List.length p0.2:Int)),(10,vI (a23)),(15,(at' z2 a23).1),(16,vI (List.length (at' p0.2 a23):Int)),(17,vI (a32))]) (fun a32 b33=>[Lp ND R19 LoopState.ready none,bM b16 [v0,v1] 28,bM b6 [vB (false)] 4,bM b5 [vU (p2)] 25,bM b3 [v3] 36,zV (List.cons D18 ([]:eC))]) (0:Int) () h SF (aT.refl _) ?_
    intro k34 a32 b33 h
    refine sqR<|qkLss rfl<|dtN<|aH ?_
    refine eD h rfl (fun h=>?_) fun h=>?_
    ·refine cG<|aH<|aN<|sqR<|ckE h fun j36 h=>aB (aY rfl rfl (aC.el (aC.fact 1 rfl) j29.1 j29.2) rfl rfl j36) rfl<|aB (fR (cs:=[vI ((at' (at' p0.2 a23) a32).1),vI ((at' (at' p0.2 a23) a32).2)]) rfl (aC.el (aC.fact 1 rfl) j29.1 j29.2) bK rfl rfl rfl rfl j36) rfl<|aE (aI.alloc (cs:=MM) rfl rfl) rfl fun b37=>bF 0 (vs:=[vI ((at' (at' p0.2 a23) a32).1),vI ((at' (at' p0.2 a23) a32).2)]) rfl rfl rfl rfl rfl rfl<|dtN<|sqR<|qkMove rfl<|qkMove rfl<|qkLdA 0 rfl<|Cr (us:=[vI (a23),Value.agg #[vI ((at' (at' p0.2 a23) a32).1),vI ((at' (at' p0.2 a23) a32).2)]]) (i:=1) hR20 rfl rfl rfl rfl rfl rfl<|sqR<|qkAsg rfl<|dtN<|aM<|aE (aI.alloc (cs:=MM) rfl rfl) rfl fun b38=>bF 0 (vs:=[vI ((at' (at' p0.2 a23) a32).1),vI ((at' (at' p0.2 a23) a32).2)]) rfl rfl rfl rfl rfl rfl<|dtN<|EG (i:=2) rfl<|aN<|aH<|midU (fun a40=>o_ a32 (bD (fL p0 p1 p2 a23 (bD (eM U p0 p1 p2) k25)) k34) a40=some r) (fun a40 b41=>[(6,vP b6),(46,vB (a40))]) (fun a40 b41=>[Lp ND R19 LoopState.busy none,bM b16 [v0,v1] 28,bM b6 [vB (false)] 4,bM b5 [vU (p2)] 25,bM b3 [v3] 36,zV (List.cons D18 ([]:eC))]) ?_ ?_
     ·refine JR.start [0,0,3,7,15,31,63,63,255,511,1023,2047,63,63,8255,28735,61503,127039,258111,524287,1048575] 19 mixedOrders (by decide +kernel) ?_
      refine JR.open (by exact rfl) ?_
      refine jkLd 5 rfl<|jkMove rfl<|ckE h fun j43 h=>jqN rfl (Cz rfl rfl j43)<|jqN rfl (JU rfl rfl)<|jqN rfl (Hp rfl rfl)<|jkMove rfl ?_
      refine Hi (by exact rfl) (by exact rfl) (by exact rfl) (fun hp44=>?_) (fun hp44=>?_)
      ·have h:=Rx hp44 h
       refine kA rfl (aT.cons 6 rfl .nil) .nil (dD 0 rfl rfl rfl rfl rfl) aK.z<|kA rfl .nil .nil (jS rfl) aK.z<|ckE h fun j45 h=>kA rfl .nil (mC 2 rfl) (cI rfl rfl (aC.fact 0 rfl) rfl rfl j45) aK.z<|kA rfl .nil (mC 2 rfl) (cJ rfl (aC.fact 0 rfl) rfl rfl j45) aK.z<|ckE h fun j46 h=>kA rfl .nil (mC 2 rfl) (aY rfl rfl (aC.el (aC.fact 0 rfl) j45.1 j45.2) rfl rfl j46) aK.z<|kA rfl .nil (mC 2 rfl) (bR rfl (aC.el (aC.fact 0 rfl) j45.1 j45.2) rfl rfl rfl dN j46) aK.z<|kA rfl (aT.cons 6 rfl .nil) .nil (dD 0 rfl rfl rfl rfl rfl) aK.z<|kA rfl .nil .nil (cP rfl rfl rfl rfl rfl) aK.z<|kA rfl (aT.cons 0 rfl .nil) .nil (dD 0 rfl rfl rfl rfl rfl) aK.z<|ckE h fun j47 h=>kA rfl .nil (mC 2 rfl) (cI rfl rfl (aC.fact 0 rfl) rfl rfl j47) aK.z<|kA rfl .nil (mC 2 rfl) (cJ rfl (aC.fact 0 rfl) rfl rfl j47) aK.z<|ckE h fun j48 h=>kA rfl .nil (mC 2 rfl) (aY rfl rfl (aC.el (aC.fact 0 rfl) j47.1 j47.2) rfl rfl j48) aK.z<|kA rfl .nil (mC 2 rfl) (bR rfl (aC.el (aC.fact 0 rfl) j47.1 j47.2) rfl rfl rfl dN j48) aK.z<|bN 19 rfl rfl<|aO rfl (Hp rfl rfl) rfl<|qkPkT rfl<|dtN ?_
       exact cE (decide ((at' (at' p1 a23) (0:Int))=(at' (at' p1 ((at' (at' p0.2 a23) a32).1)) (0:Int)))) () h SF (aT.ix [2,3,4,5,6,7] rfl rfl) (aD.refl _ _)
      have h:=XZ hp44 h
      refine dM rfl rfl rfl rfl<|dM rfl rfl rfl rfl<|dM rfl rfl rfl rfl<|dM rfl rfl rfl rfl<|dM rfl rfl rfl rfl<|dM rfl rfl rfl rfl<|dM rfl rfl rfl rfl<|dM rfl rfl rfl rfl<|dM rfl rfl rfl rfl<|dM rfl rfl rfl rfl<|dM rfl rfl rfl rfl<|dM rfl rfl rfl rfl<|dM rfl rfl rfl rfl<|bN 19 rfl rfl<|gdSkip rfl<|qkPkF rfl<|dtN ?_
      exact cE (false) () h SF (aT.ix [2,3,4,5,6,7] rfl rfl) (aD.refl _ _)
     intro a40 b41 h
     refine Ah h rfl (fun _ h=>?_) fun _ h=>?_
     ·refine sqR<|eR 2 rfl rfl rfl rfl rfl rfl<|dtN<|aQ<|bH<|Jx (i:=0) rfl<|aB (qY rfl) rfl<|dtN<|Ij rfl<|aQ<|bH<|aG<|aG<|bH<|bH<|aG<|aG<|bH<|MV (i:=0) (.inl rfl) rfl (Dt.r0 rfl)<|bH<|aG<|gV (i:=5) (Ds:=(List.cons D18 ([]:eC))) (.inl rfl) rfl ?_
      cases h
      exact fO () rfl rfl (Ao 2 rfl rfl rfl rfl) .nil aD.nil
     refine cS<|Bw<|xX (i:=0) rfl<|aB (qY rfl) rfl<|dtN<|yQ rfl<|cS<|inT<|aM<|qkAdd rfl<|qkMove rfl<|dtN ?_
     exact yB (wI .i64 (a32+(1:Int))) () h SF rfl
    refine pG<|dR<|dR<|uK<|inT ?_
    exact jA () (()) h SF rfl
   intro a27 b28 h
   unfold oZ at h
   refine aM<|qkAdd rfl<|qkMove rfl<|dtN ?_
   exact yB (wI .i64 (a23+(1:Int))) () h SF rfl
  refine pG<|dR<|dR<|uK<|Il (i:=0) (.inr rfl) rfl (Dt.r0 rfl)<|inT ?_
  exact nM () (List.cons D18 ([]:eC)) rfl h SF (aT.ix [2,5] rfl rfl) (aD.refl _ _)
 intro a12 b13 h
 unfold oW at h
 refine sqR<|eR 0 rfl rfl rfl rfl rfl rfl<|dtN<|aQ<|gV (i:=1) (Ds:=(b13)) (.inl rfl) rfl ?_
 cases h
 exact fO () rfl rfl (Ao 0 rfl rfl rfl rfl) .nil aD.nil
end
section
def rQ  (a10:aL):Option aL:=
 some (a10)
def oC (a29:Int×aL×aL) (ag28:(Int×aL×aL)->Option aL) (a36:aL×aL):Option aL:=
 ag28 ((wI .i64 (a29.1+(1:Int))),a36.1,a36.2)
def oD (p0:dB) (a16:aL×aL) (ag15:(aL×aL)->Option aL) (a29:Int×aL×aL) (ag28:(Int×aL×aL)->Option aL):Option aL:=
 if a29.1<(List.length (at' p0.2 (at' a16.1 (0:Int))):Int)then(ck (0<=a29.1∧a29.1<(List.length (at' p0.2 (at' a16.1 (0:Int))):Int)) (ck (0<=((at' (at' p0.2 (at' a16.1 (0:Int))) a29.1).1)∧((at' (at' p0.2 (at' a16.1 (0:Int))) a29.1).1)<(List.length a29.2.2:Int)) (if(at' a29.2.2 ((at' (at' p0.2 (at' a16.1 (0:Int))) a29.1).1))<(0:Int)then(ck (0<=(at' a16.1 (0:Int))∧(at' a16.1 (0:Int))<(List.length a29.2.2:Int)) (ck (0<=((at' (at' p0.2 (at' a16.1 (0:Int))) a29.1).1)∧((at' (at' p0.2 (at' a16.1 (0:Int))) a29.1).1)<(List.length a29.2.2:Int)) (ck ((List.length a29.2.1:Int)+(List.length ([((at' (at' p0.2 (at' a16.1 (0:Int))) a29.1).1)]):Int)<=1099511627) (oC a29 ag28 ((a29.2.1++([((at' (at' p0.2 (at' a16.1 (0:Int))) a29.1).1)])),(List.set a29.2.2 (Int.toNat ((at' (at' p0.2 (at' a16.1 (0:Int))) a29.1).1)) (wI .i64 ((at' a29.2.2 (at' a16.1 (0:Int)))+(1:Int)))))))))else(oC a29 ag28 (a29.2.1,a29.2.2)))))else(ag15 (a29.2.1,a29.2.2))
def lI (U:Nat) (p0:dB) (a16:aL×aL) (ag15:(aL×aL)->Option aL):Option aL:=
 if(0:Int)<(List.length a16.1:Int)then(ck (0<=(0:Int)∧(0:Int)<(List.length a16.1:Int)) (ck (0<=(1:Int)∧(1:Int)<=(List.length a16.1:Int)) (ck (0<=(at' a16.1 (0:Int))∧(at' a16.1 (0:Int))<(List.length p0.2:Int)) (bD (oD p0 a16 ag15) U ((0:Int),(List.drop (Int.toNat (1:Int)) a16.1),a16.2)))))else(rQ  (a16.2))
def u_ (U:Nat) (p0:dB) (p1:Int) (a5:aL):Option aL:=
 ck (0<=p1∧p1<(List.length a5:Int)) (bD (lI U p0) U (([p1]),(List.set a5 (Int.toNat p1) (0:Int))))
def vA (U:Nat) (p0:dB) (p1:Int) (a50:mD) (ag49:sJ->Option aL):Option aL:=
 if a50.1<(List.length (List.replicate (Int.toNat (List.length p0.2:Int)) (0:Int)):Int)then(ck (0<=a50.1∧a50.1<(List.length a50.2:Int)) (ag49 ((wI .i64 (a50.1+(1:Int))),(List.set a50.2 (Int.toNat a50.1) (-1:Int)))))else(u_ U p0 p1 (a50.2))
def pP (U:Nat) (p0:dB) (p1:Int):Option aL:=
 ck (0<=(List.length p0.2:Int)∧(List.length p0.2:Int)<=1099511627) (bD (vA U p0 p1) U ((0:Int),(List.replicate (Int.toNat (List.length p0.2:Int)) (0:Int))))
theorem WH:aP Tryz.prog 77:=Tryz.call77
theorem Gz (U:Nat) {p0:dB} {p1:Int} (v0:Value)  (v1:Value)  (z2:nK) (r:aL) (h:pP U p0 p1=some r):
  aU Tryz.prog 77 #[Value.agg #[v0,v1],vI (p1)] [Sl bL v0 p0.1,S2 aW v1 z2 p0.2] (fun x:Value=>x) (fun x l=>Ar bU x r::l) (fun _ l=>l):=by
 refine aU.of Tryz.func77 rfl Tryz.ntmps77 rfl fun c=>?_
 refine sqR<|aE (aI.box (cs:=[v0,v1]) rfl rfl) rfl fun b1=>qkAsg rfl<|dtN<|sqR<|qkFld rfl<|qkLd 0 rfl<|aB (hZ rfl (aC.fact 1 rfl) rfl) rfl<|ckE h fun j2 h=>aE (pI (e:=bU) (0:Int) rfl rfl rfl rfl j2 rfl rfl rfl) rfl fun u3=>qkAsg rfl<|dtN<|aH<|midU (fun a5=>u_ U p0 p1 a5=some r) (fun a5 b6=>[(1,vI (p1)),(2,vP b1),(5,u3)]) (fun a5 b6=>[Ar bU u3 a5,bM b1 [v0,v1] 28]) ?_ ?_
 ·refine sqR<|qkMove rfl<|aB (fI rfl (aR (aC.res 0 rfl) cH) rfl) rfl<|qkMove rfl<|dtN<|aN<|loopL (vA U p0 p1) (fun a50 b51=>[(1,vI (p1)),(2,vP b1),(5,u3),(16,vI (List.length (List.replicate (Int.toNat (List.length p0.2:Int)) (0:Int)):Int)),(17,vI (a50.1))]) (fun a50 b51=>[Ar bU u3 a50.2,bM b1 [v0,v1] 28]) ((0:Int),(List.replicate (Int.toNat (List.length p0.2:Int)) (0:Int))) () h SF (aT.refl _) ?_
  intro k52 a50 b51 h
  refine sqR<|qkLss rfl<|dtN<|aH ?_
  refine eD h rfl (fun h=>?_) fun h=>?_
  ·refine cG<|aH<|aN<|sqR<|qkMove rfl<|qkAsg rfl<|dtN<|aM<|qkMove rfl<|qkMove rfl<|ckE h fun j54 h=>aB (aY rfl rfl (aR (aC.res 0 rfl) cH) rfl rfl j54) rfl<|uL 0 (-1:Int) j54 rfl rfl rfl rfl rfl rfl rfl<|dY<|inT<|aM<|qkAdd rfl<|qkMove rfl<|dtN ?_
   exact yB ((wI .i64 (a50.1+(1:Int))),(List.set a50.2 (Int.toNat a50.1) (-1:Int))) () h SF rfl
  refine vT ?_
  exact jA (a50.2) () h SF rfl
 intro a5 b6 h
 refine sqR<|qkMove rfl<|qkMove rfl<|ckE h fun j7 h=>aB (aY rfl rfl (aR (aC.res 0 rfl) cH) rfl rfl j7) rfl<|uL 0 (0:Int) j7 rfl rfl rfl rfl rfl rfl rfl<|dtN<|sqR<|qkMove rfl<|aE (bZ (e:=bU) ([p1]) [(0,vI (p1))] rfl rfl rfl rfl (nA (vI (p1)) rfl) rfl rfl rfl) rfl fun u8=>qkAsg rfl<|dtN<|aH<|midU (fun a10=>rQ  a10=some r) (fun a10 b11=>[(5,u3)]) (fun a10 b11=>[Ar bU u3 a10]) ?_ ?_
 ·refine aN<|loopL (B:=Value) (lI U p0) (fun a16 b17=>[(2,vP b1),(5,u3),(7,b17)]) (fun a16 b17=>[Ar bU b17 a16.1,Ar bU u3 a16.2,bM b1 [v0,v1] 28]) (([p1]),(List.set a5 (Int.toNat p1) (0:Int))) (u8) h SF (aT.refl _) ?_
  intro k18 a16 b17 h
  refine aH<|sqR<|qkMove rfl<|aB (fI rfl (aR (aC.res 0 rfl) cH) rfl) rfl<|aB (uN rfl rfl) rfl<|dtN ?_
  refine eD h rfl (fun h=>?_) fun h=>?_
  ·refine cG<|aN<|sqR<|qkMove rfl<|ckE h fun j20 h=>aB (aY rfl rfl (aR (aC.res 0 rfl) cH) rfl rfl j20) rfl<|aB (bR rfl (aR (aC.res 0 rfl) cH) rfl rfl rfl dN j20) rfl<|qkAsg rfl<|dtN<|sqR<|qkMove rfl<|ckE h fun j21 h=>aE (Jz 0 j21 rfl rfl rfl rfl rfl rfl) rfl fun u22=>qkAsg rfl<|dtN<|sqR<|qkFld rfl<|qkLd 2 rfl<|qkMove rfl<|ckE h fun j23 h=>aB (cI rfl rfl (aC.fact 1 rfl) rfl rfl j23) rfl<|aB (cJ rfl (aC.fact 1 rfl) rfl rfl j23) rfl<|aB (fI rfl (aC.el (aC.fact 1 rfl) j23.1 j23.2) rfl) rfl<|qkMove rfl<|dtN<|aN<|loopL (B:=Value) (oD p0 a16 (bD (lI U p0) k18)) (fun a29 b30=>[(2,vP b1),(5,u3),(7,b30),(8,vI (at' a16.1 (0:Int))),(41,(at' z2 (at' a16.1 (0:Int))).1),(42,vI (List.length (at' p0.2 (at' a16.1 (0:Int))):Int)),(43,vI (a29.1))]) (fun a29 b30=>[Ar bU b30 a29.2.1,Ar bU u3 a29.2.2,bM b1 [v0,v1] 28]) ((0:Int),(List.drop (Int.toNat (1:Int)) a16.1),a16.2) (u22) h SF (aT.refl _) ?_
   intro k31 a29 b30 h
   refine sqR<|qkLss rfl<|dtN<|aH ?_
   refine eD h rfl (fun h=>?_) fun h=>?_
   ·refine cG<|aH<|midL (B:=Value) (fun a36=>oC a29 (bD (oD p0 a16 (bD (lI U p0) k18)) k31) a36=some r) (fun a36 b37=>[(2,vP b1),(5,u3),(7,b37),(8,vI (at' a16.1 (0:Int))),(41,(at' z2 (at' a16.1 (0:Int))).1),(42,vI (List.length (at' p0.2 (at' a16.1 (0:Int))):Int)),(43,vI (a29.1))]) (fun a36 b37=>[Ar bU b37 a36.1,Ar bU u3 a36.2,bM b1 [v0,v1] 28]) ?_ ?_
    ·refine aN<|sqR<|ckE h fun j38 h=>aB (aY rfl rfl (aC.el (aC.fact 1 rfl) j23.1 j23.2) rfl rfl j38) rfl<|aB (fR (cs:=[vI ((at' (at' p0.2 (at' a16.1 (0:Int))) a29.1).1),vI ((at' (at' p0.2 (at' a16.1 (0:Int))) a29.1).2)]) rfl (aC.el (aC.fact 1 rfl) j23.1 j23.2) bK rfl rfl rfl rfl j38) rfl<|aE (aI.alloc (cs:=MM) rfl rfl) rfl fun b39=>bF 0 (vs:=[vI ((at' (at' p0.2 (at' a16.1 (0:Int))) a29.1).1),vI ((at' (at' p0.2 (at' a16.1 (0:Int))) a29.1).2)]) rfl rfl rfl rfl rfl rfl<|dtN<|sqR<|qkMove rfl<|qkFld rfl<|qkLd 0 rfl<|ckE h fun j40 h=>aB (aY rfl rfl (aR (aC.res 2 rfl) cH) rfl rfl j40) rfl<|aB (bR rfl (aR (aC.res 2 rfl) cH) rfl rfl rfl dN j40) rfl<|qkLss rfl<|dtN ?_
     refine eD h rfl (fun h=>?_) fun h=>?_
     ·refine aH ?_
      refine JR.start [0,0,2,0,0,24,56,120,255,511] 8 mixedOrders (by decide +kernel) ?_
      refine JR.open (by exact rfl) ?_
      refine jkMove rfl<|jkFld rfl<|jkLd 0 rfl<|jkMove rfl<|jkMove rfl<|ckE h fun j42 h=>bG rfl (aT.cons 2 rfl .nil) .nil (aY rfl rfl (aR (aC.res 0 rfl) cH) rfl rfl j42) aK.z<|bG rfl (aT.cons 2 rfl .nil) .nil (bR rfl (aR (aC.res 0 rfl) cH) rfl rfl rfl dN j42) aK.z<|jqN rfl (sO rfl rfl)<|bN 8 rfl rfl<|ckE h fun j43 h=>aB (aY rfl rfl (aR (aC.res 2 rfl) cH) rfl rfl j43) rfl<|uL 2 (wI .i64 ((at' a29.2.2 (at' a16.1 (0:Int)))+(1:Int))) j43 rfl rfl rfl rfl rfl rfl rfl<|dtN<|aM<|qkMove rfl<|qkFld rfl<|qkLd 0 rfl<|aE (bZ (e:=bU) ([((at' (at' p0.2 (at' a16.1 (0:Int))) a29.1).1)]) [(0,vI ((at' (at' p0.2 (at' a16.1 (0:Int))) a29.1).1))] rfl rfl rfl rfl (nA (vI ((at' (at' p0.2 (at' a16.1 (0:Int))) a29.1).1)) rfl) rfl rfl rfl) rfl fun u44=>ckE h fun j46 h=>aE (fP 2 cH rfl rfl rfl (aR (aC.res 0 rfl) cH) rfl rfl rfl rfl j46 rfl) rfl fun u45=>qkAsg rfl<|dY<|inT ?_
      exact cE ((a29.2.1++([((at' (at' p0.2 (at' a16.1 (0:Int))) a29.1).1)])),(List.set a29.2.2 (Int.toNat ((at' (at' p0.2 (at' a16.1 (0:Int))) a29.1).1)) (wI .i64 ((at' a29.2.2 (at' a16.1 (0:Int)))+(1:Int))))) (u45) h SF (aT.ix [2,3,4] rfl rfl) (aD.refl _ _)
     refine cS<|inT ?_
     exact cE (a29.2.1,a29.2.2) (b30) h SF (aT.ix [1,2,3] rfl rfl) (aD.refl _ _)
    intro a36 b37 h
    unfold oC at h
    refine aM<|qkAdd rfl<|qkMove rfl<|dtN ?_
    exact yB ((wI .i64 (a29.1+(1:Int))),a36.1,a36.2) (b37) h SF rfl
   refine pG<|dR<|dR<|uK<|inT ?_
   exact yB (a29.2.1,a29.2.2) (b30) h SF rfl
  refine vT ?_
  exact cE (a16.2) () h SF (aT.ix [1] rfl rfl) (aD.refl _ _)
 intro a10 b11 h
 unfold rQ at h
 refine sqR<|qkMove rfl<|qkAsg rfl<|dtN<|aQ ?_
 cases h
 exact fO (u3) rfl rfl (RV.tmp rfl) (aT.refl _) aD.nil
end
section
def nU  (a6:Unit):Option (Bool):=
 some (true)
def iQ (r8:aL) (a13:Int) (ag12:(Int)->Option (Bool)):Option (Bool):=
 if a13<(List.length r8:Int)then(ck (0<=a13∧a13<(List.length r8:Int)) (if(at' r8 a13)<(0:Int)then(some (false))else(ag12 (wI .i64 (a13+(1:Int))))))else(nU  (()))
def jQ (U:Nat) (p0:dB):Option (Bool):=
 Option.bind (e_ U ((p0.1,p0.2))) fun r2=>(if(!r2)=true then(some (false))else(Option.bind (pP U ((p0.1,p0.2)) (0:Int)) fun r8=>(bD (iQ r8) U (0:Int))))
theorem WB:aP Tryz.prog 49:=Tryz.call49
theorem Dh (U:Nat) {p0:dB} (v0:Value)  (v1:Value)  (z2:nK) (r:Bool) (h:jQ U p0=some r):
  aU Tryz.prog 49 #[Value.agg #[v0,v1]] [Sl bL v0 p0.1,S2 aW v1 z2 p0.2] (fun x:Unit=>vB (r)) (fun x l=>l) (fun _ l=>l):=by
 refine aU.of Tryz.func49 rfl Tryz.ntmps49 rfl fun c=>?_
 refine sqR<|aE (aI.box (cs:=[v0,v1]) rfl rfl) rfl fun b1=>qkAsg rfl<|dtN<|aH<|sqR<|qkLdA 0 rfl<|bnE h fun r2 w3 h=>aE (aI.callQ Ix (uH U v0 v1 z2 r2 w3) rfl (nE [0,1] rfl)) rfl fun x4=>aB (qY rfl) rfl<|dtN ?_
 refine Ah h rfl (fun _ h=>?_) fun _ h=>?_
 ·refine sqR<|qkAsg rfl<|dtN<|aQ<|aG ?_
  cases h
  exact uV rfl
 refine cG<|aH<|midU (fun a6=>nU  a6=some r) (fun a6 b7=>[]) (fun a6 b7=>[]) ?_ ?_
 ·refine sqR<|qkLdA 0 rfl<|bnE h fun r8 w9 h=>aE (aI.callQ WH (Gz U v0 v1 z2 r8 w9) rfl (nE [0,1] rfl)) rfl fun x10=>aB (fI rfl (aR (aC.res 0 rfl) cH) rfl) rfl<|qkMove rfl<|dtN<|aN<|loopL (iQ r8) (fun a13 b14=>[(9,x10),(10,vI (List.length r8:Int)),(11,vI (a13))]) (fun a13 b14=>[Ar bU x10 r8]) (0:Int) () h SF (aT.ix [0] rfl rfl) ?_
  intro k15 a13 b14 h
  refine sqR<|qkLss rfl<|dtN<|aH ?_
  refine eD h rfl (fun h=>?_) fun h=>?_
  ·refine cG<|aH<|aN<|sqR<|ckE h fun j17 h=>aB (aY rfl rfl (aR (aC.res 0 rfl) cH) rfl rfl j17) rfl<|aB (bR rfl (aR (aC.res 0 rfl) cH) rfl rfl rfl dN j17) rfl<|qkAsg rfl<|dtN<|sqR<|qkMove rfl<|qkLss rfl<|dtN ?_
   refine eD h rfl (fun h=>?_) fun h=>?_
   ·refine sqR<|qkAsg rfl<|dtN<|aQ<|bH<|aG<|aG<|bH<|aG ?_
    cases h
    exact uV rfl
   refine cS<|inT<|aM<|qkAdd rfl<|qkMove rfl<|dtN ?_
   exact yB (wI .i64 (a13+(1:Int))) () h SF rfl
  refine vT ?_
  exact cE () (()) h SF .nil (aD.refl _ _)
 intro a6 b7 h
 unfold nU at h
 refine sqR<|qkAsg rfl<|dtN<|aQ ?_
 cases h
 exact lF rfl
end
section
def yI (U:Nat) (p0:dB):Option (Bool):=
 Option.bind (jQ U ((p0.1,p0.2))) fun r2=>(some (r2))
theorem Wx:aP Tryz.prog 33:=Tryz.call33
theorem Pw (U:Nat) {p0:dB} (v0:Value)  (v1:Value)  (z2:nK) (r:Bool) (h:yI U p0=some r):
  aU Tryz.prog 33 #[Value.agg #[v0,v1]] [Sl bL v0 p0.1,S2 aW v1 z2 p0.2] (fun x:Unit=>vB (r)) (fun x l=>l) (fun _ l=>l):=by
 refine aU.of Tryz.func33 rfl Tryz.ntmps33 rfl fun c=>?_
 refine sqR<|aE (aI.box (cs:=[v0,v1]) rfl rfl) rfl fun b1=>qkAsg rfl<|dtN<|sqR<|qkLdA 0 rfl<|bnE h fun r2 w3 h=>aE (aI.callQ WB (Dh U v0 v1 z2 r2 w3) rfl (nE [0,1] rfl)) rfl fun x4=>qkAsg rfl<|dtN<|aQ ?_
 cases h
 exact uV rfl
end
section
def nR  (a17:aL):Option aL:=
 some (a17)
def nS (a23:mD) (ag22:sJ->Option aL) (a29:aL):Option aL:=
 ag22 ((wI .i64 (a23.1+(1:Int))),a29)
def nT (a41:mD) (ag40:sJ->Option aL) (a46:aL):Option aL:=
 ag40 ((wI .i64 (a41.1+(1:Int))),a46)
def kN (a52:mD) (ag51:sJ->Option aL) (a57:aL):Option aL:=
 ag51 ((wI .i64 (a52.1+(1:Int))),a57)
def iN (p0:dB) (p2:Int) (a41:mD) (ag40:sJ->Option aL) (a52:mD) (ag51:sJ->Option aL):Option aL:=
 if a52.1<(List.length (at' p0.2 a41.1):Int)then(ck (0<=a52.1∧a52.1<(List.length (at' p0.2 a41.1):Int)) (ck (0<=a41.1) (if(cQ .u32 (nP .u32 p2 a41.1) (1:Int))=(0:Int)then(ck (0<=a41.1∧a41.1<(List.length a52.2:Int)) (ck (0<=((at' (at' p0.2 a41.1) a52.1).1)∧((at' (at' p0.2 a41.1) a52.1).1)<(List.length a52.2:Int)) (ck (0<=a41.1∧a41.1<(List.length a52.2:Int)) (kN a52 ag51 (List.set a52.2 (Int.toNat a41.1) (min (at' a52.2 a41.1) (wI .i64 ((at' a52.2 ((at' (at' p0.2 a41.1) a52.1).1))+(1:Int)))))))))else(kN a52 ag51 (a52.2)))))else(nT a41 ag40 (a52.2))
def eS (U:Nat) (p0:dB) (p2:Int) (a23:mD) (ag22:sJ->Option aL) (a41:mD) (ag40:sJ->Option aL):Option aL:=
 if a41.1<(List.length p0.2:Int)then(ck (0<=a41.1∧a41.1<(List.length p0.2:Int)) (bD (iN p0 p2 a41 ag40) U ((0:Int),a41.2)))else(nS a23 ag22 (a41.2))
def kM (U:Nat) (p0:dB) (p2:Int) (a23:mD) (ag22:sJ->Option aL) (a32:Unit):Option aL:=
 bD (eS U p0 p2 a23 ag22) U ((0:Int),a23.2)
def cV (U:Nat) (p0:dB) (p2:Int) (a23:mD) (ag22:sJ->Option aL):Option aL:=
 if a23.1<(List.length p0.1:Int)then(kM U p0 p2 a23 ag22 (()))else(nR  (a23.2))
def iL (U:Nat) (p0:dB) (p2:Int) (a13:aL):Option aL:=
 bD (cV U p0 p2) U ((0:Int),a13)
def iM (a71:mD) (ag70:sJ->Option aL) (a76:aL):Option aL:=
 ag70 ((wI .i64 (a71.1+(1:Int))),a76)
def iO (U:Nat) (p0:dB) (p1:a_) (p2:Int) (a71:mD) (ag70:sJ->Option aL):Option aL:=
 if a71.1<(List.length (List.replicate (Int.toNat (List.length p0.1:Int)) (0:Int)):Int)then(ck (0<=a71.1) (if(cQ .u32 (nP .u32 p2 a71.1) (1:Int))=(1:Int)then(ck (0<=a71.1∧a71.1<(List.length p1:Int)) (ck (0<=(0:Int)∧(0:Int)<(List.length (at' p1 a71.1):Int)) (ck (0<=a71.1∧a71.1<(List.length a71.2:Int)) (iM a71 ag70 (List.set a71.2 (Int.toNat a71.1) (at' (at' p1 a71.1) (0:Int)))))))else(if(0:Int)<a71.1 then(ck (0<=a71.1∧a71.1<(List.length a71.2:Int)) (iM a71 ag70 (List.set a71.2 (Int.toNat a71.1) (List.length p0.1:Int))))else(iM a71 ag70 (a71.2)))))else(iL U p0 p2 (a71.2))
def nQ (U:Nat) (p0:dB) (p1:a_) (p2:Int) (a5:Bool):Option aL:=
 if a5=true then(some ([]:aL))else(ck (0<=(List.length p0.1:Int)∧(List.length p0.1:Int)<=1099511627) (bD (iO U p0 p1 p2) U ((0:Int),(List.replicate (Int.toNat (List.length p0.1:Int)) (0:Int)))))
def jP (U:Nat) (p0:dB) (p1:a_) (p2:Int):Option aL:=
 Option.bind (yI U ((p0.1,p0.2))) fun r85=>(if(!r85)=true then(nQ U p0 p1 p2 (true))else(Option.bind (gT U ((p0.1,p0.2)) p1 ([(List.length p0.1:Int),(-1:Int)])) fun r90=>(nQ U p0 p1 p2 ((!r90)))))
theorem Qz:aP Tryz.prog 12:=Tryz.call12
theorem xJ (U:Nat) {p0:dB} {p1:a_} {p2:Int} (v0:Value)  (v1:Value)  (z2:nK)  (v3:Value)  (z4:qU) (r:aL) (h:jP U p0 p1 p2=some r):
  aU Tryz.prog 12 #[Value.agg #[v0,v1],v3,vU (p2)] [Sl bL v0 p0.1,S2 aW v1 z2 p0.2,S2 bL v3 z4 p1] (fun x:Value=>x) (fun x l=>Ar bU x r::l) (fun _ l=>l):=by
 refine aU.of Tryz.func12 rfl Tryz.ntmps12 rfl fun c=>?_
 refine jM Cv<|sqR<|aE (aI.box (cs:=[v0,v1]) rfl rfl) rfl fun b2=>aE (aI.box (cs:=[vU (p2)]) rfl rfl) rfl fun b3=>qkAsg rfl<|dtN<|sqR<|qkFld rfl<|qkLd 1 rfl<|qkLen (aC.fact 0 rfl) rfl<|qkAsg rfl<|dtN<|aH<|aH<|xL (A:=Bool) (B:=Unit) (fun a5 b6=>⟨84,vH ([]:eC)⟩) (fun a5=>nQ U p0 p1 p2 a5=some r) (fun a5 b6=>[(1,v3),(3,vP b2),(5,vP b3),(6,lX),(7,vI (List.length p0.1:Int)),(25,vB (a5))]) (fun a5 b6=>[bM b3 [vU (p2)] 25,bM b2 [v0,v1] 28,zV ([]:eC)]) (fun a5 b6=>[Sl bL v0 p0.1,S2 aW v1 z2 p0.2,S2 bL v3 z4 p1]) ?_ ?_
 ·refine aM<|qkLdA 1 rfl<|bnE h fun r85 w86 h=>aE (aI.callQ Wx (Pw U v0 v1 z2 r85 w86) rfl (nE [0,1] rfl)) rfl fun x87=>aB (qY rfl) rfl<|qkMove rfl ?_
  refine Cq (by exact rfl) (by exact rfl) (fun hp88=>?_) (fun hp88=>?_)
  ·have h:=Rx hp88 h
   refine gdSkip rfl<|gdSkip rfl<|gdSkip rfl<|gdSkip rfl<|gdSkip rfl<|gdSkip rfl<|qkPkT rfl<|dtN ?_
   exact nM (true) () rfl h SF (aT.refl _) (aD.refl _ _)
  have h:=Rv hp88 h
  refine aO rfl (nO 1 rfl rfl rfl rfl) rfl<|gyMove rfl<|gyMove rfl<|tZ rfl (bZ (e:=bU) ([(List.length p0.1:Int),(-1:Int)]) [(0,vI (List.length p0.1:Int)),(1,vI (-1:Int))] rfl rfl rfl rfl (Ko (vI (List.length p0.1:Int)) (vI (-1:Int)) rfl rfl) rfl rfl rfl) rfl fun u89=>bnE h fun r90 w91 h=>tZ rfl (aI.callQ QC (vJ U v0 v1 z2 v3 z4 u89 r90 w91) rfl (aD.cons (aC.fact 0 rfl) (aD.cons (aC.fact 1 rfl) (aD.cons (aC.fact 2 rfl) (aD.cons (aR (aC.res 0 rfl) cH) .nil))))) rfl fun x92=>aO rfl (qY rfl) rfl<|qkPkF rfl<|dtN ?_
  exact nM ((!r90)) () rfl h SF (aT.ix [1,2,3] rfl rfl) (aD.refl _ _)
 intro a5 b6 h
 refine Ah h rfl (fun _ h=>?_) fun _ h=>?_
 ·refine sqR<|qkAsg rfl<|dtN<|aQ<|aG<|gV (i:=2) (Ds:=([]:eC)) (.inl rfl) rfl<|jM (iI bU) ?_
  cases h
  exact fO (lX) rfl rfl (RV.tmp rfl) (aT.ix [0] rfl rfl) aD.nil
 refine cG<|sqR<|qkMove rfl<|ckE h fun j8 h=>aE (pI (e:=bU) (0:Int) rfl rfl rfl rfl j8 rfl rfl rfl) rfl fun u9=>aE (aI.alloc (cs:=[lX]) rfl rfl) rfl fun b10=>bV (Know.one ((aR (aC.res 1 rfl) cH))) fun ho11=>eR 0 rfl rfl ho11 rfl rfl rfl<|dtN<|aH<|xL (A:=aL) (B:=Unit) (fun a13 b14=>⟨84,vH ([]:eC)⟩) (fun a13=>iL U p0 p2 a13=some r) (fun a13 b14=>[(3,vP b2),(5,vP b3),(6,lX),(7,vI (List.length p0.1:Int)),(8,vP b10)]) (fun a13 b14=>[bM b10 [u9] 22,Ar bU u9 a13,bM b3 [vU (p2)] 25,bM b2 [v0,v1] 28,zV ([]:eC)]) (fun a13 b14=>[Sl bL v0 p0.1,S2 aW v1 z2 p0.2,S2 bL v3 z4 p1]) ?_ ?_
 ·refine sqR<|qkLd 0 rfl<|aB (fI rfl (aR (aC.res 1 rfl) cH) rfl) rfl<|qkMove rfl<|dtN<|aN<|MS (A:=mD) (B:=Unit) (fun a71 b72=>⟨84,vH ([]:eC)⟩) (iO U p0 p1 p2) (fun a71 b72=>[(1,v3),(3,vP b2),(5,vP b3),(6,lX),(7,vI (List.length p0.1:Int)),(8,vP b10),(29,vI (List.length (List.replicate (Int.toNat (List.length p0.1:Int)) (0:Int)):Int)),(30,vI (a71.1))]) (fun a71 b72=>[bM b10 [u9] 22,Ar bU u9 a71.2,bM b3 [vU (p2)] 25,bM b2 [v0,v1] 28,zV ([]:eC)]) (fun a71 b72=>[Sl bL v0 p0.1,S2 aW v1 z2 p0.2,S2 bL v3 z4 p1]) ((0:Int),(List.replicate (Int.toNat (List.length p0.1:Int)) (0:Int))) () rfl h SF (aT.refl _) (aD.refl _ _) ?_
  intro k73 a71 b72 h
  refine sqR<|qkLss rfl<|dtN<|aH ?_
  refine eD h rfl (fun h=>?_) fun h=>?_
  ·refine cG<|aH<|xL (A:=aL) (B:=Unit) (fun a76 b77=>⟨84,vH ([]:eC)⟩) (fun a76=>iM a71 (bD (iO U p0 p1 p2) k73) a76=some r) (fun a76 b77=>[(1,v3),(3,vP b2),(5,vP b3),(6,lX),(7,vI (List.length p0.1:Int)),(8,vP b10),(29,vI (List.length (List.replicate (Int.toNat (List.length p0.1:Int)) (0:Int)):Int)),(30,vI (a71.1))]) (fun a76 b77=>[bM b10 [u9] 22,Ar bU u9 a76,bM b3 [vU (p2)] 25,bM b2 [v0,v1] 28,zV ([]:eC)]) (fun a76 b77=>[Sl bL v0 p0.1,S2 aW v1 z2 p0.2,S2 bL v3 z4 p1]) ?_ ?_
   ·refine aN<|sqR<|qkMove rfl<|qkAsg rfl<|dtN<|aN<|sqR<|qkLd 2 rfl<|qkMove rfl<|ckE h fun j78 h=>aB (Cz rfl rfl j78) rfl<|qkAnd rfl<|qkEql rfl<|qkAsg rfl<|dtN ?_
    refine eD h rfl (fun h=>?_) fun h=>?_
    ·refine JR.start [0,0,0,0,12,28,60,124,255,511] 8 mixedOrders (by decide +kernel) ?_
     refine JR.open (by exact rfl) ?_
     refine jkLd 0 rfl<|jkMove rfl<|jkMove rfl<|jkMove rfl<|ckE h fun j80 h=>bG rfl .nil (mC 2 rfl) (cI rfl rfl (aC.fact 0 rfl) rfl rfl j80) aK.z<|bG rfl .nil (mC 2 rfl) (cJ rfl (aC.fact 0 rfl) rfl rfl j80) aK.z<|ckE h fun j81 h=>bG rfl .nil (mC 2 rfl) (aY rfl rfl (aC.el (aC.fact 0 rfl) j80.1 j80.2) rfl rfl j81) aK.z<|bG rfl .nil (mC 2 rfl) (bR rfl (aC.el (aC.fact 0 rfl) j80.1 j80.2) rfl rfl rfl dN j81) aK.z<|bN 8 rfl rfl<|ckE h fun j82 h=>aB (aY rfl rfl (aR (aC.res 1 rfl) cH) rfl rfl j82) rfl<|uL 1 (at' (at' p1 a71.1) (0:Int)) j82 rfl rfl rfl rfl rfl rfl rfl<|dY<|Bw<|inT ?_
     exact nM (List.set a71.2 (Int.toNat a71.1) (at' (at' p1 a71.1) (0:Int))) () rfl h SF (aT.refl _) (aD.refl _ _)
    refine sqR<|qkMove rfl<|aB (uN rfl rfl) rfl<|qkAsg rfl<|dtN ?_
    refine eD h rfl (fun h=>?_) fun h=>?_
    ·refine aM<|qkLd 0 rfl<|qkMove rfl<|qkMove rfl<|ckE h fun j84 h=>aB (aY rfl rfl (aR (aC.res 1 rfl) cH) rfl rfl j84) rfl<|uL 1 (List.length p0.1:Int) j84 rfl rfl rfl rfl rfl rfl rfl<|dY<|Bw<|inT ?_
     exact nM (List.set a71.2 (Int.toNat a71.1) (List.length p0.1:Int)) () rfl h SF (aT.refl _) (aD.refl _ _)
    refine cS<|Bw<|inT ?_
    exact nM (a71.2) () rfl h SF (aT.refl _) (aD.refl _ _)
   intro a76 b77 h
   unfold iM at h
   refine aM<|qkAdd rfl<|qkMove rfl<|dtN ?_
   exact Ju ((wI .i64 (a71.1+(1:Int))),a76) () rfl h SF (aT.refl _) (aD.refl _ _)
  refine vT ?_
  exact nM (a71.2) () rfl h SF (aT.refl _) (aD.refl _ _)
 intro a13 b14 h
 unfold iL at h
 refine aH<|xL (A:=aL) (B:=eC) (fun a17 b18=>⟨84,vH b18⟩) (fun a17=>nR  a17=some r) (fun a17 b18=>[(8,vP b10)]) (fun a17 b18=>[bM b10 [u9] 22,Ar bU u9 a17,zV b18]) (fun a17 b18=>[Sl bL v0 p0.1,S2 aW v1 z2 p0.2,S2 bL v3 z4 p1]) ?_ ?_
 ·refine sqR<|qkMove rfl<|qkMove rfl<|dtN<|aN<|MS (A:=mD) (B:=eC) (fun a23 b24=>⟨84,vH b24⟩) (cV U p0 p2) (fun a23 b24=>[(3,vP b2),(5,vP b3),(6,lX),(8,vP b10),(56,vI (List.length p0.1:Int)),(57,vI (a23.1))]) (fun a23 b24=>[bM b10 [u9] 22,Ar bU u9 a23.2,bM b3 [vU (p2)] 25,bM b2 [v0,v1] 28,zV b24]) (fun a23 b24=>[Sl bL v0 p0.1,S2 aW v1 z2 p0.2,S2 bL v3 z4 p1]) ((0:Int),a13) ([]:eC) rfl h SF (aT.refl _) (aD.refl _ _) ?_
  intro k25 a23 b24 h
  refine sqR<|qkLss rfl<|dtN<|aH ?_
  refine eD h rfl (fun h=>?_) fun h=>?_
  ·refine cG<|aH<|xL (A:=aL) (B:=eC) (fun a29 b30=>⟨84,vH b30⟩) (fun a29=>nS a23 (bD (cV U p0 p2) k25) a29=some r) (fun a29 b30=>[(3,vP b2),(5,vP b3),(6,lX),(8,vP b10),(56,vI (List.length p0.1:Int)),(57,vI (a23.1))]) (fun a29 b30=>[bM b10 [u9] 22,Ar bU u9 a29,bM b3 [vU (p2)] 25,bM b2 [v0,v1] 28,zV b30]) (fun a29 b30=>[Sl bL v0 p0.1,S2 aW v1 z2 p0.2,S2 bL v3 z4 p1]) ?_ ?_
   ·refine aN<|sqR<|qkLdA 3 rfl<|yR (A:=Unit) (B:=Nat) (vs:=[Value.agg #[v0,v1]]) (fun a32=>kM U p0 p2 a23 (bD (cV U p0 p2) k25) a32=some r) (fun a32 b33=>Value.func (.func 50) #[] #[vP b33]) (fun a32 b33=>[bM b33 [v0,v1] 28,bM b10 [u9] 22,Ar bU u9 a23.2,bM b3 [vU (p2)] 25,bM b2 [v0,v1] 28,zV b24]) (fun a32 b33=>[Sl bL v0 p0.1,S2 aW v1 z2 p0.2,S2 bL v3 z4 p1]) (tH.fn (show aP Tryz.prog 35 from Tryz.call35) rfl) Tryz.func35 rfl Tryz.ntmps35 rfl rfl ?_ ?_
    ·refine sqR<|aE (aI.box (cs:=[v0,v1]) rfl rfl) rfl fun b67=>qkAsg rfl<|dtN<|sqR<|aB (tQ (cs:=[.tmp 1]) (vs:=[vP b67]) rfl) rfl<|qkAsg rfl<|dtN<|aQ ?_
     exact uW () (b67) h (.inl rfl) (Dt.r1 rfl (RV.tmp rfl)) rfl (aT.refl _) (aD.refl _ _)
    intro a32 b33 h
    unfold kM at h
    refine dtN<|aN<|vK (i:=5) (cs:=[vP b33]) b24 rfl (show aP Tryz.prog 50 from Tryz.call50) rfl Tryz.func50 rfl Tryz.ntmps50 rfl fun Tf D35 R36 hR37=>sqR<|qkFld rfl<|qkLd 1 rfl<|aB (hZ rfl (aC.fact 1 rfl) rfl) rfl<|qkMove rfl<|dtN<|aN<|loopL (eS U p0 p2 a23 (bD (cV U p0 p2) k25)) (fun a41 b42=>[(0,mA Tf),(8,v1),(9,vI (List.length p0.2:Int)),(10,vI (a41.1))]) (fun a41 b42=>[Lp Tf R36 LoopState.ready none,bM b33 [v0,v1] 28,bM b10 [u9] 22,Ar bU u9 a41.2,bM b3 [vU (p2)] 25,bM b2 [v0,v1] 28,zV (List.cons D35 b24)]) ((0:Int),a23.2) () h SF (aT.refl _) ?_
    intro k43 a41 b42 h
    refine sqR<|qkLss rfl<|dtN<|aH ?_
    refine eD h rfl (fun h=>?_) fun h=>?_
    ·refine cG<|aH<|midU (fun a46=>nT a41 (bD (eS U p0 p2 a23 (bD (cV U p0 p2) k25)) k43) a46=some r) (fun a46 b47=>[(0,mA Tf),(8,v1),(9,vI (List.length p0.2:Int)),(10,vI (a41.1))]) (fun a46 b47=>[Lp Tf R36 LoopState.ready none,bM b33 [v0,v1] 28,bM b10 [u9] 22,Ar bU u9 a46,bM b3 [vU (p2)] 25,bM b2 [v0,v1] 28,zV (List.cons D35 b24)]) ?_ ?_
     ·refine aN<|sqR<|qkMove rfl<|ckE h fun j48 h=>aB (cI rfl rfl (aC.fact 1 rfl) rfl rfl j48) rfl<|aB (cJ rfl (aC.fact 1 rfl) rfl rfl j48) rfl<|qkAsg rfl<|qkAsg rfl<|dtN<|sqR<|qkMove rfl<|aB (fI rfl (aC.el (aC.fact 1 rfl) j48.1 j48.2) rfl) rfl<|qkMove rfl<|dtN<|aN<|loopL (iN p0 p2 a41 (bD (eS U p0 p2 a23 (bD (cV U p0 p2) k25)) k43)) (fun a52 b53=>[(0,mA Tf),(3,vI (a41.1)),(8,v1),(9,vI (List.length p0.2:Int)),(10,vI (a41.1)),(15,(at' z2 a41.1).1),(16,vI (List.length (at' p0.2 a41.1):Int)),(17,vI (a52.1))]) (fun a52 b53=>[Lp Tf R36 LoopState.ready none,bM b33 [v0,v1] 28,bM b10 [u9] 22,Ar bU u9 a52.2,bM b3 [vU (p2)] 25,bM b2 [v0,v1] 28,zV (List.cons D35 b24)]) ((0:Int),a41.2) () h SF (aT.refl _) ?_
      intro k54 a52 b53 h
      refine sqR<|qkLss rfl<|dtN<|aH ?_
      refine eD h rfl (fun h=>?_) fun h=>?_
      ·refine cG<|aH<|midU (fun a57=>kN a52 (bD (iN p0 p2 a41 (bD (eS U p0 p2 a23 (bD (cV U p0 p2) k25)) k43)) k54) a57=some r) (fun a57 b58=>[(0,mA Tf),(3,vI (a41.1)),(8,v1),(9,vI (List.length p0.2:Int)),(10,vI (a41.1)),(15,(at' z2 a41.1).1),(16,vI (List.length (at' p0.2 a41.1):Int)),(17,vI (a52.1))]) (fun a57 b58=>[Lp Tf R36 LoopState.ready none,bM b33 [v0,v1] 28,bM b10 [u9] 22,Ar bU u9 a57,bM b3 [vU (p2)] 25,bM b2 [v0,v1] 28,zV (List.cons D35 b24)]) ?_ ?_
       ·refine aN<|sqR<|ckE h fun j59 h=>aB (aY rfl rfl (aC.el (aC.fact 1 rfl) j48.1 j48.2) rfl rfl j59) rfl<|aB (fR (cs:=[vI ((at' (at' p0.2 a41.1) a52.1).1),vI ((at' (at' p0.2 a41.1) a52.1).2)]) rfl (aC.el (aC.fact 1 rfl) j48.1 j48.2) bK rfl rfl rfl rfl j59) rfl<|aE (aI.alloc (cs:=MM) rfl rfl) rfl fun b60=>bF 0 (vs:=[vI ((at' (at' p0.2 a41.1) a52.1).1),vI ((at' (at' p0.2 a41.1) a52.1).2)]) rfl rfl rfl rfl rfl rfl<|dtN<|sqR<|qkMove rfl<|qkMove rfl<|qkLdA 0 rfl<|Cr (us:=[vI (a41.1),Value.agg #[vI ((at' (at' p0.2 a41.1) a52.1).1),vI ((at' (at' p0.2 a41.1) a52.1).2)]]) (i:=1) hR37 rfl rfl rfl rfl rfl rfl<|sqR<|qkAsg rfl<|dtN<|aM<|aE (aI.alloc (cs:=MM) rfl rfl) rfl fun b61=>bF 0 (vs:=[vI ((at' (at' p0.2 a41.1) a52.1).1),vI ((at' (at' p0.2 a41.1) a52.1).2)]) rfl rfl rfl rfl rfl rfl<|dtN<|EG (i:=2) rfl<|aN<|sqR<|qkLd 6 rfl<|qkMove rfl<|ckE h fun j62 h=>aB (Cz rfl rfl j62) rfl<|qkAnd rfl<|qkEql rfl<|dtN ?_
        refine eD h rfl (fun h=>?_) fun h=>?_
        ·refine JR.start [0,0,0,0,12,28,0,0,128,448,960,1984,4092,8191,16383] 13 mixedOrders (by decide +kernel) ?_
         refine JR.open (by exact rfl) ?_
         refine jkLd 4 rfl<|jkMove rfl<|jkLd 4 rfl<|jkMove rfl<|ckE h fun j64 h=>bG rfl (aT.cons 5 rfl .nil) .nil (aY rfl rfl (aR (aC.res 0 rfl) cH) rfl rfl j64) aK.z<|bG rfl (aT.cons 5 rfl .nil) .nil (bR rfl (aR (aC.res 0 rfl) cH) rfl rfl rfl dN j64) aK.z<|jkLd 4 rfl<|jkFld rfl<|jkLd 0 rfl<|ckE h fun j65 h=>bG rfl (aT.cons 5 rfl .nil) .nil (aY rfl rfl (aR (aC.res 0 rfl) cH) rfl rfl j65) aK.z<|bG rfl (aT.cons 5 rfl .nil) .nil (bR rfl (aR (aC.res 0 rfl) cH) rfl rfl rfl dN j65) aK.z<|jqN rfl (sO rfl rfl)<|jqN rfl (Qp rfl rfl)<|bN 13 rfl rfl<|ckE h fun j66 h=>aB (aY rfl rfl (aR (aC.res 5 rfl) cH) rfl rfl j66) rfl<|uL 5 (min (at' a52.2 a41.1) (wI .i64 ((at' a52.2 ((at' (at' p0.2 a41.1) a52.1).1))+(1:Int)))) j66 rfl rfl rfl rfl rfl rfl rfl<|dY<|Bw<|xX (i:=2) rfl<|aB (qY rfl) rfl<|dtN<|yQ rfl<|cS<|inT ?_
         exact cE (List.set a52.2 (Int.toNat a41.1) (min (at' a52.2 a41.1) (wI .i64 ((at' a52.2 ((at' (at' p0.2 a41.1) a52.1).1))+(1:Int))))) () h SF (aT.ix [2,3,4,5,6,7,8] rfl rfl) (aD.refl _ _)
        refine cS<|Bw<|xX (i:=2) rfl<|aB (qY rfl) rfl<|dtN<|yQ rfl<|cS<|inT ?_
        exact cE (a52.2) () h SF (aT.ix [2,3,4,5,6,7,8] rfl rfl) (aD.refl _ _)
       intro a57 b58 h
       unfold kN at h
       refine aM<|qkAdd rfl<|qkMove rfl<|dtN ?_
       exact yB ((wI .i64 (a52.1+(1:Int))),a57) () h SF rfl
      refine pG<|dR<|dR<|uK<|inT ?_
      exact jA (a52.2) () h SF rfl
     intro a46 b47 h
     unfold nT at h
     refine aM<|qkAdd rfl<|qkMove rfl<|dtN ?_
     exact yB ((wI .i64 (a41.1+(1:Int))),a46) () h SF rfl
    refine pG<|dR<|dR<|uK<|Il (i:=0) (.inr rfl) rfl (Dt.r0 rfl)<|Bw<|inT ?_
    exact nM (a41.2) (List.cons D35 b24) rfl h SF (aT.ix [2,3,4,5,6] rfl rfl) (aD.refl _ _)
   intro a29 b30 h
   unfold nS at h
   refine aM<|qkAdd rfl<|qkMove rfl<|dtN ?_
   exact Ju ((wI .i64 (a23.1+(1:Int))),a29) (b30) rfl h SF (aT.refl _) (aD.refl _ _)
  refine vT ?_
  exact nM (a23.2) (b24) rfl h SF (aT.ix [0,1,4] rfl rfl) (aD.refl _ _)
 intro a17 b18 h
 unfold nR at h
 refine sqR<|qkLd 0 rfl<|qkAsg rfl<|dtN<|aQ<|gV (i:=2) (Ds:=(b18)) (.inl rfl) rfl ?_
 cases h
 exact fO (u9) rfl rfl (RV.tmp rfl) (aT.ix [1] rfl rfl) aD.nil
end
end Go.Proofs.YtigggfnchamobaaGreatDoor
end
section
set_option maxRecDepth 100000
namespace Go.Gx
open Go Go.Sx Go.Proofs Go.Proofs.YtigggfnchamobaaGreatDoor
noncomputable section
def YW (us:List GV) (H:GH):OR:=a1 us fun x0=>ob (IB H x0) fun p0=>ob (e_ 1000 p0) fun r=>Sb r H
def YV (us:List GV) (H:GH):OR:=a2 us fun x0 x1=>ob (YK H x0) fun p0=>ob (YL .i64 x1) fun p1=>ob (kS 1000 p0 p1) fun r=>Mu r H
def YU (us:List GV) (H:GH):OR:=a3 us fun x0 x1 x2=>ob (IB H x0) fun p0=>ob (QT H x1) fun p1=>ob (YL .u32 x2) fun p2=>ob (nF 1000 p0 p1 p2) fun r=>Sb r H
def YT (us:List GV) (H:GH):OR:=a3 us fun x0 x1 x2=>ob (IB H x0) fun p0=>ob (QT H x1) fun p1=>ob (YL .u32 x2) fun p2=>ob (jP 1000 p0 p1 p2) fun r=>Sc r H
def Rp (f:Nat) (us:List GV) (H:GH):Option (GV×GH):=bif Nat.beq f 40 then YW us H else bif Nat.beq f 27 then YV us H else bif Nat.beq f 22 then YU us H else bif Nat.beq f 12 then YT us H else none
abbrev gl:Nat->uJ:=glb 0 (cellsOf Fg uU)
def gp:GP:=⟨tD,46,Rp,Ro 162⟩
section
variable {T:Nat} {w0:dL (gl T)} {w:World} {ρ:cN} {H H':GH} {g:GV} {us:List GV} {vs:List Value}
theorem UM (h:YW us H=some (g,H')) (R:d_ w0 ρ H w) (hr:mQ ρ us vs):iU Tryz.prog w0 ρ 40 vs w g H':=by
 obtain⟨x0,rfl,h⟩:=MY h
 obtain⟨p0,hp0,h⟩:=aA.1 h
 obtain⟨r,hm,h⟩:=aA.1 h
 obtain⟨V0,rfl,hv0⟩:=hr.one
 obtain⟨w0a,w0b,z0,rfl,f0a,f0b⟩:=Dy R hv0 hp0
 obtain⟨rfl,rfl⟩:=Gl h
 exact FY Ix (uH 1000 (p0:=p0) w0a w0b z0 r hm) R (List.forall_mem_cons.2 ⟨f0a,List.forall_mem_cons.2 ⟨f0b,fun f hf=>absurd hf List.not_mem_nil⟩⟩) fun ρ=> .bool _
theorem UL (h:YV us H=some (g,H')) (R:d_ w0 ρ H w) (hr:mQ ρ us vs):iU Tryz.prog w0 ρ 27 vs w g H':=by
 obtain⟨x0,x1,rfl,h⟩:=MZ h
 obtain⟨p0,hp0,h⟩:=aA.1 h
 obtain⟨p1,hp1,h⟩:=aA.1 h
 obtain⟨r,hm,h⟩:=aA.1 h
 obtain⟨V0,vs,rfl,hv0,hr⟩:=hr.of_cons
 obtain⟨V1,rfl,hv1⟩:=hr.one
 obtain⟨w0a,w0b,w0c,rfl,f0a,f0b,f0c⟩:=Uv R hv0 hp0
 obtain rfl:=IC hv1 hp1
 obtain⟨h1,h2,h3,rfl,rfl⟩:=KB h
 exact Mi VL YP h1 h2 h3 QB (wO 1000 (p0:=p0) (p1:=p1) w0a w0b w0c r hm) R (List.forall_mem_cons.2 ⟨f0a,List.forall_mem_cons.2 ⟨f0b,List.forall_mem_cons.2 ⟨f0c,fun f hf=>absurd hf List.not_mem_nil⟩⟩⟩)
theorem UK (h:YU us H=some (g,H')) (R:d_ w0 ρ H w) (hr:mQ ρ us vs):iU Tryz.prog w0 ρ 22 vs w g H':=by
 obtain⟨x0,x1,x2,rfl,h⟩:=Iq h
 obtain⟨p0,hp0,h⟩:=aA.1 h
 obtain⟨p1,hp1,h⟩:=aA.1 h
 obtain⟨p2,hp2,h⟩:=aA.1 h
 obtain⟨r,hm,h⟩:=aA.1 h
 obtain⟨V0,vs,rfl,hv0,hr⟩:=hr.of_cons
 obtain⟨V1,vs,rfl,hv1,hr⟩:=hr.of_cons
 obtain⟨V2,rfl,hv2⟩:=hr.one
 obtain⟨w0a,w0b,z0,rfl,f0a,f0b⟩:=Dy R hv0 hp0
 obtain⟨z1,f1⟩:=Kj R hv1 hp1
 obtain rfl:=IC hv2 hp2
 obtain⟨rfl,rfl⟩:=Gl h
 exact FY Wt (DY 1000 (p0:=p0) (p1:=p1) (p2:=p2) w0a w0b z0 V1 z1 r hm) R (List.forall_mem_cons.2 ⟨f0a,List.forall_mem_cons.2 ⟨f0b,List.forall_mem_cons.2 ⟨f1,fun f hf=>absurd hf List.not_mem_nil⟩⟩⟩) fun ρ=> .bool _
theorem UJ (h:YT us H=some (g,H')) (R:d_ w0 ρ H w) (hr:mQ ρ us vs):iU Tryz.prog w0 ρ 12 vs w g H':=by
 obtain⟨x0,x1,x2,rfl,h⟩:=Iq h
 obtain⟨p0,hp0,h⟩:=aA.1 h
 obtain⟨p1,hp1,h⟩:=aA.1 h
 obtain⟨p2,hp2,h⟩:=aA.1 h
 obtain⟨r,hm,h⟩:=aA.1 h
 obtain⟨V0,vs,rfl,hv0,hr⟩:=hr.of_cons
 obtain⟨V1,vs,rfl,hv1,hr⟩:=hr.of_cons
 obtain⟨V2,rfl,hv2⟩:=hr.one
 obtain⟨w0a,w0b,z0,rfl,f0a,f0b⟩:=Dy R hv0 hp0
 obtain⟨z1,f1⟩:=Kj R hv1 hp1
 obtain rfl:=IC hv2 hp2
 obtain⟨h1,rfl,rfl⟩:=Mv h
 exact UN VL h1 Qz (xJ 1000 (p0:=p0) (p1:=p1) (p2:=p2) w0a w0b z0 V1 z1 r hm) R (List.forall_mem_cons.2 ⟨f0a,List.forall_mem_cons.2 ⟨f0b,List.forall_mem_cons.2 ⟨f1,fun f hf=>absurd hf List.not_mem_nil⟩⟩⟩)
theorem IG {f:Nat} (h:Rp f us H=some (g,H')) (R:d_ w0 ρ H w) (hr:mQ ρ us vs):iU Tryz.prog w0 ρ f vs w g H':=by
 unfold Rp at h
 cases e0:Nat.beq f 40 with
 |true=>rw[e0]at h;rw[Nat.eq_of_beq_eq_true e0];exact UM h R hr
 |false=>
 rw[e0]at h
 cases e1:Nat.beq f 27 with
 |true=>rw[e1]at h;rw[Nat.eq_of_beq_eq_true e1];exact UL h R hr
 |false=>
 rw[e1]at h
 cases e2:Nat.beq f 22 with
 |true=>rw[e2]at h;rw[Nat.eq_of_beq_eq_true e2];exact UK h R hr
 |false=>
 rw[e2]at h
 cases e3:Nat.beq f 12 with
 |true=>rw[e3]at h;rw[Nat.eq_of_beq_eq_true e3];exact UJ h R hr
 |false=>
 rw[e3]at h
 cases h
end
theorem Xd:YN Tryz.prog tD=true:=by kernel_rfl
theorem Fb:dQ Tryz.prog tD:=⟨Lc,Xc Xd⟩
theorem XE {gs:uJ} (w0:dL gs):pD Tryz.prog w0 (Hu tD 64 Tryz.f64):=QL Fb mixedOrders Tryz.func64 Tryz.call64 (by kernel_rfl)
theorem WY (args:Array Value) (w:World) (hs:args.size=2):CallsDIn (FR none) 0 Tryz.prog 63 args .returning w fun e u' w'=>∃v,e = .returned v∧u' = .returning∧Ih w w':=by
 obtain⟨out,h,he⟩:=Sd (r:=BC tD (Hu tD 64 Tryz.f64) (Iy Tryz.f63) (UA tD (Hu tD 64 Tryz.f64) (fun _ _ _ _=>none) (QJ Tryz.f63) 0 ⟨[],0,[]⟩ (C_ [])) (Iy Tryz.f63).tail ⟨[(Uu Tryz.f63,.inil)],H0⟩) (by kernel_rfl)
 exact OF (ch:=Hu tD 64 Tryz.f64) (lp:=fun _ _ _ _=>none) Fb mixedOrders XE El Tryz.func63 rfl rfl rfl (by decide +kernel) (fun ρ w=>by simp[execOp,resolve,invoke,builtin]) (by kernel_rfl) (by kernel_rfl) rfl (by rw[hs];decide +kernel) h he
theorem YQ {gs:uJ} {ext:FuncId->List GV->GH->Option (GV×GH)} (hx:∀(w0:dL gs) {f us H g H'},ext f us H=some (g,H')->∀ρ w vs,d_ w0 ρ H w->mQ ρ us vs->iU Tryz.prog w0 ρ f vs w g H') (w0:dL gs):PI Tryz.prog ⟨tD,46,ext,Ro 162⟩ Gp.fns w0:=by
 refine⟨Fb,mixedOrders,fun h=> ?_,hx w0,fun h ρ w vs H R hr=>UG Tryz.func162 rfl rfl rfl rfl h ρ w vs H R hr,fun R hc h1 h2=> ?_⟩
 ·obtain⟨e,he,h⟩:=aA.1 (show ob (NR _) _=some _ from h)
  cases h
  obtain⟨q1,q2,q3⟩:=Sv he
  exact⟨q1,q2,KC q3⟩
 ·exact WQ (tb:=tD) (T1:=3) (T2:=45) (cc:=63) Fb Tryz.func46 Tryz.call46 Tryz.call63 rfl rfl rfl (M_ (by kernel_rfl)) (M_ (by kernel_rfl)) (NX rfl rfl) (NX rfl rfl) (RH rfl rfl) (RH rfl rfl) WY R hc h1 h2
theorem Xh {T:Nat} (w0:dL (gl T)):PI Tryz.prog gp Gp.fns w0:=YQ (fun w0 f us H g H' h ρ w vs R hr=>IG h R hr) w0
def gp0:GP:=⟨tD,46,fun _ _ _=>none,Ro 162⟩
theorem abm (w0:dL XC):PI Tryz.prog gp0 Gp.fns w0:=YQ (fun w0 f us H g H' h=>by cases h) w0
end
end Go.Gx
end
section
namespace Go.Gx
open Go Go.Sx Go.RowKit
mutual
def Dc (k:Nat):GV->GV
 | .ptr h o=> .ptr (k+h) o
 | .sl h o l s=> .sl (k+h) o l s
 | .map h=> .map (k+h)
 | .fn f a b=> .fn f (PN k a) (PN k b)
 | .agg cs=> .agg (PN k cs)
 | .tup vs=> .tup (PN k vs)
 | .int a b=> .int a b
 | .bool b=> .bool b
 | .str a b=> .str a b
 | .pnil=> .pnil
 | .snil=> .snil
 | .fnil=> .fnil
 | .inil=> .inil
 | .un=> .un
 | .bad=> .bad
 | .opn h=> .opn (k+h)
def PN (k:Nat):List GV->List GV
 | []=>[]
 |v::r=>Dc k v::PN k r
end
theorem Je (k:Nat):∀(l:List GV) (i:Nat),(PN k l)[i]? = (l[i]?).map (Dc k)
 | [],i=>rfl
 |v::r,0=>rfl
 |v::r,i+1=>by simpa [PN]using Je k r i
theorem Bi (k:Nat):∀(l:List GV),(PN k l).length=l.length
 | []=>rfl
 |v::r=>by simp[PN,Bi k r]
def Tg (k:Nat):GO->GO
 | .cells cs=> .cells (PN k cs)
 | .mp es=> .mp (es.map fun e=>(Dc k e.1,Dc k e.2))
def wL (k:Nat) (l:Hl):Hl:={l with o:=Tg k l.o}
theorem Rl.shift {ρ ρ':cN} {k:Nat} (hρ:∀h l,ρ h=some l->ρ' (k+h)=some (wL k l)) {g:GV} {v:Value} (h:Rl ρ g v):Rl ρ' (Dc k g) v:=by
 have lst:∀{us:List GV} {us':gH},(∀(i:Nat) g v,us[i]? = some g->us'[i]? = some v->Rl ρ' (Dc k g) v)->∀(i:Nat) g v,(PN k us)[i]? = some g->us'[i]? = some v->Rl ρ' g v:=by
  intro us us' hh i g v hg hv
  rw[Je]at hg
  obtain⟨g0,h0,rfl⟩:=Option.map_eq_some_iff.1 hg
  exact hh i g0 v h0 hv
 induction h with
 |int a n=>simp only[Dc];exact .int a n
 |bool b=>simp only[Dc];exact .bool b
 |str s=>simp only[Dc];exact .str s
 |ptr off h=>simp only[Dc];exact .ptr (l:=wL k _) off (hρ _ _ h)
 |pnil=>simp only[Dc];exact .pnil
 |sl h hc ha=>simp only[Dc];exact .sl (l:=wL k _) (hρ _ _ h) hc ha
 |snil=>simp only[Dc];exact .snil
 |map h=>simp only[Dc];exact .map (l:=wL k _) (hρ _ _ h)
 |fn f h1 h2 h3 h4 ih2 ih4=>simp only[Dc];exact .fn f (by rw[Bi];exact h1) (lst ih2) (by rw[Bi];exact h3) (lst ih4)
 |fnil=>simp only[Dc];exact .fnil
 |inil=>simp only[Dc];exact .inil
 |agg h1 h2 h3 ih=>simp only[Dc];exact .agg (by rw[Bi];exact h1) (lst ih) h3
 |tup h1 h2 ih=>simp only[Dc];exact .tup (by rw[Bi];exact h1) (lst ih)
 |un=>simp only[Dc];exact .un
 |bad v=>simp only[Dc];exact .bad v
 |opn v h hx=>simp only[Dc];exact .opn (l:=wL k _) v (hρ _ _ h) hx

abbrev OL:=List (Nat×Nat×GO)
def PL:OL->Nat->Option (Nat×GO)
 | [],_=>none
 |x::r,h=>if h=x.1 then some x.2 else PL r h
theorem IR {os:OL} {h:Nat} {p:Nat×GO} (hl:PL os h=some p):(h,p)∈os:=by
 induction os with
 |nil=>cases hl
 |cons x r ih=>
  simp only[PL]at hl
  split at hl
  ·rename_i e;cases hl;subst e;exact List.mem_cons_self
  ·exact List.mem_cons_of_mem _ (ih hl)
noncomputable def KI (k:Nat) (t:Tr (Nat×GO)):OL->Tr (Nat×GO)
 | []=>t
 |x::r=>(KI k t r).set (some (k+x.2.1,Tg k x.2.2)) (k+x.1)
noncomputable def Vg:OL->Tr (Nat×GO)
 | []=> .lf
 |x::r=>(Vg r).set (some x.2) x.1
theorem AF:∀(os:OL) (h:Nat),(Vg os).get h=PL os h
 | [],h=>rfl
 |x::r,h=>by
  show((Vg r).set (some x.2) x.1).get h=_
  rw[pJ]
  simp only[PL]
  split
  ·rfl
  ·exact AF r h
theorem Gn (k:Nat) (t:Tr (Nat×GO)):∀(os:OL) (h:Nat),(KI k t os).get h=if k<=h then(match PL os (h - k)with|some p=>some (k+p.1,Tg k p.2)|none=>t.get h)else t.get h
 | [],h=>by simp[KI,PL]
 | x :: r, h => by
  show((KI k t r).set (some (k+x.2.1,Tg k x.2.2)) (k+x.1)).get h=_
  rw[pJ,Gn k t r h]
  by_cases e:h=k+x.1
  ·subst e
   rw[if_pos rfl,if_pos (by omega)]
   simp[PL]
  ·rw[if_neg e]
   by_cases hk:k<=h
   ·rw[if_pos hk,if_pos hk]
    simp only[PL]
    rw[if_neg (show¬h - k=x.1 by omega)]
   ·rw[if_neg hk,if_neg hk]
noncomputable def EX (n:Nat) (os:OL):GH:=⟨n,Vg os⟩
noncomputable def GH.load (H:GH) (n:Nat) (os:OL):GH:=⟨H.n+n,KI H.n H.t os⟩
section
variable {gs:uJ} {w0:dL gs} {w w':World} {ρ ρ2:cN} {H:GH} {n:Nat} {os:OL}
theorem eQ {H:GH} {h:Nat} {o:GO}:H.get h=some o↔∃v,H.t.get h=some (v,o):=by
 unfold GH.get
 cases hh:H.t.get h with
 |none=>simp[ob]
 |some p=>obtain⟨a,b⟩:=p;simp[ob]
theorem pF {H:GH} {h v:Nat}:H.ver h=some v↔∃o,H.t.get h=some (v,o):=by
 unfold GH.ver
 cases hh:H.t.get h with
 |none=>simp[ob]
 |some p=>obtain⟨a,b⟩:=p;simp[ob]
theorem d_.sub {H2:GH} (R:d_ w0 ρ H w) (hn:H2.n=H.n) (hs:∀h p,H2.t.get h=some p->H.t.get h=some p):d_ w0 ρ H2 w:=by
 have g:∀h o,H2.get h=some o->H.get h=some o:=fun h o hg=>by
  obtain⟨v,hv⟩:=eQ.1 hg
  exact eQ.2 ⟨v,hs _ _ hv⟩
 refine⟨R.ext,fun h o hg=>R.live h o (g h o hg),fun h h' o o' l l' h1 h2=>R.inj h h' o o' l l' (g _ _ h1) (g _ _ h2),fun h hh=>R.fresh h (by omega),fun h hh=>R.dense h (by omega),fun h v l hv hl=> ?_,R.env⟩
 obtain⟨o,ho⟩:=pF.1 hv
 obtain⟨lv,a,b,c⟩:=R.vers h v l (pF.2 ⟨o,hs _ _ ho⟩) hl
 refine⟨lv,a,b,?_⟩
 have h1:=eQ.2 ⟨v,ho⟩
 have h2:=g _ _ h1
 rw[c]at h2;cases h2;exact h1
theorem tI.shift {l:Hl} {o:GO} {ρ':cN} {k:Nat} (hρ:∀h l,ρ2 h=some l->ρ' (k+h)=some (wL k l)) (h:tI ρ2 w l o):tI ρ' w (wL k l) (Tg k o):=by
 cases o with
 |cells cs=>
  obtain⟨cur,T,h1,h2,h3,h4⟩:=h
  refine⟨cur,T,h1,h2,by rw[Bi];exact h3,fun i g hg=> ?_⟩
  rw[Je]at hg
  obtain⟨g0,h0,rfl⟩:=Option.map_eq_some_iff.1 hg
  obtain⟨v,a,b,c⟩:=h4 i g0 h0
  exact⟨v,a,b.shift hρ,c⟩
 |mp es=>
  obtain⟨en,cl,h1,h2,h3⟩:=h
  refine⟨en,cl,h1,by simpa [Tg]using h2,fun i g hg=> ?_⟩
  rw[List.getElem?_map]at hg
  obtain⟨g0,h0,rfl⟩:=Option.map_eq_some_iff.1 hg
  obtain⟨m,a,b,c⟩:=h3 i g0 h0
  exact⟨m,a,b.shift hρ,c.shift hρ⟩
theorem d_.join {gs2:uJ} {hb:Ed gs2 w fun _=>False} (R:d_ w0 ρ H w) (R2:d_ (dL.of w hb) ρ2 (EX n os) w'):
  ∃ρ':cN,ρ.le ρ'∧d_ w0 ρ' (H.load n os) w'∧∀g v,Rl ρ2 g v->Rl ρ' (Dc H.n g) v:=by
 let ρ':cN:=fun h=>if h<H.n then ρ h else(ρ2 (h - H.n)).map (wL H.n)
 have hle:ρ.le ρ':=fun h l hl=>by
  have hlt:h<H.n:=by
   rcases Nat.lt_or_ge h H.n with q|q
   ·exact q
   ·rw[R.fresh h q]at hl;cases hl
  show(if h<H.n then ρ h else _)=_
  rw[if_pos hlt];exact hl
 have hsh:∀h l,ρ2 h=some l->ρ' (H.n+h)=some (wL H.n l):=fun h l hl=>by
  show(if H.n+h<H.n then _ else _)=_
  rw[if_neg (by omega),show H.n+h - H.n=h by omega,hl];rfl
 have hlow:∀h,h<H.n->ρ' h=ρ h:=fun h hh=>by show(if h<H.n then ρ h else _)=_;rw[if_pos hh]
 have hhigh:∀h,H.n<=h->ρ' h=(ρ2 (h - H.n)).map (wL H.n):=fun h hh=>by show(if h<H.n then ρ h else _)=_;rw[if_neg (by omega)]
 have hnone:∀h,H.n<=h->H.t.get h=none:=fun h hh=>by
  cases hg:H.t.get h with
  |none=>rfl
  |some p=>exact absurd (R.lt (eQ.2 ⟨p.1,hg⟩)) (by omega)
 have gl:∀h,h<H.n->(H.load n os).t.get h=H.t.get h:=fun h hh=>by
  show(KI H.n H.t os).get h=_
  rw[Gn,if_neg (by omega)]
 have gh:∀h p,H.n<=h->(H.load n os).t.get h=some p->∃p2,(EX n os).t.get (h - H.n)=some p2∧p=(H.n+p2.1,Tg H.n p2.2):=fun h p hh hp=>by
  have hp':(KI H.n H.t os).get h=some p:=hp
  rw[Gn,if_pos hh,hnone h hh]at hp'
  cases hk:PL os (h - H.n)with
  |none=>rw[hk]at hp';cases hp'
  |some p2=>rw[hk]at hp';cases hp';exact⟨p2,(AF os _).trans hk,rfl⟩
 have e2:Ih w w':=R2.ext.ext
 have mine2:∀l:Hl,(dL.of w hb).mine l.b->w.heap.size<=l.b:=fun l h=>by
  rcases h with h|h
  ·exact h
  ·exact h.elim
 have liveL:∀h o,h<H.n->(H.load n os).get h=some o->∃l,ρ h=some l∧w0.mine l.b∧tI ρ w l o∧H.get h=some o:=fun h o hh hg=>by
  obtain⟨v,hv⟩:=eQ.1 hg
  rw[gl h hh]at hv
  have hg':=eQ.2 ⟨v,hv⟩
  obtain⟨l,a,b,c⟩:=R.live h o hg'
  exact⟨l,a,b,c,hg'⟩
 have liveH:∀h o,H.n<=h->(H.load n os).get h=some o->∃l o2,ρ2 (h - H.n)=some l∧w.heap.size<=l.b∧tI ρ2 w' l o2∧o=Tg H.n o2∧(EX n os).get (h - H.n)=some o2:=fun h o hh hg=>by
  obtain⟨v,hv⟩:=eQ.1 hg
  obtain⟨p2,h2,e⟩:=gh h _ hh hv
  cases e
  have hg':(EX n os).get (h - H.n)=some p2.2:=eQ.2 ⟨p2.1,h2⟩
  obtain⟨l,a,b,c⟩:=R2.live _ _ hg'
  exact⟨l,p2.2,a,mine2 l b,c,rfl,hg'⟩
 refine⟨ρ',hle,⟨R.ext.trans e2,fun h o hg=> ?_,fun h h' o o' l l' h1 h2 hl hl' hbb=> ?_,fun h hh=> ?_,fun h hh=> ?_,fun h v l hv hl=> ?_,fun i v e=>let ⟨l,a,b⟩:=R.env i v e;⟨l,hle _ _ a,b⟩⟩,fun g v hg=>hg.shift hsh⟩
 ·rcases Nat.lt_or_ge h H.n with q|q
  ·obtain⟨l,a,b,c,_⟩:=liveL h o q hg
   exact⟨l,by rw[hlow h q];exact a,b,c.move hle (e2.block _ c.lt)⟩
  ·obtain⟨l,o2,a,b,c,rfl,_⟩:=liveH h o q hg
   exact⟨wL H.n l,by rw[hhigh h q,a];rfl,.inl (Nat.le_trans R.ext.size b),c.shift hsh⟩
 ·rcases Nat.lt_or_ge h H.n with q|q<;>rcases Nat.lt_or_ge h' H.n with q'|q'
  ·obtain⟨l1,a1,_,_,g1⟩:=liveL h o q h1
   obtain⟨l2,a2,_,_,g2⟩:=liveL h' o' q' h2
   rw[hlow h q,a1]at hl;rw[hlow h' q',a2]at hl'
   cases hl;cases hl'
   exact R.inj h h' o o' _ _ g1 g2 a1 a2 hbb
  ·obtain⟨l1,a1,_,c1,g1⟩:=liveL h o q h1
   obtain⟨l2,o2,a2,b2,_,rfl,g2⟩:=liveH h' o' q' h2
   rw[hlow h q,a1]at hl;rw[hhigh h' q',a2]at hl'
   cases hl;cases hl'
   have:=c1.lt
   simp only[wL]at hbb
   omega
  ·obtain⟨l1,o1,a1,b1,_,rfl,g1⟩:=liveH h o q h1
   obtain⟨l2,a2,_,c2,g2⟩:=liveL h' o' q' h2
   rw[hhigh h q,a1]at hl;rw[hlow h' q',a2]at hl'
   cases hl;cases hl'
   have:=c2.lt
   simp only[wL]at hbb
   omega
  ·obtain⟨l1,o1,a1,b1,_,rfl,g1⟩:=liveH h o q h1
   obtain⟨l2,o2,a2,b2,_,rfl,g2⟩:=liveH h' o' q' h2
   rw[hhigh h q,a1]at hl;rw[hhigh h' q',a2]at hl'
   cases hl;cases hl'
   have:=R2.inj _ _ _ _ _ _ g1 g2 a1 a2 hbb
   omega
 ·have hh':H.n+n<=h:=hh
  rw[hhigh h (by omega),R2.fresh (h - H.n) (by show n<=_;omega)];rfl
 ·have hh':h<H.n+n:=hh
  rcases Nat.lt_or_ge h H.n with q|q
  ·obtain⟨l,hl⟩:=R.dense h q
   exact⟨l,by rw[hlow h q];exact hl⟩
  ·obtain⟨l,hl⟩:=R2.dense (h - H.n) (by show _<n;omega)
   exact⟨wL H.n l,by rw[hhigh h q,hl];rfl⟩
 ·obtain⟨o,ho⟩:=pF.1 hv
  rcases Nat.lt_or_ge h H.n with q|q
  ·rw[gl h q]at ho
   rw[hlow h q]at hl
   obtain⟨lv,a,b,c⟩:=R.vers h v l (pF.2 ⟨o,ho⟩) hl
   have hg:=eQ.2 ⟨v,ho⟩
   obtain⟨l',hl',_,ck⟩:=R.live h o hg
   rw[hl]at hl';cases hl'
   refine⟨lv,hle _ _ a,by rw[e2.block _ ck.lt];exact b,?_⟩
   obtain⟨v2,hv2⟩:=eQ.1 c
   exact eQ.2 ⟨v2,by rw[gl h q];exact hv2⟩
  ·obtain⟨p2,h2,e⟩:=gh h _ q ho
   cases e
   rw[hhigh h q]at hl
   obtain⟨l2,hl2,rfl⟩:=Option.map_eq_some_iff.1 hl
   obtain⟨lv,a,b,c⟩:=R2.vers (h - H.n) p2.1 l2 (pF.2 ⟨p2.2,h2⟩) hl2
   refine⟨wL H.n lv,hsh _ _ a,b,?_⟩
   have h3:(EX n os).get (h - H.n)=some p2.2:=eQ.2 ⟨p2.1,h2⟩
   rw[c]at h3
   have h4:=Option.some.inj h3
   exact eQ.2 ⟨_,by rw[ho,<-h4];rfl⟩
end

theorem Q_ {a b:Nat×Nat} (h:Lu a b=true):a=b:=by
 obtain⟨a1,a2⟩:=a
 obtain⟨b1,b2⟩:=b
 unfold Lu at h
 cases h2:Nat.beq a2 b2 with
 |false=>simp[h2]at h
 |true=>
  simp only[h2,cond_true]at h
  rw[Nat.eq_of_beq_eq_true h,Nat.eq_of_beq_eq_true h2]
theorem Ss {ρ:cN} {n l:Nat} {x:ByteArray} (e1:n=jL (aZ x)) (e2:l=(aZ x).length):Rl ρ (.str n l) (.string x):=by
 rw[e1,e2];exact .str x
def YX (us:List GV) (p:Nat×Nat):Bool:=List.casesOn (motive:=fun _=>Bool) us false fun u r=>List.casesOn (motive:=fun _=>Bool) r (Option.casesOn (motive:=fun _=>Bool) (GV.asStr u) false fun s=>Lu s p) fun _ _=>false
theorem Xm {us:List GV} {p:Nat×Nat} (h:YX us p=true):us=[.str p.1 p.2]:=by
 cases us with
 |nil=>cases h
 | cons u r =>
  cases r with
  |cons _ _=>cases h
  | nil =>
   cases hu:GV.asStr u with
   |none=>simp[YX,hu]at h
   |some s=>
    have:Lu s p=true:=by simpa [YX,hu]using h
    rw[mV hu,Q_ this]
noncomputable section
def Sj (H:GH) (hs:List Nat):Option OL:=List.rec (motive:=fun _=>Option OL) (some []) (fun h _ ih=>ob (H.t.get h) fun p=>ob ih fun r=>some ((h,p.1,p.2)::r)) hs
theorem DT {H:GH}:∀{hs:List Nat} {os:OL},Sj H hs=some os->∀x∈os,H.t.get x.1=some x.2
 | [],os,h,x,hx=>by cases h;cases hx
 |h0::hs,os,h,x,hx=>by
  obtain⟨p,hp,h⟩:=aA.1 (show ob (H.t.get h0) (fun p=>ob (Sj H hs) fun r=>some ((h0,p.1,p.2)::r))=some os from h)
  obtain⟨r,hr,h⟩:=aA.1 h
  cases h
  rcases List.mem_cons.1 hx with rfl|hx
  ·exact hp
  ·exact DT hr x hx
def RP (T:Cw) (G:GP) (fuel f:Nat) (us:List GV) (hs:List Nat):Option (GV×Nat×OL):=ob (FH T G fuel f us H0) fun r=>ob (Sj r.2 hs) fun os=>some (r.1,r.2.n,os)
def Zk {R:Type} (k:Nat) (v:GV) (f:GV->R):R:=GV.casesOn (motive_1:=fun _=>R) v (fun a b=>f (.int a b)) (fun b=>f (.bool b)) (fun a b=>f (.str a b)) (fun h o=>sn (Nat.add k h) fun h=>f (.ptr h o)) (f .pnil) (fun h o l s=>sn (Nat.add k h) fun h=>f (.sl h o l s)) (f .snil) (fun h=>sn (Nat.add k h) fun h=>f (.map h)) (fun a b c=>f (Dc k (.fn a b c))) (f .fnil) (f .inil) (fun cs=>f (Dc k (.agg cs))) (fun vs=>f (Dc k (.tup vs))) (f .un) (f .bad) (fun h=>sn (Nat.add k h) fun h=>f (.opn h))
theorem SC {R:Type} (k:Nat) (v:GV) (f:GV->R):Zk k v f=f (Dc k v):=by
 cases v<;>simp[Zk,rD,Dc]
def XK {R:Type} (k:Nat) (l:List GV):(List GV->R)->R:=List.rec (motive:=fun _=>(List GV->R)->R) (fun f=>f []) (fun x _ ih f=>Zk k x fun y=>ih fun r=>f (y::r)) l
theorem NV {R:Type} (k:Nat):∀(l:List GV) (f:List GV->R),XK k l f=f (PN k l)
 | [],f=>rfl
 |x::l,f=>by
  show Zk k x (fun y=>XK k l fun r=>f (y::r))=_
  rw[SC,NV k l];rfl
def XL {R:Type} (k:Nat) (o:GO) (f:GO->R):R:=GO.casesOn (motive:=fun _=>R) o (fun cs=>XK k cs fun cs=>f (.cells cs)) (fun es=>f (Tg k (.mp es)))
theorem Vq {R:Type} (k:Nat) (o:GO) (f:GO->R):XL k o f=f (Tg k o):=by
 cases o with
 |cells cs=>exact NV k cs _
 |mp es=>rfl
def XD {R:Type} (k:Nat) (t:Tr (Nat×GO)) (os:OL):(Tr (Nat×GO)->R)->R:=List.rec (motive:=fun _=>(Tr (Nat×GO)->R)->R) (fun f=>f t) (fun x _ ih f=>ih fun t=>sn (Nat.add k x.2.1) fun v=>sn (Nat.add k x.1) fun h=>XL k x.2.2 fun o=>t.setK (some (v,o)) h f) os
theorem NO {R:Type} (k:Nat) (t:Tr (Nat×GO)):∀(os:OL) (f:Tr (Nat×GO)->R),XD k t os f=f (KI k t os)
 | [],f=>rfl
 |x::os,f=>by
  show XD k t os (fun t=>sn (Nat.add k x.2.1) fun v=>sn (Nat.add k x.1) fun h=>XL k x.2.2 fun o=>t.setK (some (v,o)) h f)=_
  rw[NO k t os]
  simp only[rD,Vq,yU];rfl
def NH (g:GV) (n:Nat) (os:OL) (H:GH):Option (GV×GH):=sn H.n fun k=>Zk k g fun g=>XD k H.t os fun t=>sn (Nat.add k n) fun m=>some (g,⟨m,t⟩)
theorem RO (g:GV) (n:Nat) (os:OL) (H:GH):NH g n os H=some (Dc H.n g,H.load n os):=by
 unfold NH
 simp only[rD,SC,NO];rfl
theorem UX {P:Program} {T:Cw} {G:GP} {gs gs2:uJ} (hobs:gs2.obs=gs.obs) (henv:gs2.env=[]) (hT:Ft T G.tab) (hG:∀w0:dL gs2,PI P G T.fns w0) {fuel f n:Nat} {us:List GV} {vs:List Value} {hs:List Nat} {g:GV} {os:OL} (hm:RP T G fuel f us hs=some (g,n,os)) (hb:aP P f)
  {w0:dL gs} {w:World} {ρ:cN} {H H':GH} {g':GV} (hv:mQ (fun _=>none) us vs) (h:NH g n os H=some (g',H')) (R:d_ w0 ρ H w):iU P w0 ρ f vs w g' H':=by
 rw[RO]at h;cases h
 obtain⟨r,hr,hm⟩:=aA.1 (show ob (FH T G fuel f us H0) _=some (g,n,os)from hm)
 obtain⟨os',hos,hm⟩:=aA.1 hm
 cases hm
 rw[CE hT]at hr
 have hgl:Ed gs2 w fun _=>False:=fun p hp=>⟨(R.glo p (hobs▸hp)).1,id⟩
 rcases CC hG (H':=r.2) (g:=r.1) hr (d_.start (dL.of w hgl) henv) hv with⟨v,w',ρ',hr',_⟩|⟨_,hc⟩
 ·have:=hb vs.toArray w
  rw[show(dL.of w hgl).w=w from rfl,this]at hr';cases hr'
 ·refine .inr ⟨hb _ w,hc.mono ?_⟩
  rintro e w' ⟨v,ρ2,rfl,_,R2,hr2⟩
  have R3:d_ (dL.of w hgl) ρ2 (EX r.2.n os) w':=R2.sub rfl fun h p hp=>by
   have:PL os h=some p:=(AF os h).symm.trans hp
   exact DT hos _ (IR this)
  obtain⟨ρ',hle,R4,hsh⟩:=R.join R3
  exact⟨v,ρ',rfl,hle,R4,hsh _ _ hr2⟩
theorem Pe {P:Program} {T:Cw} {G:GP} {gs:uJ} (hT:Ft T G.tab) (hG:∀w0:dL gs,PI P G T.fns w0) {fuel f n:Nat} {us:List GV} {vs:List Value} {hs:List Nat} {g:GV} {os:OL} (hm:RP T G fuel f us hs=some (g,n,os)) (hb:aP P f)
  (hv:mQ (fun _=>none) us vs) (he:gs.env=[]) (b:dL gs):Calls P f vs.toArray b.w fun e w'=>∃v ρ',e = .returned v∧d_ b ρ' (EX n os) w'∧Rl ρ' g v:=by
 obtain⟨r,hr,hm⟩:=aA.1 (show ob (FH T G fuel f us H0) _=some (g,n,os)from hm)
 obtain⟨os',hos,hm⟩:=aA.1 hm
 cases hm
 rw[CE hT]at hr
 rcases CC hG (H':=r.2) (g:=r.1) hr (d_.start b he) hv with⟨v,w',ρ',hr',_⟩|⟨_,hc⟩
 ·have:=hb vs.toArray b.w
  rw[this]at hr';cases hr'
 ·refine hc.mono ?_
  rintro e w' ⟨v,ρ2,rfl,_,R2,hr2⟩
  exact⟨v,ρ2,rfl,R2.sub rfl fun h p hp=>by
   have:PL os h=some p:=(AF os h).symm.trans hp
   exact DT hos _ (IR this),hr2⟩
end
theorem Ms {P:Program} {gs:Nat->uJ} {L:List aS} (hL:∀w S,(∀h∈L,h.p w S)->∃T,Ed (gs T) w fun _=>False) {f n:Nat} {vs:List Value} {g:GV} {os:OL}
  (h:∀T (b:dL (gs T)),Calls P f vs.toArray b.w fun e w'=>∃v ρ',e = .returned v∧d_ b ρ' (EX n os) w'∧Rl ρ' g v) {A:Type} {ret:A->Value} {LO:A->List aS}
  (hdec:∀T (b:dL (gs T)) (ρ:cN) (w:World) (V:Value),(∀k,b.mine k->b.w.heap.size<=k)->d_ b ρ (EX n os) w->Rl ρ g V->∃x:A,V=ret x∧∀q∈LO x,q.p w (fun k=>b.w.heap.size<=k)):
  aU P f vs.toArray L ret (fun _ l=>l) (fun x l=>LO x++l):=by
 intro w0 S0 hw
 obtain⟨T,hT⟩:=hL w0 S0 hw
 refine(h T (.of w0 hT)).mono ?_
 rintro e w' ⟨v,ρ',rfl,R,hr⟩
 obtain⟨x,rfl,hq⟩:=hdec T (.of w0 hT) ρ' w' v (fun k hk=>hk.elim id False.elim) R hr
 refine⟨x,rfl,R.ext,fun _ _=>False,⟨fun i m hm=>by simp at hm,fun i k h=>h.elim,fun i j k h=>h.elim⟩,fun q hq'=> ?_⟩
 have hq':q∈LO x++[]:=hq'
 rw[List.append_nil]at hq'
 exact aS.wide (hq q hq') (fun k hk=>⟨.inr (.inl hk),fun i h=>h.elim⟩)

noncomputable def Ev (s:ByteArray):Nat×Nat:=(jL (aZ s),(aZ s).length)
theorem Km {a b:ByteArray} (h:Ev a=Ev b):a=b:=by
 have h1:=QZ a b
 unfold Ev at h
 rw[h]at h1
 have h2:Lu (jL (aZ b),(aZ b).length) (jL (aZ b),(aZ b).length)=true:=by simp[Lu]
 rw[h2]at h1
 have h3:a.toList=b.toList:=eq_of_beq h1.symm
 rw[Lib.toList_data,Lib.toList_data]at h3
 obtain⟨⟨x⟩⟩:=a
 obtain⟨⟨y⟩⟩:=b
 simp only at h3
 rw[h3]
noncomputable def WW (cs:List GV):Option (Nat×Nat):=List.casesOn (motive:=fun _=>Option (Nat×Nat)) cs none fun c r=>List.casesOn (motive:=fun _=>Option (Nat×Nat)) r c.asStr fun _ _=>none
abbrev XF:dO ByteArray:=⟨1,Nat.one_pos,fun _ _ cs x=>cs=[.string x],fun h=>by simp[h],fun h _=>h⟩
theorem fF.str {S:Nat->Prop} {ρ:cN} {w:World}:fF S ρ w WW XF Ev:=fun gs vs y hr h _=>by
 cases gs with
 |nil=>cases h
 |cons c gs=>
 cases gs with
 |cons _ _=>cases h
 |nil=>
 have h:c.asStr=some y:=h
 obtain⟨v,vs,rfl,hv,hr⟩:=hr.of_cons
 rw[hr.of_nil]
 rw[mV h]at hv
 obtain⟨x,rfl,e1,e2⟩:=hv.str_inv
 exact⟨x,by unfold Ev;rw[<-e1,<-e2],rfl⟩
theorem Vs {ρ:cN} {V:Value} {n l:Nat} {s:ByteArray} (h:Rl ρ (.str n l) V) (e:Ev s=(n,l)):V = .string s:=by
 obtain⟨x,rfl,e1,e2⟩:=h.str_inv
 have:Ev x=Ev s:=by rw[e];unfold Ev;rw[<-e1,<-e2]
 rw[Km this]
theorem F_ {α:Type}:∀a b:α,id a=id b->a=b:=fun _ _ h=>h
theorem AA {α β α' β':Type} {f:α->α'} {g:β->β'} (hf:∀a b,f a=f b->a=b) (hg:∀a b,g a=g b->a=b):∀a b:α×β,(fun z:α×β=>(f z.1,g z.2)) a=(fun z:α×β=>(f z.1,g z.2)) b->a=b:=fun a b h=>by
 obtain⟨a1,a2⟩:=a
 obtain⟨b1,b2⟩:=b
 simp only[Prod.mk.injEq]at h
 rw[hf _ _ h.1,hg _ _ h.2]
theorem Ge {α β:Type} {f:α->β} (hf:∀a b,f a=f b->a=b):∀{xs ys:List α},xs.map f=ys.map f->xs=ys
 | [],[],_=>rfl
 | [],_::_,h=>by simp at h
 |_::_,[],h=>by simp at h
 |a::xs,b::ys,h=>by
  simp only[List.map_cons,List.cons.injEq]at h
  rw[hf _ _ h.1,Ge hf h.2]
end Go.Gx
end
section
set_option maxRecDepth 100000
namespace Go.Gx
open Go Go.Sx Go.Proofs Go.Proofs.YtigggfnchamobaaGreatDoor
def mu0:List GV:=[.str 6706143830449764899556809608818904919804074884937111603718476495539622089622860971527792587791047894922729163212717263328395231852300855536488424978955807703755604513825873373095632290149847090083112304426652546340939400726262280257803792487332445892473582856512649637013408585975292850644760247287299230258062944610265801223788397479914840704983105145953743025358843726328641031619437354017789814719882883570583131354112070717477863523377784965938515931160728579383844655360852857429048595849656685311997067516701048769715945338084683118784715135226216982869351630641616464718832441949492048937096570154901286325463543707328254906190863546417377904 270]
def Zc:GV:=(.agg [(.str 7562850 3),(.sl 1176 0 2 6),(.sl 2078 0 2 3)])
def RU:OL:=[(1176,1176,.cells [(.str 100 1),(.int .i64 (.ofNat 1)),(.int .i64 (.ofNat 0)),(.int .i64 (.ofNat 0)),(.int .i64 (.ofNat 1)),(.int .i64 (.ofNat 0)),(.str 112 1),(.int .i64 (.ofNat 3)),(.int .i64 (.ofNat 0)),(.int .i64 (.ofNat 0)),(.int .i64 (.ofNat 0)),(.int .i64 (.ofNat 0))]),
 (1300,1300,.cells [(.int .i64 (.ofNat 41)),(.int .i64 (.ofNat 0)),(.int .i64 (.ofNat 10)),(.int .i64 (.ofNat 0)),(.int .i64 (.ofNat 42)),(.int .i64 (.ofNat 0)),(.int .i64 (.ofNat 36)),(.int .i64 (.ofNat 0)),(.int .i64 (.ofNat 5)),(.int .i64 (.ofNat 0)),(.int .i64 (.ofNat 1)),(.int .i64 (.ofNat 0)),(.int .i64 (.ofNat 36)),(.int .i64 (.ofNat 0)),(.int .i64 (.ofNat 5)),(.int .i64 (.ofNat 1)),(.int .i64 (.ofNat 4)),(.int .i64 (.ofNat 0))]),
 (1326,1326,.cells [(.int .i64 (.ofNat 1)),(.int .i64 (.ofNat 0))]),
 (1359,1359,.cells [(.int .i64 (.ofNat 4)),(.int .i64 (.ofNat 0))]),
 (1367,1367,.cells [(.int .i64 (.ofNat 0)),(.sl 1326 0 1 2),(.int .i64 (.ofNat 1)),(.sl 1359 0 1 2)]),
 (1755,1755,.cells [(.int .i64 (.ofNat 41)),(.int .i64 (.ofNat 0)),(.int .i64 (.ofNat 19)),(.int .i64 (.ofNat 0)),(.int .i64 (.ofNat 10)),(.int .i64 (.ofNat 0)),(.int .i64 (.ofNat 42)),(.int .i64 (.ofNat 0)),(.int .i64 (.ofNat 36)),(.int .i64 (.ofNat 0)),(.int .i64 (.ofNat 5)),(.int .i64 (.ofNat 0)),(.int .i64 (.ofNat 43)),(.int .i64 (.ofNat 0)),(.int .i64 (.ofNat 37)),(.int .i64 (.ofNat 0)),(.int .i64 (.ofNat 24)),(.int .i64 (.ofNat 0)),(.int .i64 (.ofNat 12)),(.int .i64 (.ofNat 0)),(.int .i64 (.ofNat 6)),(.int .i64 (.ofNat 0)),(.int .i64 (.ofNat 33)),(.int .i64 (.ofNat 0)),(.int .i64 (.ofNat 24)),(.int .i64 (.ofNat 0)),(.int .i64 (.ofNat 12)),(.int .i64 (.ofNat 0)),(.int .i64 (.ofNat 1)),(.int .i64 (.ofNat 1)),(.int .i64 (.ofNat 6)),(.int .i64 (.ofNat 0)),(.int .i64 (.ofNat 36)),(.int .i64 (.ofNat 0)),(.int .i64 (.ofNat 5)),(.int .i64 (.ofNat 1)),(.int .i64 (.ofNat 23)),(.int .i64 (.ofNat 0)),(.int .i64 (.ofNat 35)),(.int .i64 (.ofNat 0)),(.int .i64 (.ofNat 12)),(.int .i64 (.ofNat 0)),(.int .i64 (.ofNat 24)),(.int .i64 (.ofNat 0)),(.int .i64 (.ofNat 12)),(.int .i64 (.ofNat 0))]),
 (1936,1936,.cells [(.int .i64 (.ofNat 43)),(.int .i64 (.ofNat 0)),(.int .i64 (.ofNat 37)),(.int .i64 (.ofNat 0)),(.int .i64 (.ofNat 24)),(.int .i64 (.ofNat 0)),(.int .i64 (.ofNat 12)),(.int .i64 (.ofNat 0)),(.int .i64 (.ofNat 6)),(.int .i64 (.ofNat 0)),(.int .i64 (.ofNat 33)),(.int .i64 (.ofNat 0)),(.int .i64 (.ofNat 24)),(.int .i64 (.ofNat 0)),(.int .i64 (.ofNat 12)),(.int .i64 (.ofNat 0)),(.int .i64 (.ofNat 1)),(.int .i64 (.ofNat 1)),(.int .i64 (.ofNat 6)),(.int .i64 (.ofNat 0))]),
 (2062,2062,.cells [(.int .i64 (.ofNat 23)),(.int .i64 (.ofNat 0)),(.int .i64 (.ofNat 35)),(.int .i64 (.ofNat 0)),(.int .i64 (.ofNat 12)),(.int .i64 (.ofNat 0)),(.int .i64 (.ofNat 24)),(.int .i64 (.ofNat 0)),(.int .i64 (.ofNat 12)),(.int .i64 (.ofNat 0))]),
 (2070,2070,.cells [(.int .i64 (.ofNat 0)),(.sl 1936 0 10 2),(.int .i64 (.ofNat 1)),(.sl 2062 0 5 2)]),
 (2078,2078,.cells [(.str 7368564 3),(.sl 1300 0 9 2),(.sl 1367 0 2 2),(.str 7827308 3),(.sl 1755 0 23 2),(.sl 2070 0 2 2)])]
set_option maxHeartbeats 4000000 in
theorem me0:RP Gp gp 4000 8 mu0 [1176,1300,1326,1359,1367,1755,1936,2062,2070,2078]=some (Zc,3136,RU):=by kernel_rfl
noncomputable def Mf (f:Nat) (us:List GV) (H:GH):Option (GV×GH):=bif Nat.beq f 8 then(bif YX us (6706143830449764899556809608818904919804074884937111603718476495539622089622860971527792587791047894922729163212717263328395231852300855536488424978955807703755604513825873373095632290149847090083112304426652546340939400726262280257803792487332445892473582856512649637013408585975292850644760247287299230258062944610265801223788397479914840704983105145953743025358843726328641031619437354017789814719882883570583131354112070717477863523377784965938515931160728579383844655360852857429048595849656685311997067516701048769715945338084683118784715135226216982869351630641616464718832441949492048937096570154901286325463543707328254906190863546417377904,270)then NH Zc 3136 RU H else Rp f us H)else Rp f us H
noncomputable def YS:GP:=⟨tD,gp.cat,Mf,gp.exn⟩
theorem OV {T:Nat} {w0:dL (gl T)} {w:World} {ρ:cN} {H H':GH} {g:GV} {us:List GV} {vs:gH} {f:Nat} (h:Mf f us H=some (g,H')) (R:d_ w0 ρ H w) (hr:mQ ρ us vs):iU Tryz.prog w0 ρ f vs w g H':=by
 unfold Mf at h
 cases e1:Nat.beq f 8 with
 |false=>rw[e1]at h;exact IG h R hr
 | true =>
  rw[e1]at h
  cases e2:YX us (6706143830449764899556809608818904919804074884937111603718476495539622089622860971527792587791047894922729163212717263328395231852300855536488424978955807703755604513825873373095632290149847090083112304426652546340939400726262280257803792487332445892473582856512649637013408585975292850644760247287299230258062944610265801223788397479914840704983105145953743025358843726328641031619437354017789814719882883570583131354112070717477863523377784965938515931160728579383844655360852857429048595849656685311997067516701048769715945338084683118784715135226216982869351630641616464718832441949492048937096570154901286325463543707328254906190863546417377904,270)with
  |false=>rw[e2]at h;exact IG h R hr
  |true=>
   rw[e2]at h;rw[Nat.eq_of_beq_eq_true e1]
   rw[Xm e2]at hr
   obtain⟨V,rfl,hv⟩:=hr.one
   obtain⟨x,rfl,e3,e4⟩:=hv.str_inv
   exact UX (gs:=gl T) (gs2:=gl T) rfl rfl Fa Xh me0 Tryz.call8 (mQ.cons (Ss e3 e4) .nil) h R
theorem YR {T:Nat} (w0:dL (gl T)):PI Tryz.prog YS Gp.fns w0:=⟨(Xh w0).tab,(Xh w0).mixed,(Xh w0).fns,fun h ρ w vs R hr=>OV h R hr,(Xh w0).exn,(Xh w0).cat⟩
noncomputable abbrev gp2:GP:=YS
theorem abn {T:Nat} (w0:dL (gl T)):PI Tryz.prog gp2 Gp.fns w0:=YR w0
end Go.Gx
end
section
namespace Go.Gx
open Go Go.Sx Go.RowKit
structure Hd (n:Nat) (os:OL) (ρ:cN) (w:World) (S:Nat->Prop):Prop where
 live:∀h o,(EX n os).get h=some o->∃l,ρ h=some l∧S l.b∧tI ρ w l o
 inj:∀h h' o o' l l',(EX n os).get h=some o->(EX n os).get h'=some o'->ρ h=some l->ρ h'=some l'->l.b=l'.b->h=h'
 fresh:∀h,n<=h->ρ h=none
 dense:∀h,h<n->∃l,ρ h=some l
 vers:∀h v l,(EX n os).ver h=some v->ρ h=some l->∃lv,ρ v=some lv∧w.heap[l.b]? = some lv.x∧(EX n os).get h=some lv.o
theorem Hd.mono {n:Nat} {os:OL} {ρ:cN} {w w':World} {S S':Nat->Prop} (H:Hd n os ρ w S) (h:∀k,S k->k<w.heap.size->S' k∧w'.heap[k]? = w.heap[k]?):Hd n os ρ w' S':=by
 refine⟨fun k o hg=> ?_,H.inj,H.fresh,H.dense,fun k v l hv hl=> ?_⟩
 ·obtain⟨l,a,b,c⟩:=H.live k o hg
  obtain⟨d,e⟩:=h _ b c.lt
  exact⟨l,a,d,c.move (cN.le_refl ρ) e⟩
 ·obtain⟨lv,a,b,c⟩:=H.vers k v l hv hl
  obtain⟨o,ho⟩:=pF.1 hv
  obtain⟨l',a',b',c'⟩:=H.live k o (eQ.2 ⟨v,ho⟩)
  rw[hl]at a';cases a'
  exact⟨lv,a,by rw[(h _ b' c'.lt).2];exact b,c⟩
theorem d_.hd {gs:uJ} {b:dL gs} {n:Nat} {os:OL} {ρ:cN} {w:World} {S:Nat->Prop} (R:d_ b ρ (EX n os) w) (hS:∀k,b.mine k->S k):Hd n os ρ w S:=
 ⟨fun h o hg=>let ⟨l,a,b,c⟩:=R.live h o hg;⟨l,a,hS _ b,c⟩,R.inj,R.fresh,R.dense,R.vers⟩
def PT (n:Nat) (os:OL) (g:GV) (V:Value):aS where
 p w S:=∃ρ,Hd n os ρ w S∧Rl ρ g V
 mono:=fun⟨ρ,h,r⟩ k=>⟨ρ,h.mono k,r⟩
def Hd.O (n:Nat) (os:OL) (ρ:cN) (k:Nat):Prop:=∃h o l,(EX n os).get h=some o∧ρ h=some l∧l.b=k
def Hd.base (n:Nat) (os:OL) (ρ:cN) (w:World):dL XC:=⟨w,Hd.O n os ρ,fun _ h=>absurd h List.not_mem_nil⟩
theorem Hd.rel {n:Nat} {os:OL} {ρ:cN} {w:World} {S:Nat->Prop} (H:Hd n os ρ w S):d_ (Hd.base n os ρ w) ρ (EX n os) w:=
 ⟨xY.refl w,fun h o hg=>let ⟨l,a,_,c⟩:=H.live h o hg;⟨l,a,.inr ⟨h,o,l,hg,a,rfl⟩,c⟩,H.inj,H.fresh,H.dense,H.vers,fun i v e=>by simp[Hd.base,XC]at e⟩
noncomputable def BH (H:GH) (os:OL):Bool:=List.rec (motive:=fun _=>Bool) true (fun x _ ih=>Option.casesOn (motive:=fun _=>Bool) (H.ver x.1) false fun v=>bif Nat.beq v x.2.1 then ih else false) os
theorem KS {H:GH}:∀{os:OL},BH H os=true->∀x∈os,H.ver x.1=some x.2.1
 | [],_,x,hx=>by cases hx
 | y :: os, h, x, hx => by
  have h:Option.casesOn (motive:=fun _=>Bool) (H.ver y.1) false (fun v=>bif Nat.beq v y.2.1 then BH H os else false)=true:=h
  cases hv:H.ver y.1 with
  |none=>rw[hv]at h;cases h
  | some v =>
   rw[hv]at h
   obtain⟨h1,h2⟩:=bB.1 (show(bif Nat.beq v y.2.1 then(some (BH H os))else none)=some true by
    have h:(bif Nat.beq v y.2.1 then BH H os else false)=true:=h
    cases e:Nat.beq v y.2.1<;>rw[e]at h<;>first|cases h|(show some (BH H os)=some true;rw[show BH H os=true from h]))
   rcases List.mem_cons.1 hx with rfl|hx
   ·rw[hv,Nat.eq_of_beq_eq_true h1]
   ·exact KS (Option.some.inj h2) x hx
noncomputable def okV (os:OL) (r:OR):Bool:=Option.casesOn (motive:=fun _=>Bool) r false fun r=>Option.casesOn (motive:=fun _=>Bool) r.1.asB false fun b=>bif b then BH r.2 os else false
theorem Sf {os:OL} {r:OR} (h:okV os r=true):∃H',r=some (.bool true,H')∧BH H' os=true:=by
 cases r with
 |none=>cases h
 | some r =>
  obtain⟨g,H'⟩:=r
  have h:Option.casesOn (motive:=fun _=>Bool) g.asB false (fun b=>bif b then BH H' os else false)=true:=h
  cases hb:g.asB with
  |none=>rw[hb]at h;cases h
  |some b=>
   rw[hb]at h
   cases b with
   |false=>cases h
   |true=>exact⟨H',by rw[xO hb],h⟩
theorem OY {P:Program} {G:GP} {Fs:FT} (hG:∀w0:dL XC,PI P G Fs w0) {fuel f n:Nat} {os:OL} {g:GV} {V:Value} (hb:aP P f) (h:∃H',Nl G Fs fuel f [g] (EX n os)=some (.bool true,H')∧BH H' os=true) {w:World} {S:Nat->Prop} (hw:(PT n os g V).p w S):
  Calls P f #[V] w fun e w'=>e = .returned (.bool true)∧Ih w w':=by
 obtain⟨ρ,hd,hr⟩:=hw
 obtain⟨H',h1,h2⟩:=h
 rcases CC hG h1 hd.rel (.cons hr .nil)with⟨v,w',ρ',hr',_⟩|⟨_,hc⟩
 ·have:=hb #[V] w
  rw[this]at hr';cases hr'
 ·refine hc.mono ?_
  rintro e w' ⟨v,ρ2,rfl,hle,R2,hv⟩
  refine⟨by rw[hv.bool_inv],R2.ext.os,R2.ext.tape,R2.ext.output,R2.ext.size,fun k hk=> ?_⟩
  by_cases ho:Hd.O n os ρ k
  ·obtain⟨i,o,l,hg,hl,rfl⟩:=ho
   obtain⟨v0,hv0⟩:=eQ.1 hg
   have hm:(i,v0,o)∈os:=IR ((AF os i).symm.trans hv0)
   obtain⟨lv,a,b,_⟩:=hd.vers i v0 l (pF.2 ⟨o,hv0⟩) hl
   obtain⟨lv',a',b',_⟩:=R2.vers i v0 l (KS h2 _ hm) (hle _ _ hl)
   have:lv=lv':=by have:=hle _ _ a;rw[a']at this;exact(Option.some.inj this).symm
   subst this
   exact b'.trans b.symm
  ·exact R2.ext.block k hk ho
end Go.Gx
end
section
namespace Go.Proofs.YtigggfnchamobaaGreatDoor
open Go Go.Sx Go.Gx
set_option maxRecDepth 100000
abbrev vG:=ByteArray×(Value×eJ)×(Value×List (Int×(Value×eJ)))
def wV (z:vG):eJ×List (Int×eJ):=(z.2.1.2,z.2.2.2.map fun s=>(s.1,s.2.2))
def Cc:ByteArray:=(ByteArray.mk #[112,114,111,103,114,97,109,32,98,102,115,59,10,118,97,114,32,100,32,58,32,48,32,46,46,32,110,59,10,118,97,114,32,112,32,58,32,112,111,114,116,59,10,114,117,108,101,32,116,111,112,58,32,114,111,111,116,32,38,38,32,40,100,32,33,61,32,48,32,124,124,32,112,32,33,61,32,110,111,110,101,41,32,45,62,32,100,32,58,61,32,48,44,32,112,32,58,61,32,110,111,110,101,59,10,114,117,108,101,32,108,111,119,58,32,33,114,111,111,116,32,38,38,32,40,100,32,33,61,32,40,109,105,110,40,113,46,100,41,32,60,32,110,32,63,32,109,105,110,40,113,46,100,41,32,43,32,49,32,58,32,110,41,32,124,124,32,112,32,33,61,32,102,105,114,115,116,40,113,46,100,32,61,61,32,109,105,110,40,113,46,100,41,41,41,10,32,32,45,62,32,100,32,58,61,32,40,109,105,110,40,113,46,100,41,32,60,32,110,32,63,32,109,105,110,40,113,46,100,41,32,43,32,49,32,58,32,110,41,44,32,112,32,58,61,32,102,105,114,115,116,40,113,46,100,32,61,61,32,109,105,110,40,113,46,100,41,41,59,10])
def DU:Es:=[((ByteArray.mk #[100]),(1:Int),(0:Int),(0:Int),(1:Int),(0:Int)),((ByteArray.mk #[112]),(3:Int),(0:Int),(0:Int),(0:Int),(0:Int))]
def Bf:Lb:=[([(41,0),(10,0),(42,0),(36,0),(5,0),(1,0),(36,0),(5,1),(4,0)],[(0,[(1,0)]),(1,[(4,0)])]),([(41,0),(19,0),(10,0),(42,0),(36,0),(5,0),(43,0),(37,0),(24,0),(12,0),(6,0),(33,0),(24,0),(12,0),(1,1),(6,0),(36,0),(5,1),(23,0),(35,0),(12,0),(24,0),(12,0)],[(0,[(43,0),(37,0),(24,0),(12,0),(6,0),(33,0),(24,0),(12,0),(1,1),(6,0)]),(1,[(23,0),(35,0),(12,0),(24,0),(12,0)])])]
def VR:List ((Nat×Nat)×eJ×List (Int×eJ)):=[((7368564,3),[(41,0),(10,0),(42,0),(36,0),(5,0),(1,0),(36,0),(5,1),(4,0)],[(0,[(1,0)]),(1,[(4,0)])]),((7827308,3),[(41,0),(19,0),(10,0),(42,0),(36,0),(5,0),(43,0),(37,0),(24,0),(12,0),(6,0),(33,0),(24,0),(12,0),(1,1),(6,0),(36,0),(5,1),(23,0),(35,0),(12,0),(24,0),(12,0)],[(0,[(43,0),(37,0),(24,0),(12,0),(6,0),(33,0),(24,0),(12,0),(1,1),(6,0)]),(1,[(23,0),(35,0),(12,0),(24,0),(12,0)])])]
def PF (V:Value):aS:=⟨fun w S=>(PT 3136 RU Zc V).p w S,fun {w w' S S'} h k=>by
 rcases h with h
 ·exact((PT 3136 RU Zc V).mono h k)⟩
noncomputable def Qs {R:Type} (D:Lb) (k:List vG->Option R):Option R:=open Classical in if h:∃r,∀z:List vG,z.map wV=D->k z=some r then some (Classical.choose h)else none
theorem yD {R:Type} {D:Lb} {k:List vG->Option R} {r:R} (h:Qs D k=some r) (z:List vG) (hz:z.map wV=D):k z=some r:=by
 unfold Qs at h
 split at h
 ·rename_i e
  rw[<-Option.some.inj h]
  exact Classical.choose_spec e z hz
 cases h
theorem TJ {R:Type} {D:Lb} {k:List vG->Option R} {r:R} (h:∀z:List vG,z.map wV=D->k z=some r):Qs D k=some r:=by
 have e:∃r,∀z:List vG,z.map wV=D->k z=some r:=⟨r,h⟩
 unfold Qs
 rw[dif_pos e]
 let z:List vG:=D.map fun x=>(ByteArray.empty,(undef,x.1),(undef,x.2.map fun s=>(s.1,(undef,s.2))))
 have hz:z.map wV=D:=by
  show(D.map _).map wV=D
  rw[List.map_map]
  conv=>rhs;rw[<-List.map_id D]
  refine List.map_congr_left fun x _=>?_
  obtain⟨a,b⟩:=x
  simp[wV,Function.comp_def]
 rw[<-Classical.choose_spec e z hz,h z hz]
def oG (fuel:Nat) (p0:ByteArray):Option SI:=if p0=Cc then some ((ByteArray.mk #[98,102,115]),DU,Bf)else none
theorem Hs:aP Tryz.prog 8:=Tryz.call8
theorem Nf:aP Tryz.prog 131:=Tryz.call131
theorem KH:Ev Cc=(6706143830449764899556809608818904919804074884937111603718476495539622089622860971527792587791047894922729163212717263328395231852300855536488424978955807703755604513825873373095632290149847090083112304426652546340939400726262280257803792487332445892473582856512649637013408585975292850644760247287299230258062944610265801223788397479914840704983105145953743025358843726328641031619437354017789814719882883570583131354112070717477863523377784965938515931160728579383844655360852857429048595849656685311997067516701048769715945338084683118784715135226216982869351630641616464718832441949492048937096570154901286325463543707328254906190863546417377904,270):=by kernel_rfl
theorem Sk:Ev (ByteArray.mk #[98,102,115])=(7562850,3):=by kernel_rfl
theorem Sp:Kk (EX 3136 RU) 6 (dP 1 WW (dP 1 (dI .i64) (dP 1 (dI .i64) (dP 1 (dI .i64) (dP 1 (dI .i64) (dI .i64)))))) (.sl 1176 0 2 6)=some (DU.map fun z=>(Ev z.1,z.2.1,z.2.2.1,z.2.2.2.1,z.2.2.2.2.1,z.2.2.2.2.2)):=by kernel_rfl
theorem Pn:Kk (EX 3136 RU) 3 (dP 1 WW (dP 1 (dS (EX 3136 RU) 2 (dP 1 (dI .i64) (dI .i64))) (dS (EX 3136 RU) 2 (dP 1 (dI .i64) (dS (EX 3136 RU) 2 (dP 1 (dI .i64) (dI .i64))))))) (.sl 2078 0 2 3)=some VR:=by kernel_rfl
theorem Ve:VR.map (fun y=>(y.2.1,y.2.2))=Bf:=by kernel_rfl
theorem Sm (r:SI) (h:some ((ByteArray.mk #[98,102,115]),DU,Bf)=some r):aU Tryz.prog 8 #[vS Cc] [Gb 0 (cellsOf Fg uU)] (fun x:Value×Value×{z:List vG // z.map wV=r.2.2}=>Value.agg #[vS r.1,x.1,x.2.1]) (fun x l=>l) (fun x l=>Sl aJ x.1 r.2.1::Sl aF x.2.1 x.2.2.1::PF (Value.agg #[vS r.1,x.1,x.2.1])::l):=by
 cases h
 refine Ms (gs:=gl) (LO:=fun x:Value×Value×{z:List vG // z.map wV=Bf}=>[Sl aJ x.1 DU,Sl aF x.2.1 x.2.2.1,PF (Value.agg #[vS (ByteArray.mk #[98,102,115]),x.1,x.2.1])]) Rq (fun T b=>Pe Fa Xh me0 Hs (.cons (Ss (x:=Cc) (congrArg Prod.fst KH).symm (congrArg Prod.snd KH).symm) .nil) rfl b) ?_
 intro T b ρ w V hm R hr
 have w0:=hr
 obtain⟨bs,rfl,hl,_⟩:=hr.agg_inv
 obtain⟨A1,bs,rfl,a1,hl⟩:=hl.of_cons
 obtain⟨A2,bs,rfl,a2,hl⟩:=hl.of_cons
 obtain⟨A3,rfl,a3⟩:=hl.one
 obtain rfl:=Vs a1 Sk
 obtain⟨zs,hz,hs⟩:=AY R hm (fF.pair fF.str (fF.pair (fF.int .i64) (fF.pair (fF.int .i64) (fF.pair (fF.int .i64) (fF.pair (fF.int .i64) (fF.int .i64)))))) a2 Sp
 have hzs:zs=DU:=Ge (AA (fun _ _=>Km) (AA F_ (AA F_ (AA F_ (AA F_ F_))))) hz
 subst hzs
 obtain⟨ys,hy,ht⟩:=AY (r:=aF) R hm (fF.pair fF.str (fF.pair (fF.sl R hm (fF.pair (fF.int .i64) (fF.int .i64))) (fF.sl R hm (fF.pair (fF.int .i64) (fF.sl R hm (fF.pair (fF.int .i64) (fF.int .i64))))))) a3 Pn
 have hys:ys.map wV=Bf:=by
  rw[<-Ve,<-hy,List.map_map]
  refine List.map_congr_left fun x _=>?_
  simp[wV,Function.comp_def]
 exact⟨(A2,A3,⟨ys,hys⟩),rfl,List.forall_mem_cons.2 ⟨hs,List.forall_mem_cons.2 ⟨ht,List.forall_mem_cons.2 ⟨(⟨ρ,d_.hd R hm,w0⟩),fun q hq=>absurd hq List.not_mem_nil⟩⟩⟩⟩
theorem Ta:okV RU (FH Gp gp0 4000 131 [Zc] (EX 3136 RU))=true:=by kernel_rfl
theorem oI (fuel:Nat) {p0:ByteArray} (r:SI) (h:oG fuel p0=some r):aU Tryz.prog 8 #[vS p0] [Gb 0 (cellsOf Fg uU)] (fun x:Value×Value×{z:List vG // z.map wV=r.2.2}=>Value.agg #[vS r.1,x.1,x.2.1]) (fun x l=>l) (fun x l=>Sl aJ x.1 r.2.1::Sl aF x.2.1 x.2.2.1::PF (Value.agg #[vS r.1,x.1,x.2.1])::l):=by
 unfold oG at h
 by_cases e0:p0=Cc
 ·subst e0;exact Sm r ((if_pos rfl).symm.trans h)
 rw[if_neg e0]at h
 cases h
theorem So (f:Nat):oG f Cc=some ((ByteArray.mk #[98,102,115]),DU,Bf):=by
 unfold oG
 exact if_pos rfl
def xU (fuel:Nat) (p0:ByteArray×List (ByteArray×Int×Int×Int×Int×Int)×List (vG)):Option Bool:=some true
theorem Hf (fuel:Nat) {p0:ByteArray×List (ByteArray×Int×Int×Int×Int×Int)×List (vG)} (v0 v1:Value) (r:Bool) (h:xU fuel p0=some r):
  aU Tryz.prog 131 #[Value.agg #[vS p0.1,v0,v1]] [Sl aJ v0 p0.2.1,Sl aF v1 p0.2.2,PF (Value.agg #[vS p0.1,v0,v1])] (fun x:Unit=>vB (r)) (fun x l=>l) (fun _ l=>l):=by
 cases h
 intro w S hw
 have key:Calls Tryz.prog 131 #[Value.agg #[vS p0.1,v0,v1]] w fun e w'=>e = .returned (.bool true)∧Ih w w':=by
  rcases hw _ (List.mem_of_getElem? (i:=2) rfl)with hp
  ·refine OY (fuel:=4000) abm Nf ?_ hp
   obtain⟨H',h1,h2⟩:=Sf Ta
   rw[CE (G:=gp0) Fa]at h1
   exact⟨H',h1,h2⟩
 refine key.mono ?_
 rintro e w' ⟨rfl,he⟩
 exact⟨(),rfl,⟨he.os,he.tape,he.output,he.size,fun k hk _=>he.block k hk⟩,fun _ _=>False,⟨fun i m hm=>by simp at hm,fun i k h=>h.elim,fun i j k h=>h.elim⟩,fun q hq=>by simp at hq⟩
end Go.Proofs.YtigggfnchamobaaGreatDoor
end
section
namespace Go.Proofs.YtigggfnchamobaaGreatDoor
open Go Go.Sx
section
abbrev ZH:=AO
abbrev PRG:=ByteArray×(List ZH)×(List vG)
abbrev GRF:=List Int×dZ
abbrev SCN:=PRG×GRF×Int×a_
abbrev YA:=SCN×a_×Int×eJ
inductive E where
 |lf (o a:Int)
 |un (o:Int) (x:E)
 |ag (o:Int) (x:E)
 |bi (o:Int) (x y:E)
 |ite (x y z:E)
def E.ts:E->eJ
 |lf o a=>[(o,a)]
 |un o x=>(o,0)::x.ts
 |ag o x=>(o,0)::x.ts
 |bi o x y=>(o,0)::(x.ts++y.ts)
 |ite x y z=>(43,0)::(x.ts++(y.ts++z.ts))
def E.depth:E->Nat
 |lf _ _=>1
 |un _ x=>x.depth+1
 |ag _ x=>x.depth+1
 |bi _ x y=>max x.depth y.depth+1
 |ite x y z=>max x.depth (max y.depth z.depth)+1
def E.arOk:E->Bool
 |lf o _=>decide (1<=o)&&decide (o<=17)
 |un o x=>decide (18<=o)&&decide (o<=19)&&x.arOk
 |ag o x=>decide (20<=o)&&decide (o<=29)&&x.arOk
 |bi o x y=>decide (30<=o)&&decide (o<=42)&&x.arOk&&y.arOk
 |ite x y z=>x.arOk&&y.arOk&&z.arOk
theorem Iu {α:Type} [Inhabited α] {T pre rest:List α} {x:α} {k:Nat} (hT:T=pre++x::rest) (hk:pre.length=k):at' T (k:Int)=x:=by
 subst hT;exact OB pre rest x k hk
theorem eB {k:Nat} (h:k<1000000):wI .i64 ((k:Int)+1)=((k+1:Nat):Int):=by rw[wr (by omega) (by omega)];rfl

theorem Qv (f:Nat) {o:Int} (h1:1<=o) (h2:o<=43):tA f o=some (if o<=17 then 0 else if o<=29 then 1 else if o<=42 then 2 else 3):=by
 unfold tA uI
 rw[if_neg (by omega)]
 simp only[decide_eq_true_eq]
 rw[if_neg (by omega)]
 split
 ·rfl
 ·split
  ·rfl
  ·split<;>rfl
theorem QY {F:Nat} {T pre rest:eJ} {t:eY} {k m a:Nat} {fuel:Nat} (hT:T=pre++t::rest) (hk:pre.length=k) (hk2:k<1000) (hm:m<3000) (ha:tA F t.1=some ((a:Nat):Int)) (ha3:a<=3) (hne:m+a≠0):
  bD (jJ F T) (fuel+1) ((k:Int),(m:Int))=if m+a=1 then some (((k+1:Nat):Int))else bD (jJ F T) fuel (((k+1:Nat):Int),((m+a - 1:Nat):Int)):=by
 have hl:k<T.length:=by rw[hT];simp;omega
 show jJ F T ((k:Int),(m:Int)) (bD (jJ F T) fuel)=_
 unfold jJ
 dsimp only
 rw[if_pos (by omega),cL (by omega),Iu hT hk,bE ha,if_neg (by omega),wr (x:=((a:Nat):Int) - 1) (by omega) (by omega),wr (by omega) (by omega),eB (by omega)]
 by_cases h:m+a=1
 ·rw[if_pos h,if_pos (by omega)]
 ·rw[if_neg h,if_neg (by omega)]
  have:(m:Int)+((a:Int) - 1)=((m+a - 1:Nat):Int):=by omega
  rw[this]
theorem Uy (F:Nat) (T:eJ) (hT9:T.length<=900):∀(e:E),e.arOk=true->∀(fuel k m:Nat) (pre post:eJ),T=pre++(e.ts++post)->pre.length=k->1<=m->m+2*(e.ts++post).length<=1900->e.ts.length<=fuel->
  bD (jJ F T) fuel ((k:Int),(m:Int))=if m=1 then some (((k+e.ts.length:Nat):Int))else bD (jJ F T) (fuel - e.ts.length) (((k+e.ts.length:Nat):Int),((m - 1:Nat):Int)):=by
 have key:∀{t:eY} {l post pre:eJ} {fuel k m:Nat},T=pre++((t::l)++post)->pre.length=k->(t::l).length<=fuel->1<=t.1->t.1<=43->1<=m->m+2*((t::l)++post).length<=1900->∀a:Nat,(if t.1<=17 then 0 else if t.1<=29 then 1 else if t.1<=42 then 2 else 3:Int)=a->a<=3->∃f,fuel=f+1∧
   bD (jJ F T) fuel ((k:Int),(m:Int))=if m+a=1 then some (((k+1:Nat):Int))else bD (jJ F T) f (((k+1:Nat):Int),((m+a - 1:Nat):Int)):=by
  intro t l post pre fuel k m hT hk hf h1 h2 hm1 hm a ha ha3
  have hlen:=congrArg List.length hT
  simp only[List.length_append,List.length_cons]at hlen hm hf
  obtain⟨f,rfl⟩:∃f,fuel=f+1:=⟨fuel - 1,by omega⟩
  exact⟨f,rfl,QY (rest:=l++post) (by simpa using hT) hk (by omega) (by omega) (by rw[Qv F h1 h2,ha]) ha3 (by omega)⟩
 intro e
 induction e with
 |lf o a=>
  intro hok fuel k m pre post hT hk hm1 hm hf
  simp only[E.arOk,Bool.and_eq_true,decide_eq_true_eq]at hok
  obtain⟨f,rfl,h⟩:=key (t:=(o,a)) (l:=[]) hT hk hf (by dsimp only;omega) (by dsimp only;omega) hm1 hm 0 (by rw[if_pos (by dsimp only;omega)];rfl) (by omega)
  rw[h];rfl
 |un o x ih=>
  intro hok fuel k m pre post hT hk hm1 hm hf
  simp only[E.arOk,Bool.and_eq_true,decide_eq_true_eq]at hok
  obtain⟨f,rfl,h⟩:=key (t:=(o,0)) (l:=x.ts) hT hk hf (by dsimp only;omega) (by dsimp only;omega) hm1 hm 1 (by rw[if_neg (by dsimp only;omega),if_pos (by dsimp only;omega)];rfl) (by omega)
  simp only[E.ts,List.length_cons]at hf hm ⊢
  rw[h,if_neg (by omega)]
  have:=ih hok.2 f (k+1) m (pre++[(o,0)]) post (by rw[hT];simp[E.ts]) (by simp[hk]) hm1 (by simp at hm ⊢;omega) (by omega)
  rw[show m+1 - 1=m by omega,this,show k+1+x.ts.length=k+(x.ts.length+1) by omega,show f+1 - (x.ts.length+1)=f - x.ts.length by omega]
 |ag o x ih=>
  intro hok fuel k m pre post hT hk hm1 hm hf
  simp only[E.arOk,Bool.and_eq_true,decide_eq_true_eq]at hok
  obtain⟨f,rfl,h⟩:=key (t:=(o,0)) (l:=x.ts) hT hk hf (by dsimp only;omega) (by dsimp only;omega) hm1 hm 1 (by rw[if_neg (by dsimp only;omega),if_pos (by dsimp only;omega)];rfl) (by omega)
  simp only[E.ts,List.length_cons]at hf hm ⊢
  rw[h,if_neg (by omega)]
  have:=ih hok.2 f (k+1) m (pre++[(o,0)]) post (by rw[hT];simp[E.ts]) (by simp[hk]) hm1 (by simp at hm ⊢;omega) (by omega)
  rw[show m+1 - 1=m by omega,this,show k+1+x.ts.length=k+(x.ts.length+1) by omega,show f+1 - (x.ts.length+1)=f - x.ts.length by omega]
 |bi o x y ihx ihy=>
  intro hok fuel k m pre post hT hk hm1 hm hf
  simp only[E.arOk,Bool.and_eq_true,decide_eq_true_eq]at hok
  obtain⟨f,rfl,h⟩:=key (t:=(o,0)) (l:=x.ts++y.ts) hT hk hf (by dsimp only;omega) (by dsimp only;omega) hm1 hm 2 (by rw[if_neg (by dsimp only;omega),if_neg (by dsimp only;omega),if_pos (by dsimp only;omega)];rfl) (by omega)
  simp only[E.ts,List.length_cons,List.length_append]at hf hm ⊢
  rw[h,if_neg (by omega)]
  have h1:=ihx hok.1.2 f (k+1) (m+1) (pre++[(o,0)]) (y.ts++post) (by rw[hT];simp[E.ts]) (by simp[hk]) (by omega) (by simp at hm ⊢;omega) (by omega)
  have h2:=ihy hok.2 (f - x.ts.length) (k+1+x.ts.length) m (pre++((o,0)::x.ts)) post (by rw[hT];simp[E.ts]) (by simp[hk];omega) (by omega) (by simp at hm ⊢;omega) (by omega)
  rw[show m+2 - 1=m+1 by omega,h1,if_neg (by omega),show m+1 - 1=m by omega,h2,show k+1+x.ts.length+y.ts.length=k+(x.ts.length+y.ts.length+1) by omega,show f+1 - (x.ts.length+y.ts.length+1)=f - x.ts.length - y.ts.length by omega]
 |ite x y z ihx ihy ihz=>
  intro hok fuel k m pre post hT hk hm1 hm hf
  simp only[E.arOk,Bool.and_eq_true,decide_eq_true_eq]at hok
  obtain⟨f,rfl,h⟩:=key (t:=(43,0)) (l:=x.ts++(y.ts++z.ts)) hT hk hf (by decide) (by decide) hm1 hm 3 rfl (by omega)
  simp only[E.ts,List.length_cons,List.length_append]at hf hm ⊢
  rw[h,if_neg (by omega)]
  have h1:=ihx hok.1.1 f (k+1) (m+2) (pre++[(43,0)]) (y.ts++z.ts++post) (by rw[hT];simp[E.ts]) (by simp[hk]) (by omega) (by simp at hm ⊢;omega) (by omega)
  have h2:=ihy hok.1.2 (f - x.ts.length) (k+1+x.ts.length) (m+1) (pre++((43,0)::x.ts)) (z.ts++post) (by rw[hT];simp[E.ts]) (by simp[hk];omega) (by omega) (by simp at hm ⊢;omega) (by omega)
  have h3:=ihz hok.2 (f - x.ts.length - y.ts.length) (k+1+x.ts.length+y.ts.length) m (pre++((43,0)::(x.ts++y.ts))) post (by rw[hT];simp[E.ts]) (by simp[hk];omega) (by omega) (by simp at hm ⊢;omega) (by omega)
  rw[show m+3 - 1=m+2 by omega,h1,if_neg (by omega),show m+2 - 1=m+1 by omega,h2,if_neg (by omega),show m+1 - 1=m by omega,h3,show k+1+x.ts.length+y.ts.length+z.ts.length=k+(x.ts.length+(y.ts.length+z.ts.length)+1) by omega,show f+1 - (x.ts.length+(y.ts.length+z.ts.length)+1)=f - x.ts.length - y.ts.length - z.ts.length by omega]
theorem W_ (F:Nat) (e:E) (hok:e.arOk=true) {T pre post:eJ} {k:Nat} (hT:T=pre++(e.ts++post)) (hk:pre.length=k) (hl:T.length<=800) (hF:e.ts.length<=F):zG F T (k:Int)=some (((k+e.ts.length:Nat):Int)):=by
 have hpos:1<=e.ts.length:=by cases e<;>simp[E.ts]
 have hlen:=congrArg List.length hT
 simp only[List.length_append]at hlen
 unfold zG xK
 rw[if_neg (by omega)]
 simp only[decide_eq_true_eq]
 rw[if_neg (by omega)]
 have:=Uy F T (by omega) e hok F k 1 pre post hT hk (by omega) (by simp;omega) hF
 rw[if_pos rfl]at this
 exact this
end
section
def Dv (b:Bool):Int:=if b then 1 else 0
theorem rF (f:Nat) (b:Bool):fQ f b=some (Dv b):=by cases b<;>rfl
theorem DZ {α:Type} [Inhabited α] {l:List α} {k:Nat} (h:k<l.length):l.take (k+1)=l.take k++[at' l (k:Int)]:=by
 rw[List.take_add_one,List.getElem?_eq_getElem h,iY,List.getD_eq_getElem?_getD,List.getElem?_eq_getElem h];rfl
theorem kK {α:Type} [Inhabited α] {l:List α} {k:Nat} (h:k<l.length):at' l (k:Int)=l[k]:=by
 rw[iY,List.getD_eq_getElem?_getD,List.getElem?_eq_getElem h];rfl
theorem HK {p:Nat->Prop}:∀(n:Nat),p n->∃m,m<=n∧p m∧∀j,j<m->¬p j:=by
 intro n
 induction n using Nat.strongRecOn with
 | _ n ih =>
  intro h
  by_cases hm:∃m,m<n∧p m
  ·obtain⟨m,h1,h2⟩:=hm
   obtain⟨k,a,b,c⟩:=ih m h1 h2
   exact⟨k,by omega,b,c⟩
  ·exact⟨n,Nat.le_refl n,h,fun j hj hp=>hm ⟨j,hj,hp⟩⟩
theorem NK {α:Type} [DecidableEq α]:∀(l1 l2:List α),l1.Nodup->(∀x∈l1,x∈l2)->l1.length<=l2.length
 | [],l2,_,_=>Nat.zero_le _
 |a::l1,l2,h,hs=>by
  have ha:=hs a List.mem_cons_self
  have h:=List.nodup_cons.1 h
  have:=NK l1 (l2.erase a) h.2 (fun x hx=>(List.mem_erase_of_ne (fun(e:x=a)=>h.1 (by rw[<-e];exact hx))).2 (hs x (List.mem_cons_of_mem _ hx)))
  rw[List.length_erase_of_mem ha]at this
  have hp:0<l2.length:=List.length_pos_of_mem ha
  simp only[List.length_cons];omega
def nz (x:Int):Bool:=decide (x≠0)
theorem QR (f:Nat) (l:aL) (h:l.length<f) (hl:l.length<=1000):nV f l=some ((l.countP nz:Nat):Int):=by
 unfold nV
 have:=dX (step:=oO l) (K:=some ((l.countP nz:Nat):Int)) l.length (fun k=>(((l.take k).countP nz:Nat),(k:Int))) (fun k ag hk=>by
  have hc:(l.take k).countP nz<=k:=Nat.le_trans List.countP_le_length (by simp;omega)
  unfold oO qZ
  dsimp only
  rw[if_pos (by omega),cL (by omega),DZ hk,List.countP_append,eB (by omega),eB (by omega)]
  by_cases h0:at' l (k:Int)=0
  ·rw[if_neg (by simpa using h0)];simp[nz,h0]
  ·rw[if_pos h0];simp[nz,h0]) (fun ag=>by
  unfold oO uA
  dsimp only
  rw[if_neg (by omega),List.take_length]) f h
 exact this
theorem Eg (f:Nat) (l:aL) (x:Int) (h:l.length<f) (hl:l.length<=1000):pC f l x=some (decide (x∈l)):=by
 have key:∃i:Int,nG f l x=some i∧(0<=i↔x∈l):=by
  by_cases hx:x∈l
  ·obtain⟨i,hi,hix⟩:=List.mem_iff_getElem.1 hx
   have hfirst:∃i,i<l.length∧at' l (i:Int)=x∧∀j,j<i->at' l (j:Int)≠x:=by
    obtain⟨m,h1,h2,h3⟩:=HK (p:=fun i=>at' l (i:Int)=x) i (by rw[kK hi,hix])
    exact⟨m,by omega,h2,h3⟩
   obtain⟨i,hi,h1,h2⟩:=hfirst
   refine⟨i,?_,iff_of_true (by omega) hx⟩
   unfold nG
   exact dX (step:=gY l x) (K:=some (i:Int)) i (fun k=>(k:Int)) (fun k ag hk=>by
    unfold gY
    rw[if_pos (by omega),cL (by omega),if_neg (fun e=>h2 k hk e.symm),eB (by omega)]) (fun ag=>by
    unfold gY
    rw[if_pos (by omega),cL (by omega),if_pos h1.symm]) f (by omega)
  ·refine⟨-1,?_,iff_of_false (by omega) hx⟩
   unfold nG
   exact dX (step:=gY l x) (K:=some (-1)) l.length (fun k=>(k:Int)) (fun k ag hk=>by
    unfold gY
    rw[if_pos (by omega),cL (by omega),if_neg (fun e=>hx (by rw[e,kK hk];exact List.getElem_mem hk)),eB (by omega)]) (fun ag=>by
    unfold gY rX
    rw[if_neg (by omega)]) f h
 obtain⟨i,h1,h2⟩:=key
 unfold pC
 rw[bE h1]
 by_cases hx:x∈l
 ·rw[decide_eq_true hx,decide_eq_true (h2.2 hx)]
 ·rw[decide_eq_false hx,decide_eq_false (fun e=>hx (h2.1 e))]
def tU (l:aL):Int:=match l.findIdx? nz with
 |some i=>(i:Int)
 |none=> -1
theorem xE {l:aL} {i:Nat} (hi:i<l.length) (h1:at' l (i:Int)≠0) (h2:∀j,j<i->at' l (j:Int)=0):tU l=i:=by
 have:l.findIdx? nz=some i:=by
  rw[List.findIdx?_eq_some_iff_getElem]
  refine⟨hi,by rw[<-kK hi];simpa [nz]using h1,fun j hj=> ?_⟩
  have:=h2 j hj
  rw[kK (by omega)]at this
  simp[nz,this]
 unfold tU;rw[this]
theorem xD {l:aL} (h:∀j,j<l.length->at' l (j:Int)=0):tU l = -1:=by
 have:l.findIdx? nz=none:=by
  rw[List.findIdx?_eq_none_iff]
  intro x hx
  obtain⟨i,hi,rfl⟩:=List.mem_iff_getElem.1 hx
  have:=h i hi
  rw[kK hi]at this
  simp[nz,this]
 unfold tU;rw[this]
theorem Rm (f:Nat) (l:aL) (h:l.length<f) (hl:l.length<=1000):kX f l (fun y0=>l_ f y0)=some (tU l):=by
 unfold kX
 by_cases hx:∃i,i<l.length∧at' l (i:Int)≠0
 ·obtain⟨i,hi,h0⟩:=hx
  obtain⟨m,h1,h2,h3⟩:=HK (p:=fun i=>at' l (i:Int)≠0) i h0
  have h3:∀j,j<m->at' l (j:Int)=0:=fun j hj=>Decidable.not_not.1 (h3 j hj)
  rw[xE (by omega) h2 h3]
  exact dX (step:=eG l _) (K:=some (m:Int)) m (fun k=>(k:Int)) (fun k ag hk=>by
   unfold eG l_
   rw[if_pos (by omega),cL (by omega),bE rfl,if_neg (by simp[h3 k hk]),eB (by omega)]) (fun ag=>by
   unfold eG l_
   rw[if_pos (by omega),cL (by omega),bE rfl,if_pos (by simpa using h2)]) f (by omega)
 ·have hx:∀j,j<l.length->at' l (j:Int)=0:=fun j hj=>Decidable.not_not.1 fun e=>hx ⟨j,hj,e⟩
  rw[xD hx]
  exact dX (step:=eG l _) (K:=some (-1)) l.length (fun k=>(k:Int)) (fun k ag hk=>by
   unfold eG l_
   rw[if_pos (by omega),cL (by omega),bE rfl,if_neg (by simp[hx k hk]),eB (by omega)]) (fun ag=>by
   unfold eG mN
   rw[if_neg (by omega)]) f h
def AC (l:aL):Int:=l.foldl min 1073741824
theorem Xy (f:Nat) (l:aL) (h:l.length<f) (hl:l.length<=1000):bD (qA l) f ((1073741824:Int),(0:Int))=some (AC l):=by
 exact dX (step:=qA l) (K:=some (AC l)) l.length (fun k=>((l.take k).foldl min 1073741824,(k:Int))) (fun k ag hk=>by
  unfold qA
  dsimp only
  rw[if_pos (by omega),cL (by omega),DZ hk,List.foldl_append,eB (by omega)];rfl) (fun ag=>by
  unfold qA vR
  dsimp only
  rw[if_neg (by omega),List.take_length];rfl) f h
theorem UY {l:aL} {x:Int} (h:x∈l):AC l<=x:=by
 have key:∀(l:aL) (a:Int),l.foldl min a<=a∧∀x∈l,l.foldl min a<=x:=by
  intro l
  induction l with
  |nil=>intro a;exact⟨Int.le_refl a,fun x hx=>by cases hx⟩
  |cons y l ih=>
   intro a
   obtain⟨h1,h2⟩:=ih (min a y)
   refine⟨by simp only[List.foldl_cons];omega,fun x hx=> ?_⟩
   rcases List.mem_cons.1 hx with rfl|hx
   ·simp only[List.foldl_cons];omega
   ·exact h2 x hx
 exact(key l _).2 x h
theorem RR (l:aL):AC l=1073741824∨AC l∈l:=by
 have key:∀(l:aL) (a:Int),l.foldl min a=a∨l.foldl min a∈l:=by
  intro l
  induction l with
  |nil=>intro a;exact .inl rfl
  | cons y l ih =>
   intro a
   rcases ih (min a y)with h|h
   ·simp only[List.foldl_cons,h]
    rcases Int.le_total a y with q|q
    ·left;omega
    ·right;rw[show min a y=y by omega];exact List.mem_cons_self
   ·right;exact List.mem_cons_of_mem _ h
 exact key l _
def Kv (l:aL):Nat->Nat->Nat
 |0,k=>k
 |f+1,k=>if((k:Nat):Int)∈l then Kv l f (k+1)else k
def Mt (l:aL):Nat:=Kv l (l.length+1) 0
theorem RQ (l:aL):((Mt l:Nat):Int)∉l∧(∀j,j<Mt l->((j:Nat):Int)∈l)∧Mt l<=l.length:=by
 have key:∀(f k:Nat),(∀j,j<k->((j:Nat):Int)∈l)->(∀j,j<Kv l f k->((j:Nat):Int)∈l)∧(Kv l f k=k+f∨((Kv l f k:Nat):Int)∉l):=by
  intro f
  induction f with
  |zero=>intro k h;exact⟨h,.inl rfl⟩
  | succ f ih =>
   intro k h
   by_cases hk:((k:Nat):Int)∈l
   ·have:=ih (k+1) (fun j hj=>by
     rcases Nat.lt_or_ge j k with q|q
     ·exact h j q
     ·rw[show j=k by omega];exact hk)
    simp only[Kv,if_pos hk]
    exact⟨this.1,this.2.imp (fun e=>by omega) id⟩
   ·simp only[Kv,if_neg hk]
    exact⟨h,.inr hk⟩
 have hle:∀m,(∀j,j<m->((j:Nat):Int)∈l)->m<=l.length:=fun m h=>by
  have:=NK ((List.range m).map fun j=>((j:Nat):Int)) l (by
   rw[List.nodup_iff_pairwise_ne,List.pairwise_map]
   exact(List.nodup_iff_pairwise_ne.1 List.nodup_range).imp (fun h e=>h (by omega))) (fun x hx=>by
   obtain⟨j,hj,rfl⟩:=List.mem_map.1 hx
   exact h j (List.mem_range.1 hj))
  simpa using this
 obtain⟨h1,h2⟩:=key (l.length+1) 0 (fun j hj=>by omega)
 have h3:=hle _ h1
 refine⟨?_,h1,h3⟩
 rcases h2 with h2|h2
 ·have:Kv l (l.length+1) 0<=l.length:=h3
  omega
 ·exact h2
theorem Xx (f:Nat) (l:aL) (h:l.length+2<f) (hl:l.length<=900):wG f l=some ((Mt l:Nat):Int):=by
 obtain⟨h1,h2,h3⟩:=RQ l
 unfold wG
 exact dX (step:=uO f l) (K:=some ((Mt l:Nat):Int)) (Mt l) (fun k=>(k:Int)) (fun k ag hk=>by
  unfold uO
  rw[bE (Eg f l (k:Int) (by omega) (by omega)),if_pos (by simpa using h2 k hk),eB (by omega)]) (fun ag=>by
  unfold uO xC
  rw[bE (Eg f l _ (by omega) (by omega)),if_neg (by simpa using h1)]) f (by omega)
def Nu (o:Int) (l:aL):Int:=
 if o=20 then Dv (l.all nz)else if o=21 then Dv (l.any nz)else if o=22 then((l.countP nz:Nat):Int)else if o=23 then tU l else if o=24 then AC l else((Mt l:Nat):Int)
theorem UF (f:Nat) (o:Int) (l:aL) (hf:40<=f) (hl:l.length<=24) (ho:o=20∨o=21∨o=22∨o=23∨o=24∨o=27):xF f o l=some (Nu o l):=by
 have hc:=QR f l (by omega) (by omega)
 unfold xF
 rcases ho with rfl|rfl|rfl|rfl|rfl|rfl
 ·rw[if_pos rfl,bE hc,bE (rF f _),Nu,if_pos rfl]
  have:(decide (((l.countP nz:Nat):Int)=(l.length:Int)))=l.all nz:=by
   rw[Bool.eq_iff_iff];simp[List.countP_eq_length,Int.ofNat_inj]
  rw[this]
 ·rw[if_neg (by decide),if_pos rfl,bE hc,bE (rF f _),Nu,if_neg (by decide),if_pos rfl]
  have:(decide ((0:Int)<((l.countP nz:Nat):Int)))=l.any nz:=by
   rw[Bool.eq_iff_iff,decide_eq_true_eq,List.any_eq_true,show((0:Int)<((l.countP nz:Nat):Int))↔0<l.countP nz by omega,List.countP_pos_iff]
  rw[this]
 ·rw[if_neg (by decide),if_neg (by decide),if_pos rfl,bE hc];rfl
 ·rw[if_neg (by decide),if_neg (by decide),if_neg (by decide),if_pos rfl,bE (Rm f l (by omega) (by omega))];rfl
 ·rw[if_neg (by decide),if_neg (by decide),if_neg (by decide),if_neg (by decide),if_pos rfl,Xy f l (by omega) (by omega)];rfl
 ·rw[if_neg (by decide),if_neg (by decide),if_neg (by decide),if_neg (by decide),if_neg (by decide),if_neg (by decide),if_neg (by decide),if_pos rfl,bE (Xx f l (by omega) (by omega))];rfl
end
end Go.Proofs.YtigggfnchamobaaGreatDoor
end
