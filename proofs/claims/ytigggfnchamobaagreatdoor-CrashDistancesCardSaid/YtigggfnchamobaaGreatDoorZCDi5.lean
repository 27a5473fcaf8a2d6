/- Models and proofs. Conditions: none. -/
import Derived.Test.YtigggfnchamobaaGreatDoorZCDi2
import Derived.Test.YtigggfnchamobaaGreatDoorZCDi4
import Derived.Test.YtigggfnchamobaaGreatDoorZCDi1
set_option linter.unusedVariables false
set_option linter.unusedSimpArgs false
set_option maxHeartbeats 4000000
set_option maxRecDepth 20000
section
namespace Go.Proofs.YtigggfnchamobaaGreatDoor
open Go.Sx
section
def sK (a3:(List ((Int×Int)×Int))) (kv6:(Int×Int)×Int) (xa9:Option (Bool)):Option (Bool):=
 if(Option.getD (kI (kv6.1.2,kv6.1.1) a3) (0:Int))≠kv6.2 then(some (false))else(xa9)
def fV  (a3:(List ((Int×Int)×Int))):Option (Bool):=
 Hn (sK a3) (some (true)) a3
def kR (a17:EJ) (ag16:Il->Option (Bool)) (a22:(List ((Int×Int)×Int))):Option (Bool):=
 ag16 ((wI .i64 (a17.1+(1:Int))),a22)
def fW (p0:eF) (a17:EJ) (a28:EJ) (ag27:Il->Option (Bool)) (a39:Bool):Option (Bool):=
 if a39=true then(some (false))else(if(Option.isSome (kI (a17.1,((at' (at' p0 a17.1) a28.1).1)) a28.2))=true then(some (false))else(ag27 ((wI .i64 (a28.1+(1:Int))),(zR (a17.1,((at' (at' p0 a17.1) a28.1).1)) ((at' (at' p0 a17.1) a28.1).2) a28.2))))
def eV (p0:eF) (a17:EJ) (a28:EJ) (ag27:Il->Option (Bool)) (a35:Bool):Option (Bool):=
 if a35=true then(some (false))else(if((at' (at' p0 a17.1) a28.1).2)<(1:Int)then(fW p0 a17 a28 ag27 (true))else(fW p0 a17 a28 ag27 (decide ((15:Int)<((at' (at' p0 a17.1) a28.1).2)))))
def bR (p0:eF) (a17:EJ) (ag16:Il->Option (Bool)) (a28:EJ) (ag27:Il->Option (Bool)):Option (Bool):=
 if a28.1<(List.length (at' p0 a17.1):Int)then(ck (0<=a28.1∧a28.1<(List.length (at' p0 a17.1):Int)) (if((at' (at' p0 a17.1) a28.1).1)<(0:Int)then(eV p0 a17 a28 ag27 (true))else(if(List.length p0:Int)<=((at' (at' p0 a17.1) a28.1).1)then(eV p0 a17 a28 ag27 (true))else(eV p0 a17 a28 ag27 (decide (((at' (at' p0 a17.1) a28.1).1)=a17.1))))))else(kR a17 ag16 (a28.2))
def cA (U:Nat) (p0:eF) (a17:EJ) (ag16:Il->Option (Bool)):Option (Bool):=
 if a17.1<(List.length p0:Int)then(ck (0<=a17.1∧a17.1<(List.length p0:Int)) (bE (bR p0 a17 ag16) U ((0:Int),a17.2)))else(fV  (a17.2))
def eO (U:Nat) (p0:eF):Option (Bool):=
 bE (cA U p0) U ((0:Int),([]:List ((Int×Int)×Int)))
theorem Xa:aO Tryz.prog 59:=Tryz.call59
theorem Dx (U:Nat) {p0:eF} (v0:Value)  (z1:mB) (r:Bool) (h:eO U p0=some r):
  aT Tryz.prog 59 #[v0] [S2 aV v0 z1 p0] (fun x:Unit=>vB (r)) (fun x l=>l) (fun _ l=>l):=by
 refine aT.of Tryz.func59 rfl Tryz.ntmps59 rfl fun c=>?_
 unfold eO at h
 refine sqR<|qkAsg rfl<|dtN<|sqR<|aF (aJ.makeMap lC Lv) rfl fun b1=>qkAsg rfl<|dtN<|aI<|midU (fun a3=>fV  a3=some r) (fun a3 b4=>[(3,Value.map (some b1))]) (fun a3 b4=>[Mp lC Lv b1 a3]) ?_ ?_
 ·refine sqR<|qkMove rfl<|aB (iM rfl (aC.fact 0 rfl) rfl) rfl<|qkMove rfl<|dtN<|aN<|loopL (cA U p0) (fun a17 b18=>[(0,v0),(3,Value.map (some b1)),(14,v0),(15,vI (List.length p0:Int)),(16,vI (a17.1))]) (fun a17 b18=>[Mp lC Lv b1 a17.2]) ((0:Int),([]:List ((Int×Int)×Int))) () h SF (aQ.refl _) ?_
  intro k19 a17 b18 h
  refine sqR<|qkLss rfl<|dtN<|aI ?_
  refine eB h rfl (fun h=>?_) fun h=>?_
  ·refine cI<|aI<|midU (fun a22=>kR a17 (bE (cA U p0) k19) a22=some r) (fun a22 b23=>[(0,v0),(3,Value.map (some b1)),(14,v0),(15,vI (List.length p0:Int)),(16,vI (a17.1))]) (fun a22 b23=>[Mp lC Lv b1 a22]) ?_ ?_
   ·refine aN<|sqR<|qkMove rfl<|ckE h fun j24 h=>aB (cK rfl rfl (aC.fact 0 rfl) rfl rfl j24) rfl<|aB (cJ rfl (aC.fact 0 rfl) rfl rfl j24) rfl<|qkAsg rfl<|qkAsg rfl<|dtN<|sqR<|qkMove rfl<|aB (fR rfl (aC.el (aC.fact 0 rfl) j24.1 j24.2) rfl) rfl<|qkMove rfl<|dtN<|aN<|loopL (bR p0 a17 (bE (cA U p0) k19)) (fun a28 b29=>[(0,v0),(3,Value.map (some b1)),(4,vI (a17.1)),(14,v0),(15,vI (List.length p0:Int)),(16,vI (a17.1)),(21,(at' z1 a17.1).1),(22,vI (List.length (at' p0 a17.1):Int)),(23,vI (a28.1))]) (fun a28 b29=>[Mp lC Lv b1 a28.2]) ((0:Int),a17.2) () h SF (aQ.refl _) ?_
    intro k30 a28 b29 h
    refine sqR<|qkLss rfl<|dtN<|aI ?_
    refine eB h rfl (fun h=>?_) fun h=>?_
    ·refine cI<|aI<|aN<|sqR<|ckE h fun j32 h=>aB (aY rfl rfl (aC.el (aC.fact 0 rfl) j24.1 j24.2) rfl rfl j32) rfl<|aB (fL (cs:=[vI ((at' (at' p0 a17.1) a28.1).1),vI ((at' (at' p0 a17.1) a28.1).2)]) rfl (aC.el (aC.fact 0 rfl) j24.1 j24.2) bJ rfl rfl rfl rfl j32) rfl<|aF (aJ.alloc (cs:=LN) rfl rfl) rfl fun b33=>bH 0 (vs:=[vI ((at' (at' p0 a17.1) a28.1).1),vI ((at' (at' p0 a17.1) a28.1).2)]) rfl rfl rfl rfl rfl rfl<|dtN<|aI<|aI<|midU (fun a35=>eV p0 a17 a28 (bE (bR p0 a17 (bE (cA U p0) k19)) k30) a35=some r) (fun a35 b36=>[(0,v0),(3,Value.map (some b1)),(4,vI (a17.1)),(7,vP b33),(14,v0),(15,vI (List.length p0:Int)),(16,vI (a17.1)),(21,(at' z1 a17.1).1),(22,vI (List.length (at' p0 a17.1):Int)),(23,vI (a28.1)),(42,vB (a35))]) (fun a35 b36=>[bM b33 [vI ((at' (at' p0 a17.1) a28.1).1),vI ((at' (at' p0 a17.1) a28.1).2)] 72,Mp lC Lv b1 a28.2]) ?_ ?_
     ·refine aM<|qkFld rfl<|qkLd 0 rfl<|qkLss rfl<|qkMove rfl ?_
      refine Cv h rfl (fun _ h=>?_) fun _ h=>?_
      ·refine gdSkip rfl<|gdSkip rfl<|gdSkip rfl<|gdSkip rfl<|gdSkip rfl<|qkPkT rfl<|qkMove rfl<|gdSkip rfl<|gdSkip rfl<|gdSkip rfl<|gdSkip rfl<|qkPkT rfl<|dtN ?_
       exact jV (true) () h SF rfl
      refine aR rfl (c_ rfl rfl rfl rfl rfl) rfl<|aR rfl (dX 0 rfl rfl rfl rfl rfl) rfl<|gyMove rfl<|aR rfl (iM rfl (aC.fact 0 rfl) rfl) rfl<|aR rfl (FM rfl rfl) rfl<|qkPkF rfl<|qkMove rfl ?_
      refine Cv h rfl (fun _ h=>?_) fun _ h=>?_
      ·refine gdSkip rfl<|gdSkip rfl<|gdSkip rfl<|gdSkip rfl<|qkPkT rfl<|dtN ?_
       exact jV (true) () h SF rfl
      refine aR rfl (c_ rfl rfl rfl rfl rfl) rfl<|aR rfl (dX 0 rfl rfl rfl rfl rfl) rfl<|gyMove rfl<|aR rfl (No rfl rfl) rfl<|qkPkF rfl<|dtN ?_
      exact jV (decide (((at' (at' p0 a17.1) a28.1).1)=a17.1)) () h SF rfl
     intro a35 b36 h
     refine As h rfl (fun _ h=>?_) fun _ h=>?_
     ·refine sqR<|qkAsg rfl<|dtN<|aP<|aH<|bK<|aH<|aH<|bK<|bK<|aH<|aH<|bK<|aH ?_
      cases h
      exact tV rfl
     refine cI<|aI<|aI<|midU (fun a39=>fW p0 a17 a28 (bE (bR p0 a17 (bE (cA U p0) k19)) k30) a39=some r) (fun a39 b40=>[(0,v0),(3,Value.map (some b1)),(4,vI (a17.1)),(7,vP b33),(14,v0),(15,vI (List.length p0:Int)),(16,vI (a17.1)),(21,(at' z1 a17.1).1),(22,vI (List.length (at' p0 a17.1):Int)),(23,vI (a28.1)),(50,vB (a39))]) (fun a39 b40=>[bM b33 [vI ((at' (at' p0 a17.1) a28.1).1),vI ((at' (at' p0 a17.1) a28.1).2)] 72,Mp lC Lv b1 a28.2]) ?_ ?_
     ·refine aM<|qkFld rfl<|qkLd 0 rfl<|qkLss rfl<|qkMove rfl ?_
      refine Cv h rfl (fun _ h=>?_) fun _ h=>?_
      ·refine gdSkip rfl<|gdSkip rfl<|gdSkip rfl<|qkPkT rfl<|dtN ?_
       exact jV (true) () h SF rfl
      refine aR rfl (c_ rfl rfl rfl rfl rfl) rfl<|aR rfl (dX 0 rfl rfl rfl rfl rfl) rfl<|aR rfl (uX rfl rfl) rfl<|qkPkF rfl<|dtN ?_
      exact jV (decide ((15:Int)<((at' (at' p0 a17.1) a28.1).2))) () h SF rfl
     intro a39 b40 h
     refine As h rfl (fun _ h=>?_) fun _ h=>?_
     ·refine sqR<|qkAsg rfl<|dtN<|aP<|aH<|bK<|aH<|aH<|bK<|bK<|aH<|aH<|bK<|aH ?_
      cases h
      exact tV rfl
     refine cI<|sqR<|qkMove rfl<|qkFld rfl<|qkLd 0 rfl ?_
     refine aB (AE (r:=Value.agg #[vI (a17.1),vI ((at' (at' p0 a17.1) a28.1).1)]) rfl rfl (by intro w;simp[Instr.build,Instr.fill,dA,cN,cF,dB,dC,cO,d_])) rfl ?_
     refine aF (aJ.alloc (cs:=LN) rfl rfl) rfl fun b42=>bH 0 (vs:=[vI (a17.1),vI ((at' (at' p0 a17.1) a28.1).1)]) rfl rfl rfl rfl rfl rfl<|dtN<|aI<|sqR<|qkMove rfl<|qkLdA 0 rfl ?_
     refine aB (Km 2 ((a17.1,((at' (at' p0 a17.1) a28.1).1))) (u:=vI (Option.getD (kI (a17.1,((at' (at' p0 a17.1) a28.1).1)) a28.2) (0:Int))) Jf rfl rfl rfl rfl rfl (by cases kI ((a17.1,((at' (at' p0 a17.1) a28.1).1))) a28.2<;>rfl)) rfl ?_
     refine qkMove rfl<|qkExt rfl<|qkExt rfl<|qkAsg rfl<|qkAsg rfl<|dtN<|sqR<|qkMove rfl<|dtN ?_
     refine As h rfl (fun _ h=>?_) fun _ h=>?_
     ·refine sqR<|qkAsg rfl<|dtN<|aP<|aH<|bK<|aH<|aH<|bK<|bK<|aH<|aH<|bK<|aH ?_
      cases h
      exact tV rfl
     refine cI<|aM<|qkMove rfl<|qkLdA 0 rfl<|qkFld rfl<|qkLd 1 rfl<|JM 2 ((a17.1,((at' (at' p0 a17.1) a28.1).1))) ((at' (at' p0 a17.1) a28.1).2) Jf rfl rfl rfl rfl rfl<|dY<|inT<|aM<|qkAdd rfl<|qkMove rfl<|dtN ?_
     exact lS ((wI .i64 (a28.1+(1:Int))),(zR (a17.1,((at' (at' p0 a17.1) a28.1).1)) ((at' (at' p0 a17.1) a28.1).2) a28.2)) () h SF (aQ.ix [2] rfl rfl) (aD.refl _ _)
    refine oY<|dH<|dH<|tS<|inT ?_
    exact jV (a28.2) () h SF rfl
   intro a22 b23 h
   unfold kR at h
   refine aM<|qkAdd rfl<|qkMove rfl<|dtN ?_
   exact yF ((wI .i64 (a17.1+(1:Int))),a22) () h SF rfl
  refine vT ?_
  exact jV (a17.2) () h SF rfl
 intro a3 b4 h
 unfold fV at h
 refine aI<|sqR<|qkMove rfl<|aF (aJ.range 0 rfl rfl rfl) rfl fun b5=>dtN<|aN<|TM [(3,Value.map (some b1)),(69,vP b5)] [It b5 b1 (List.length a3) ([]),Mp lC Lv b1 a3] [S2 aV v0 z1 p0] SF (aQ.refl _) (aD.refl _ _) ?_
 refine OJ (sK a3) 1 0 (by intro a b x;unfold sK;repeat' split;all_goals first|rfl|contradiction|simp_all) h rfl rfl rfl rfl rfl rfl ?_ ?_
 ·skip
  intro kv6 i7 se8 xa9 hkv10 h
  refine aN<|sqR<|aF (aJ.entry 1 0 hkv10 rfl rfl rfl) rfl fun x11=>qkExt rfl<|qkExt rfl<|aF (aJ.alloc (cs:=LN) rfl rfl) rfl fun b12=>bH 0 (vs:=[vI (kv6.1.1),vI (kv6.1.2)]) rfl rfl rfl rfl rfl rfl<|qkAsg rfl<|dtN<|sqR<|qkMove rfl ?_
  refine aB (mE (i:=1) rfl rfl rfl rfl rfl (by decide)) rfl ?_
  refine qkLd 0 rfl ?_
  refine aB (mE (i:=0) rfl rfl rfl rfl rfl (by decide)) rfl ?_
  refine qkLd 0 rfl ?_
  refine aB (AE (r:=Value.agg #[vI (kv6.1.2),vI (kv6.1.1)]) rfl rfl (by intro w;simp[Instr.build,Instr.fill,dA,cN,cF,dB,dC,cO,d_])) rfl ?_
  refine aB (Km 2 ((kv6.1.2,kv6.1.1)) (u:=vI (Option.getD (kI (kv6.1.2,kv6.1.1) a3) (0:Int))) Jf rfl rfl rfl rfl rfl (by cases kI ((kv6.1.2,kv6.1.1)) a3<;>rfl)) rfl ?_
  refine qkMove rfl<|qkNeq rfl<|dtN ?_
  refine eB h rfl (fun h=>?_) fun h=>?_
  ·refine sqR<|qkAsg rfl<|dtN<|aP<|bK<|aH<|bK<|aH ?_
   cases h
   exact tV rfl
  refine cU<|inT ?_
  exact LV h SF (aQ.ix [1,2] rfl rfl) (aD.refl _ _)
 intro se8 h
 refine tS<|xG<|sqR<|qkAsg rfl<|dtN<|aP ?_
 cases h
 exact tV rfl
end
section
def nJ  (a7:Bool):Option (Bool):=
 some (a7)
def nH (U:Nat) (p0:cM) (a3:Bool):Option (Bool):=
 if a3=true then(some (false))else(Option.bind (gH U p0.1) fun r9=>(if r9=true then(Option.bind (eO U p0.2) fun r13=>(nJ  (r13)))else(nJ  (false))))
def fC (U:Nat) (p0:cM):Option (Bool):=
 if(List.length p0.1:Int)<(1:Int)then(nH U p0 (true))else(if(24:Int)<(List.length p0.1:Int)then(nH U p0 (true))else(nH U p0 (decide ((List.length p0.2:Int)≠(List.length p0.1:Int)))))
theorem IP:aO Tryz.prog 40:=Tryz.call40
theorem uQ (U:Nat) {p0:cM} (v0:Value)  (v1:Value)  (z2:mB) (r:Bool) (h:fC U p0=some r):
  aT Tryz.prog 40 #[Value.agg #[v0,v1]] [Sl bD v0 p0.1,S2 aV v1 z2 p0.2] (fun x:Unit=>vB (r)) (fun x l=>l) (fun _ l=>l):=by
 refine aT.of Tryz.func40 rfl Tryz.ntmps40 rfl fun c=>?_
 refine sqR<|aF (aJ.box (cs:=[v0,v1]) rfl rfl) rfl fun b1=>qkAsg rfl<|dtN<|sqR<|qkFld rfl<|qkLd 0 rfl<|qkLen (aC.fact 0 rfl) rfl<|qkAsg rfl<|dtN<|aI<|aI<|midU (fun a3=>nH U p0 a3=some r) (fun a3 b4=>[(1,vP b1),(19,vB (a3))]) (fun a3 b4=>[bM b1 [v0,v1] 28]) ?_ ?_
 ·refine aM<|qkMove rfl<|qkLss rfl<|qkMove rfl ?_
  refine Cv h rfl (fun _ h=>?_) fun _ h=>?_
  ·refine gdSkip rfl<|gdSkip rfl<|qkPkT rfl<|qkMove rfl<|gdSkip rfl<|gdSkip rfl<|gdSkip rfl<|gdSkip rfl<|gdSkip rfl<|qkPkT rfl<|dtN ?_
   exact jV (true) () h SF rfl
  refine gyMove rfl<|aR rfl (uX rfl rfl) rfl<|qkPkF rfl<|qkMove rfl ?_
  refine Cv h rfl (fun _ h=>?_) fun _ h=>?_
  ·refine gdSkip rfl<|gdSkip rfl<|gdSkip rfl<|gdSkip rfl<|gdSkip rfl<|qkPkT rfl<|dtN ?_
   exact jV (true) () h SF rfl
  refine aR rfl (c_ rfl rfl rfl rfl rfl) rfl<|aR rfl (dX 0 rfl rfl rfl rfl rfl) rfl<|aR rfl (iM rfl (aC.fact 1 rfl) rfl) rfl<|gyMove rfl<|aR rfl (AF rfl rfl) rfl<|qkPkF rfl<|dtN ?_
  exact jV (decide ((List.length p0.2:Int)≠(List.length p0.1:Int))) () h SF rfl
 intro a3 b4 h
 refine As h rfl (fun _ h=>?_) fun _ h=>?_
 ·refine sqR<|qkAsg rfl<|dtN<|aP<|aH ?_
  cases h
  exact tV rfl
 refine cI<|aI<|midU (fun a7=>nJ  a7=some r) (fun a7 b8=>[(2,vB (a7))]) (fun a7 b8=>[]) ?_ ?_
 ·refine aM<|qkFld rfl<|qkLd 0 rfl<|bnE h fun r9 w10 h=>aF (aJ.callQ W_ (AX U v0 r9 w10) rfl (oI [0] rfl)) rfl fun x11=>qkMove rfl ?_
  refine CE (by exact rfl) (by exact rfl) (fun hp12=>?_) (fun hp12=>?_)
  ·have h:=RY hp12 h
   refine aR rfl (c_ rfl rfl rfl rfl rfl) rfl<|aR rfl (dX 0 rfl rfl rfl rfl rfl) rfl<|bnE h fun r13 w14 h=>sV rfl (aJ.callQ Xa (Dx U v1 z2 r13 w14) rfl (oI [1] rfl)) rfl fun x15=>qkPkT rfl<|qkAsg rfl<|dtN ?_
   exact bY (r13) () h SF .nil (aD.refl _ _)
  have h:=RX hp12 h
  refine gdSkip rfl<|gdSkip rfl<|gdSkip rfl<|qkPkF rfl<|qkAsg rfl<|dtN ?_
  exact bY (false) () h SF .nil (aD.refl _ _)
 intro a7 b8 h
 unfold nJ at h
 refine aP ?_
 cases h
 exact lI rfl
end
section
def oT  (a4:Int):Option (Int):=
 some (a4)
def eY (U:Nat) (p0:Int) (p1:Int):Option (Int):=
 if p1<(1:Int)then(some (0:Int))else(ck (p1≠0) (if(Int.tmod p0 p1)<(0:Int)then(oT  (wI .i64 ((Int.tmod p0 p1)+p1)))else(oT  (Int.tmod p0 p1))))
theorem AH:aO Tryz.prog 29:=Tryz.call29
theorem jI (U:Nat) {p0:Int} {p1:Int} (r:Int) (h:eY U p0 p1=some r):
  aT Tryz.prog 29 #[vI (p0),vI (p1)] [] (fun x:Unit=>vI (r)) (fun x l=>l) (fun _ l=>l):=by
 refine aT.of Tryz.func29 rfl Tryz.ntmps29 rfl fun c=>?_
 refine sqR<|qkAsg rfl<|dtN<|aI<|sqR<|qkMove rfl<|qkLss rfl<|dtN ?_
 refine eB h rfl (fun h=>?_) fun h=>?_
 ·refine sqR<|qkAsg rfl<|dtN<|aP<|aH ?_
  cases h
  exact lI rfl
 refine cI<|sqR<|qkMove rfl<|qkMove rfl<|ckE h fun j2 h=>aB (Ko rfl rfl j2) rfl<|qkAsg rfl<|dtN<|aI<|midU (fun a4=>oT  a4=some r) (fun a4 b5=>[(0,vI (a4))]) (fun a4 b5=>[]) ?_ ?_
 ·refine sqR<|qkMove rfl<|qkLss rfl<|dtN ?_
  refine eB h rfl (fun h=>?_) fun h=>?_
  ·refine aM<|qkMove rfl<|qkMove rfl<|qkAdd rfl<|qkAsg rfl<|dtN ?_
   exact jV (wI .i64 ((Int.tmod p0 p1)+p1)) () h SF rfl
  refine cI ?_
  exact jV (Int.tmod p0 p1) () h SF rfl
 intro a4 b5 h
 unfold oT at h
 refine sqR<|qkMove rfl<|qkAsg rfl<|dtN<|aP ?_
 cases h
 exact lI rfl
end
section
def pY (U:Nat) (p0:aL) (p1:Int):Option (Int):=
 if p1<(List.length p0:Int)then(ck (0<=p1∧p1<(List.length p0:Int)) (some (at' p0 p1)))else(some (0:Int))
theorem FV:aO Tryz.prog 30:=Tryz.call30
theorem xC (U:Nat) {p0:aL} {p1:Int} (v0:Value) (r:Int) (h:pY U p0 p1=some r):
  aT Tryz.prog 30 #[v0,vI (p1)] [Sl bD v0 p0] (fun x:Unit=>vI (r)) (fun x l=>l) (fun _ l=>l):=by
 refine aT.of Tryz.func30 rfl Tryz.ntmps30 rfl fun c=>?_
 refine sqR<|qkAsg rfl<|dtN<|aI<|sqR<|qkMove rfl<|qkMove rfl<|qkLen (aC.fact 0 rfl) rfl<|qkLss rfl<|dtN ?_
 refine eB h rfl (fun h=>?_) fun h=>?_
 ·refine sqR<|qkMove rfl<|qkMove rfl<|ckE h fun j2 h=>aB (aY rfl rfl (aC.fact 0 rfl) rfl rfl j2) rfl<|aB (bT rfl (aC.fact 0 rfl) rfl rfl rfl dO j2) rfl<|qkAsg rfl<|dtN<|aP<|aH ?_
  cases h
  exact lI rfl
 refine cI<|sqR<|qkAsg rfl<|dtN<|aP ?_
 cases h
 exact lI rfl
end
section
def lT (r3:Int) (a13:aL):Option qN:=
 some ((a13,(List.replicate (Int.toNat (wI .i64 ((1:Int)+r3))) ([]:eD))))
def pS (a21:mI) (ag20:sR->Option qN) (a32:Int):Option qN:=
 ck ((List.length a21.2:Int)+(List.length ([a32]):Int)<=1099511627) (ag20 ((wI .i64 (a21.1+(1:Int))),(a21.2++[a32])))
def jC (ag40:gO->Option qN) (a47:eZ):Option qN:=
 ag40 (a47.1,(wI .i64 (a47.2+(1:Int))))
def jD (a21:mI) (ag20:sR->Option qN) (a41:eZ) (ag40:gO->Option qN):Option qN:=
 if a41.2<a21.1 then(ck (0<=a41.2∧a41.2<(List.length a21.2:Int)) (if(at' a21.2 a41.2)=a41.1 then(ck ((256:Int)≠0) (jC ag40 ((Int.tmod (wI .i64 (a41.1+(1:Int))) (256:Int)),(-1:Int))))else(jC ag40 (a41.1,a41.2))))else(pS a21 ag20 (a41.1))
def f_ (U:Nat) (p0:Aw) (r3:Int) (a21:mI) (ag20:sR->Option qN):Option qN:=
 if a21.1<(wI .i64 ((1:Int)+r3))then(Option.bind (pY U p0.2.2.2.1 a21.1) fun r25=>(Option.bind (eY U r25 (256:Int)) fun r28=>(bE (jD a21 ag20) U (r28,(0:Int)))))else(lT r3 (a21.2))
def mO (U:Nat) (p0:Aw) (p1:Int):Option qN:=
 Option.bind (eY U (wI .i64 (p0.1 - (1:Int))) p1) fun r3=>(ck (0<=(wI .i64 ((1:Int)+r3))∧(wI .i64 ((1:Int)+r3))<=1099511627) (bE (f_ U p0 r3) U ((0:Int),([]:aL))))
theorem WV:aO Tryz.prog 39:=Tryz.call39
theorem BI (U:Nat) {p0:Aw} {p1:Int} (v0:Value)  (v1:Value)  (v2:Value) (r:BY) (h:mO U p0 p1=some r):
  aT Tryz.prog 39 #[Value.agg #[vI (p0.1),v0,v1,v2,vB (p0.2.2.2.2.1),vB (p0.2.2.2.2.2)],vI (p1)] [Sl bD v0 p0.2.1,Sl bD v1 p0.2.2.1,Sl bD v2 p0.2.2.2.1] (fun x:Value×Value×List Value=>Value.agg #[x.1,x.2.1]) (fun x l=>Ar bU x.1 r.1::Ar cZ.raw x.2.1 x.2.2::jK bS x.2.2 r.2::l) (fun _ l=>l):=by
 refine aT.of Tryz.func39 rfl Tryz.ntmps39 rfl fun c=>?_
 refine sqR<|aF (aJ.box (cs:=[vI (p0.1),v0,v1,v2,vB (p0.2.2.2.2.1),vB (p0.2.2.2.2.2)]) rfl rfl) rfl fun b1=>aF (aJ.alloc (cs:=[kK,kK]) rfl rfl) rfl fun b2=>dtN<|sqR<|qkFld rfl<|qkLd 1 rfl<|aB (pR rfl rfl) rfl<|qkMove rfl<|bnE h fun r3 w4 h=>aF (aJ.callQ AH (jI U  r3 w4) rfl .nil) rfl fun x5=>qkAdd rfl<|qkAsg rfl<|dtN<|sqR<|qkMove rfl<|ckE h fun j6 h=>jN (sN bS (Int.toNat (wI .i64 ((1:Int)+r3))))<|aF (nT (e:=cZ.raw) (kK) rfl rfl rfl rfl j6 rfl rfl rfl) rfl fun u7=>bQ (Know.one (aC.sl (bF (i:=0) (j:=1) rfl rfl bJ))) fun ho8=>?_
 refine aB (QI (r:=Value.agg #[kK,u7]) rfl (by intro w;simp[Instr.build,Instr.fill,dA,cN,cF,dB,dC,cO,d_,gK ho8])) rfl ?_
 refine aF (aJ.alloc (cs:=[kK,kK]) rfl rfl) rfl fun b9=>bQ (Know.one (aC.sl (bF (i:=1) (j:=2) rfl rfl bJ))) fun ho10=>bH 0 (vs:=[kK,u7]) rfl rfl (dK rfl (dK ho10 rfl)) rfl rfl rfl<|dtN<|aI<|midL (B:=Value) (fun a13=>lT r3 a13=some r) (fun a13 b14=>[(4,vP b2),(6,vP b9)]) (fun a13 b14=>[bM b9 [b14,u7] 28,Ar cZ.raw u7 (List.replicate (Int.toNat (wI .i64 ((1:Int)+r3))) (kK)),jK bS (List.replicate (Int.toNat (wI .i64 ((1:Int)+r3))) (kK)) (List.replicate (Int.toNat (wI .i64 ((1:Int)+r3))) ([]:eD)),bM b2 [kK,kK] 28,Ar bU b14 a13]) ?_ ?_
 ·refine sqR<|qkAsg rfl<|dtN<|aN<|jN (iL bU)<|loopL (B:=Value) (f_ U p0 r3) (fun a21 b22=>[(2,vP b1),(4,vP b2),(5,vI (wI .i64 ((1:Int)+r3))),(6,vP b9),(7,vI (a21.1))]) (fun a21 b22=>[bM b9 [b22,u7] 28,Ar cZ.raw u7 (List.replicate (Int.toNat (wI .i64 ((1:Int)+r3))) (kK)),jK bS (List.replicate (Int.toNat (wI .i64 ((1:Int)+r3))) (kK)) (List.replicate (Int.toNat (wI .i64 ((1:Int)+r3))) ([]:eD)),bM b2 [kK,kK] 28,bM b1 [vI (p0.1),v0,v1,v2,vB (p0.2.2.2.2.1),vB (p0.2.2.2.2.2)] 24,Ar bU b22 a21.2]) ((0:Int),([]:aL)) (kK) h SF (aQ.ix [1,2,3,4,5,0] rfl rfl) ?_
  intro k23 a21 b22 h
  refine aI<|sqR<|qkMove rfl<|qkMove rfl<|qkLss rfl<|dtN ?_
  refine eB h rfl (fun h=>?_) fun h=>?_
  ·refine cI<|aI<|aN<|sqR<|qkFld rfl<|qkLd 4 rfl<|qkMove rfl<|bnE h fun r25 w26 h=>aF (aJ.callQ FV (xC U v2 r25 w26) rfl (oI [2] rfl)) rfl fun x27=>bnE h fun r28 w29 h=>aF (aJ.callQ AH (jI U  r28 w29) rfl .nil) rfl fun x30=>qkAsg rfl<|dtN<|aI<|midU (fun a32=>pS a21 (bE (f_ U p0 r3) k23) a32=some r) (fun a32 b33=>[(2,vP b1),(4,vP b2),(5,vI (wI .i64 ((1:Int)+r3))),(6,vP b9),(7,vI (a21.1)),(8,vI (a32))]) (fun a32 b33=>[bM b9 [b22,u7] 28,Ar cZ.raw u7 (List.replicate (Int.toNat (wI .i64 ((1:Int)+r3))) (kK)),jK bS (List.replicate (Int.toNat (wI .i64 ((1:Int)+r3))) (kK)) (List.replicate (Int.toNat (wI .i64 ((1:Int)+r3))) ([]:eD)),bM b2 [kK,kK] 28,bM b1 [vI (p0.1),v0,v1,v2,vB (p0.2.2.2.2.1),vB (p0.2.2.2.2.2)] 24,Ar bU b22 a21.2]) ?_ ?_
   ·refine sqR<|qkAsg rfl<|dtN<|aN<|loopL (jD a21 (bE (f_ U p0 r3) k23)) (fun a41 b42=>[(2,vP b1),(4,vP b2),(5,vI (wI .i64 ((1:Int)+r3))),(6,vP b9),(7,vI (a21.1)),(8,vI (a41.1)),(9,vI (a41.2))]) (fun a41 b42=>[bM b9 [b22,u7] 28,Ar cZ.raw u7 (List.replicate (Int.toNat (wI .i64 ((1:Int)+r3))) (kK)),jK bS (List.replicate (Int.toNat (wI .i64 ((1:Int)+r3))) (kK)) (List.replicate (Int.toNat (wI .i64 ((1:Int)+r3))) ([]:eD)),bM b2 [kK,kK] 28,bM b1 [vI (p0.1),v0,v1,v2,vB (p0.2.2.2.2.1),vB (p0.2.2.2.2.2)] 24,Ar bU b22 a21.2]) (r28,(0:Int)) () h SF (aQ.refl _) ?_
    intro k43 a41 b42 h
    refine aI<|sqR<|qkMove rfl<|qkMove rfl<|qkLss rfl<|dtN ?_
    refine eB h rfl (fun h=>?_) fun h=>?_
    ·refine cI<|aI<|midU (fun a47=>jC (bE (jD a21 (bE (f_ U p0 r3) k23)) k43) a47=some r) (fun a47 b48=>[(2,vP b1),(4,vP b2),(5,vI (wI .i64 ((1:Int)+r3))),(6,vP b9),(7,vI (a21.1)),(8,vI (a47.1)),(9,vI (a47.2))]) (fun a47 b48=>[bM b9 [b22,u7] 28,Ar cZ.raw u7 (List.replicate (Int.toNat (wI .i64 ((1:Int)+r3))) (kK)),jK bS (List.replicate (Int.toNat (wI .i64 ((1:Int)+r3))) (kK)) (List.replicate (Int.toNat (wI .i64 ((1:Int)+r3))) ([]:eD)),bM b2 [kK,kK] 28,bM b1 [vI (p0.1),v0,v1,v2,vB (p0.2.2.2.2.1),vB (p0.2.2.2.2.2)] 24,Ar bU b22 a21.2]) ?_ ?_
     ·refine aN<|sqR<|qkFld rfl<|qkLd 0 rfl<|qkMove rfl<|ckE h fun j49 h=>aB (aY rfl rfl (aU (aC.res 5 rfl) cP) rfl rfl j49) rfl<|aB (bT rfl (aU (aC.res 5 rfl) cP) rfl rfl rfl dO j49) rfl<|qkMove rfl<|qkEql rfl<|dtN ?_
      refine eB h rfl (fun h=>?_) fun h=>?_
      ·refine aM<|qkMove rfl<|qkAdd rfl<|ckE h fun j51 h=>aB (Ko rfl rfl j51) rfl<|qkAsg rfl<|qkAsg rfl<|dY<|inT ?_
       exact jV ((Int.tmod (wI .i64 (a41.1+(1:Int))) (256:Int)),(-1:Int)) () h SF rfl
      refine cU<|inT ?_
      exact jV (a41.1,a41.2) () h SF rfl
     intro a47 b48 h
     unfold jC at h
     refine aM<|qkMove rfl<|qkAdd rfl<|qkAsg rfl<|dtN ?_
     exact yF (a47.1,(wI .i64 (a47.2+(1:Int)))) () h SF rfl
    refine vT ?_
    exact jV (a41.1) () h SF rfl
   intro a32 b33 h
   refine aM<|qkFld rfl<|qkLd 0 rfl<|qkMove rfl<|aF (bX (e:=bU) ([a32]) [(0,vI (a32))] rfl rfl rfl rfl (lX (vI (a32)) rfl) rfl rfl rfl) rfl fun u34=>ckE h fun j36 h=>aF (fT 6 cP rfl rfl rfl (aU (aC.res 0 rfl) cP) rfl rfl rfl rfl j36 rfl) rfl fun u35=>qkFld rfl<|bQ (Know.one ((aU (aC.res 6 rfl) cP))) fun ho37=>eK 1 rfl rfl ho37 rfl rfl rfl<|dY<|inT<|aM<|qkMove rfl<|qkAdd rfl<|qkAsg rfl<|dtN ?_
   exact lS ((wI .i64 (a21.1+(1:Int))),(a21.2++[a32])) (u35) h SF (aQ.ix [1,2,3,4,5,6] rfl rfl) (aD.refl _ _)
  refine vT ?_
  exact bY (a21.2) (b22) h SF (aQ.ix [0,1,2,3,5] rfl rfl) (aD.refl _ _)
 intro a13 b14 h
 unfold lT at h
 refine sqR<|qkLdA 0 rfl<|bQ (Know.one ((aU (aC.res 4 rfl) cP))) fun ho15=>bQ (Know.one (aC.sl (bF (i:=1) (j:=2) rfl rfl bJ))) fun ho16=>bH 3 (vs:=[b14,u7]) rfl rfl (dK ho15 (dK ho16 rfl)) rfl rfl rfl<|dtN<|aP ?_
 cases h
 exact fS (b14,u7,(List.replicate (Int.toNat (wI .i64 ((1:Int)+r3))) (kK))) rfl rfl (RV.cell 3 rfl rfl rfl rfl) (aQ.ix [4,1,2] rfl rfl) aD.nil
end
section
def sH  (a2:Unit):Option (Bool):=
 some (false)
def vR (p0:cM) (p1:Int) (p2:Int) (a6:Int) (ag5:(Int)->Option (Bool)):Option (Bool):=
 ck (0<=p1∧p1<(List.length p0.2:Int)) (if a6<(List.length (at' p0.2 p1):Int)then(ck (0<=p1∧p1<(List.length p0.2:Int)) (ck (0<=a6∧a6<(List.length (at' p0.2 p1):Int)) (if((at' (at' p0.2 p1) a6).1)=p2 then(some (true))else(ag5 (wI .i64 (a6+(1:Int)))))))else(sH  (())))
def lB (U:Nat) (p0:cM) (p1:Int) (p2:Int):Option (Bool):=
 bE (vR p0 p1 p2) U (0:Int)
theorem Xb:aO Tryz.prog 60:=Tryz.call60
theorem G_ (U:Nat) {p0:cM} {p1:Int} {p2:Int} (v0:Value)  (v1:Value)  (z2:mB) (r:Bool) (h:lB U p0 p1 p2=some r):
  aT Tryz.prog 60 #[Value.agg #[v0,v1],vI (p1),vI (p2)] [Sl bD v0 p0.1,S2 aV v1 z2 p0.2] (fun x:Unit=>vB (r)) (fun x l=>l) (fun _ l=>l):=by
 refine aT.of Tryz.func60 rfl Tryz.ntmps60 rfl fun c=>?_
 unfold lB at h
 refine sqR<|aF (aJ.box (cs:=[v0,v1]) rfl rfl) rfl fun b1=>qkAsg rfl<|dtN<|aI<|midU (fun a2=>sH  a2=some r) (fun a2 b3=>[]) (fun a2 b3=>[]) ?_ ?_
 ·refine sqR<|qkAsg rfl<|dtN<|aN<|loopL (vR p0 p1 p2) (fun a6 b7=>[(1,vI (p1)),(2,vI (p2)),(3,vP b1),(7,vI (a6))]) (fun a6 b7=>[bM b1 [v0,v1] 28]) (0:Int) () h SF (aQ.refl _) ?_
  intro k8 a6 b7 h
  refine aI<|sqR<|qkMove rfl<|qkFld rfl<|qkLd 0 rfl<|qkMove rfl<|ckE h fun j9 h=>aB (cK rfl rfl (aC.fact 1 rfl) rfl rfl j9) rfl<|aB (cJ rfl (aC.fact 1 rfl) rfl rfl j9) rfl<|aB (fR rfl (aC.el (aC.fact 1 rfl) j9.1 j9.2) rfl) rfl<|qkLss rfl<|dtN ?_
  refine eB h rfl (fun h=>?_) fun h=>?_
  ·refine cI<|aI<|aN<|sqR<|qkFld rfl<|qkLd 0 rfl<|qkMove rfl<|ckE h fun j11 h=>aB (cK rfl rfl (aC.fact 1 rfl) rfl rfl j11) rfl<|aB (cJ rfl (aC.fact 1 rfl) rfl rfl j11) rfl<|qkMove rfl<|ckE h fun j12 h=>aB (aY rfl rfl (aC.el (aC.fact 1 rfl) j11.1 j11.2) rfl rfl j12) rfl<|aB (mX rfl rfl rfl rfl rfl) rfl<|aB (pA rfl (aC.el (aC.fact 1 rfl) j11.1 j11.2) rfl rfl rfl zB j12) rfl<|qkMove rfl<|qkEql rfl<|dtN ?_
   refine eB h rfl (fun h=>?_) fun h=>?_
   ·refine sqR<|qkAsg rfl<|dtN<|aP<|bK<|aH<|aH<|bK<|aH ?_
    cases h
    exact tV rfl
   refine cU<|inT<|aM<|qkMove rfl<|qkAdd rfl<|qkAsg rfl<|dtN ?_
   exact yF (wI .i64 (a6+(1:Int))) () h SF rfl
  refine vT ?_
  exact bY () (()) h SF .nil (aD.refl _ _)
 intro a2 b3 h
 unfold sH at h
 refine sqR<|qkAsg rfl<|dtN<|aP ?_
 cases h
 exact lI rfl
end
section
def mL (p0:Aw) (p1:cM) (p2:Int) (p3:Int) (p4:Int) (a4:Bool):Option (eF):=
 if a4=true then(some (p1.2))else(if p0.2.2.2.2.2=true then(ck (0<=p2∧p2<(List.length p1.2:Int)) (ck ((List.length ([(p3,p4)]):Int)+(List.length (at' p1.2 p2):Int)<=1099511627) (ck (0<=p2∧p2<(List.length p1.2:Int)) (ck (0<=p3∧p3<(List.length (List.set p1.2 (Int.toNat p2) (([(p3,p4)])++(at' p1.2 p2))):Int)) (ck ((List.length ([(p2,p4)]):Int)+(List.length (at' (List.set p1.2 (Int.toNat p2) (([(p3,p4)])++(at' p1.2 p2))) p3):Int)<=1099511627) (ck (0<=p3∧p3<(List.length (List.set p1.2 (Int.toNat p2) (([(p3,p4)])++(at' p1.2 p2))):Int)) (some (List.set (List.set p1.2 (Int.toNat p2) (([(p3,p4)])++(at' p1.2 p2))) (Int.toNat p3) (([(p2,p4)])++(at' (List.set p1.2 (Int.toNat p2) (([(p3,p4)])++(at' p1.2 p2))) p3))))))))))else(ck (0<=p2∧p2<(List.length p1.2:Int)) (ck (0<=p3∧p3<(List.length p1.2:Int)) (ck ((List.length (at' p1.2 p2):Int)+(List.length ([(p3,p4)]):Int)<=1099511627) (ck ((List.length (at' p1.2 p3):Int)+(List.length ([(p2,p4)]):Int)<=1099511627) (ck (Int.toNat p2≠Int.toNat p3) (ck (0<=p2∧p2<(List.length (List.set (List.set p1.2 (Int.toNat p2) ((at' p1.2 p2)++([(p3,p4)]))) (Int.toNat p3) ((at' p1.2 p3)++([(p2,p4)]))):Int)) (ck (0<=p3∧p3<(List.length (List.set (List.set p1.2 (Int.toNat p2) ((at' p1.2 p2)++([(p3,p4)]))) (Int.toNat p3) ((at' p1.2 p3)++([(p2,p4)]))):Int)) (some (List.set (List.set p1.2 (Int.toNat p2) ((at' p1.2 p2)++([(p3,p4)]))) (Int.toNat p3) ((at' p1.2 p3)++([(p2,p4)]))))))))))))
def kV (U:Nat) (p0:Aw) (p1:cM) (p2:Int) (p3:Int) (p4:Int):Option (eF):=
 if p2=p3 then(mL p0 p1 p2 p3 p4 (true))else(Option.bind (lB U ((p1.1,p1.2)) p2 p3) fun r86=>(mL p0 p1 p2 p3 p4 (r86)))
theorem QX:aO Tryz.prog 44:=Tryz.call44
theorem wX (U:Nat) {p0:Aw} {p1:cM} {p2:Int} {p3:Int} {p4:Int} (v0:Value)  (v1:Value)  (v2:Value)  (v3:Value)  (v4:Value)  (w5:fJ) (r:eF) (h:kV U p0 p1 p2 p3 p4=some r):
  Cb Tryz.prog 44 #[Value.agg #[vI (p0.1),v0,v1,v2,vB (p0.2.2.2.2.1),vB (p0.2.2.2.2.2)],Value.agg #[v3,v4],vI (p2),vI (p3),vI (p4)] [Ar cZ.raw v4 w5,jK bS w5 p1.2] [Sl bD v0 p0.2.1,Sl bD v1 p0.2.2.1,Sl bD v2 p0.2.2.2.1,Sl bD v3 p1.1] (fun x:fJ=>Value.tuple #[]) (fun x l=>Ar cZ.raw v4 x::jK bS x r::l):=by
 refine Cb.of (vs:=[Value.agg #[vI (p0.1),v0,v1,v2,vB (p0.2.2.2.2.1),vB (p0.2.2.2.2.2)],Value.agg #[v3,v4],vI (p2),vI (p3),vI (p4)]) Tryz.func44 rfl Tryz.ntmps44 rfl fun c=>?_
 refine sqR<|aF (aJ.box (cs:=[vI (p0.1),v0,v1,v2,vB (p0.2.2.2.2.1),vB (p0.2.2.2.2.2)]) rfl rfl) rfl fun b1=>aF (aJ.box (cs:=[v3,v4]) rfl rfl) rfl fun b2=>dtN<|aI<|aI<|vF (B:=Unit) (fun a4=>mL p0 p1 p2 p3 p4 a4=some r) (fun a4 b5=>[(2,vI (p2)),(3,vI (p3)),(4,vI (p4)),(5,vP b1),(6,vP b2),(20,vB (a4))]) (fun a4 b5=>[bM b2 [v3,v4] 28,bM b1 [vI (p0.1),v0,v1,v2,vB (p0.2.2.2.2.1),vB (p0.2.2.2.2.2)] 24,Ar cZ.raw v4 w5,jK bS w5 p1.2]) (fun a4 b5=>[Sl bD v0 p0.2.1,Sl bD v1 p0.2.2.1,Sl bD v2 p0.2.2.2.1,Sl bD v3 p1.1]) ?_ ?_
 ·refine aM<|qkMove rfl<|qkMove rfl<|qkEql rfl<|qkMove rfl ?_
  refine Cv h rfl (fun _ h=>?_) fun _ h=>?_
  ·refine gdSkip rfl<|gdSkip rfl<|gdSkip rfl<|gdSkip rfl<|qkPkT rfl<|dtN ?_
   exact jV (true) () h SF rfl
  refine aR rfl (iN 0 rfl rfl rfl rfl) rfl<|gyMove rfl<|gyMove rfl<|bnE h fun r86 hr87 h=>sV rfl (aJ.callQ Xb (G_ U v3 v4 (List.zip w5 p1.2) r86 hr87) rfl (aD.cons (aC.fact 3 rfl) (aD.cons (bF (i:=2) (j:=3) rfl rfl bJ) .nil))) rfl fun x88=>qkPkF rfl<|dtN ?_
  exact jV (r86) () h SF rfl
 intro a4 b5 h
 refine As h rfl (fun _ h=>?_) fun _ h=>?_
 ·refine aP<|aH ?_
  cases h
  exact Bf (w5) rfl rfl .ret (.inl rfl) (aQ.ix [2,3] rfl rfl) aD.nil
 refine cI<|sqR<|qkMove rfl<|qkMove rfl ?_
 refine aB (AE (r:=Value.agg #[vI (p3),vI (p4)]) rfl rfl (by intro w;simp[Instr.build,Instr.fill,dA,cN,cF,dB,dC,cO,d_])) rfl ?_
 refine qkMove rfl<|qkMove rfl ?_
 refine aB (AE (r:=Value.agg #[vI (p2),vI (p4)]) rfl rfl (by intro w;simp[Instr.build,Instr.fill,dA,cN,cF,dB,dC,cO,d_])) rfl ?_
 refine aF (aJ.alloc (cs:=LN) rfl rfl) rfl fun b7=>aF (aJ.alloc (cs:=LN) rfl rfl) rfl fun b8=>bH 1 (vs:=[vI (p3),vI (p4)]) rfl rfl rfl rfl rfl rfl<|bH 0 (vs:=[vI (p2),vI (p4)]) rfl rfl rfl rfl rfl rfl<|dtN<|aI<|sqR<|qkFld rfl<|qkLd 3 rfl<|dtN ?_
 refine As h rfl (fun _ h=>?_) fun _ h=>?_
 ·refine aI ?_
  refine JR.start [0,1,0,0,8,0,32,0,224,480,1016,2047,4095] 11 mixedOrders (by decide +kernel) ?_
  refine JR.open (by exact rfl) ?_
  refine jkFld rfl<|jkLd 2 rfl<|jkMove rfl<|jkLdA 1 rfl<|JR.loud rfl rfl rfl (bX (e:=bS) ([((p3,p4))]) [(0,Value.agg #[vI (p3),vI (p4)])] rfl rfl rfl rfl (uZ (vI (p3)) (vI (p4))) rfl rfl rfl) rfl (fun u10=>(rA [([3],[])] rfl)) fun u10=>jqN rfl (c_ rfl rfl rfl rfl rfl)<|bG rfl (aQ.cons 3 rfl .nil) .nil (dX 0 rfl rfl rfl rfl rfl) (aK.h (aQ.ix [2] rfl rfl) .nil aK.z)<|jqN rfl (kM rfl)<|ckE h fun j11 h=>bZ (bW 6 rfl) fun hl12=>?_
  refine bG rfl (aQ.cons 5 rfl .nil) .nil (fH 0 rfl rfl rfl rfl rfl j11.1 (by have q1:=j11.2;have q2:=hl12;(try simp only[List.length_set]at q1);(try simp only[List.length_set]at q2);(try simp only[List.length_set]);omega)) (aK.h (aQ.ix [4] rfl rfl) .nil aK.z) ?_
  refine bZ (bW 6 rfl) fun hl13=>bG rfl (aQ.cons 5 rfl .nil) .nil (jO 0 rfl rfl hl13 rfl rfl j11) (aK.h (aQ.ix [4] rfl rfl) .nil aK.z)<|ckE h fun j15 h=>JR.loud rfl rfl rfl (fT 0 bJ rfl rfl rfl (aC.row (j:=6) rfl bJ j11.1 j11.2) rfl rfl rfl rfl j15 rfl) rfl (fun u14=>(rA [([3],[])] rfl)) fun u14=>bO 11 rfl rfl<|ckE h fun j16 h=>aB (cK rfl rfl (bF (i:=5) (j:=6) rfl rfl bJ) rfl rfl j16) rfl<|bQ (Know.one ((aU (aC.res 0 rfl) bJ))) fun ho17=>jN (tZ (k:=p2) 6 0 rfl rfl rfl j16) ?_
  refine mD 4 5 ⟨j16.1,by first|exact j16.2|simpa using j16.2⟩ rfl rfl rfl rfl rfl (by simp) ho17 rfl ?_
  refine dtN<|aI ?_
  refine JR.start [0,1,0,0,8,0,32,0,224,480,1016,2047,4095] 11 mixedOrders (by decide +kernel) ?_
  refine JR.open (by exact rfl) ?_
  refine jkFld rfl<|jkLd 2 rfl<|jkMove rfl<|jkLdA 0 rfl<|JR.loud rfl rfl rfl (bX (e:=bS) ([((p2,p4))]) [(0,Value.agg #[vI (p2),vI (p4)])] rfl rfl rfl rfl (uZ (vI (p2)) (vI (p4))) rfl rfl rfl) rfl (fun u18=>(rA [([3],[])] rfl)) fun u18=>jqN rfl (c_ rfl rfl rfl rfl rfl)<|bG rfl (aQ.cons 3 rfl .nil) .nil (dX 0 rfl rfl rfl rfl rfl) (aK.h (aQ.ix [2] rfl rfl) .nil aK.z)<|jqN rfl (kM rfl)<|ckE h fun j19 h=>bZ (bW 6 rfl) fun hl20=>?_
  refine bG rfl (aQ.cons 5 rfl .nil) .nil (fH 0 rfl rfl rfl rfl rfl j19.1 (by have q1:=j19.2;have q2:=hl20;(try simp only[List.length_set]at q1);(try simp only[List.length_set]at q2);(try simp only[List.length_set]);omega)) (aK.h (aQ.ix [4] rfl rfl) .nil aK.z) ?_
  refine bZ (bW 6 rfl) fun hl21=>bG rfl (aQ.cons 5 rfl .nil) .nil (jO 0 rfl rfl hl21 rfl rfl j19) (aK.h (aQ.ix [4] rfl rfl) .nil aK.z)<|ckE h fun j23 h=>JR.loud rfl rfl rfl (fT 0 bJ rfl rfl rfl (aC.row (j:=6) rfl bJ j19.1 (by first|exact j19.2|simpa using j19.2)) rfl rfl rfl rfl j23 rfl) rfl (fun u22=>(rA [([3],[])] rfl)) fun u22=>?_
  refine bO 11 rfl rfl<|ckE h fun j24 h=>aB (cK rfl rfl (bF (i:=5) (j:=6) rfl rfl bJ) rfl rfl j24) rfl<|bQ (Know.one ((aU (aC.res 0 rfl) bJ))) fun ho25=>jN (tZ (k:=p3) 6 0 rfl rfl rfl j24) ?_
  refine mD 4 5 ⟨j24.1,by first|exact j24.2|simpa using j24.2⟩ rfl rfl rfl rfl rfl (by simp) ho25 rfl ?_
  refine dtN<|aP<|aH ?_
  cases h
  exact Bf (List.set (List.set w5 (Int.toNat p2) u14) (Int.toNat p3) u22) rfl rfl .ret (.inl rfl) (aQ.ix [4,5] rfl rfl) aD.nil
 refine cI<|ckE h fun j26 h=>ckE h fun j29 h=>ckE h fun j34 h=>ckE h fun j37 h=>ckE h fun j38 h=>ckE h fun j39 h=>ckE h fun j43 h=>Hy [0,1,0,0,8,0,0,64,0,448,960,0,2048,8128,0,16384,0,114688,245760,0,524288,2097088,4194247,8388551,16777215,33554431] 24 [[0,1,2,3,4,5,6,7,8,9,10,11,14,15,16,17,18,19,12,13,20,21,22,23,24,25],[0,1,2,3,4,5,6,7,8,9,10,11,14,15,16,17,18,19,12,20,13,21,22,23,24,25],[0,1,2,3,4,5,6,7,8,9,10,11,14,15,16,17,18,19,20,12,13,21,22,23,24,25]] mixedOrders (by decide +kernel) (by decide +kernel) ?_
 intro o ho
 simp only[List.mem_cons,List.not_mem_nil,or_false]at ho
 rcases ho with rfl|rfl|rfl
 ·refine jkFld rfl<|jkLd 2 rfl<|jkMove rfl<|jkFld rfl<|jkLd 2 rfl<|jkMove rfl<|jkFld rfl<|jkLd 2 rfl<|jkMove rfl<|bZ (bW 5 rfl) fun hl46=>?_
  refine bG rfl (aQ.cons 4 rfl .nil) .nil (fH 0 rfl rfl rfl rfl rfl j26.1 (by have q1:=j26.2;have q2:=hl46;(try simp only[List.length_set]at q1);(try simp only[List.length_set]at q2);(try simp only[List.length_set]);omega)) aK.z ?_
  refine bZ (bW 5 rfl) fun hl47=>bG rfl (aQ.cons 4 rfl .nil) .nil (jO 0 rfl rfl hl47 rfl rfl j26) aK.z<|jkLdA 1 rfl<|jkFld rfl<|jkLd 2 rfl<|jkMove rfl<|bZ (bW 5 rfl) fun hl48=>?_
  refine bG rfl (aQ.cons 4 rfl .nil) .nil (fH 0 rfl rfl rfl rfl rfl j29.1 (by have q1:=j29.2;have q2:=hl48;(try simp only[List.length_set]at q1);(try simp only[List.length_set]at q2);(try simp only[List.length_set]);omega)) aK.z ?_
  refine bZ (bW 5 rfl) fun hl49=>bG rfl (aQ.cons 4 rfl .nil) .nil (jO 0 rfl rfl hl49 rfl rfl j29) aK.z<|jkLdA 0 rfl<|JR.loud rfl rfl rfl (bX (e:=bS) ([((p3,p4))]) [(0,Value.agg #[vI (p3),vI (p4)])] rfl rfl rfl rfl (uZ (vI (p3)) (vI (p4))) rfl rfl rfl) rfl (fun u50=>(rA [([1],[]),([5],[]),([5],[]),([3],[]),([5],[]),([5],[]),([3],[]),([3],[]),([3],[])] rfl)) fun u50=>JR.loud rfl rfl rfl (lK 6 bJ rfl rfl rfl (aU (aC.res 0 rfl) bJ) rfl rfl rfl rfl j26 j34 rfl) rfl (fun u51=>(rA [([1],[]),([5],[]),([5],[]),([3],[]),([3],[]),([3],[])] rfl)) fun u51=>JR.loud rfl rfl rfl (bX (e:=bS) ([((p2,p4))]) [(0,Value.agg #[vI (p2),vI (p4)])] rfl rfl rfl rfl (uZ (vI (p2)) (vI (p4))) rfl rfl rfl) rfl (fun u52=>(rA [([6],[]),([6],[]),([4],[]),([3],[]),([6],[]),([6],[]),([4],[]),([4],[]),([4],[])] rfl)) fun u52=>JR.loud rfl rfl rfl (vG (j:=p2) 7 bJ rfl rfl rfl (aU (aC.res 0 rfl) bJ) rfl rfl rfl rfl j29 j37 rfl j38) rfl (fun u53=>(rA [([4],[]),([4],[])] rfl)) fun u53=>bZ (bW 7 rfl) fun hl54=>?_
  refine bG rfl (aQ.cons 6 rfl .nil) .nil (fH 0 rfl rfl rfl rfl rfl j39.1 (by have q1:=j39.2;have q2:=hl54;(try simp only[List.length_set]at q1);(try simp only[List.length_set]at q2);(try simp only[List.length_set]);omega)) (hkI rfl) ?_
  refine bZ (zA (k:=p2) (j:=p3) 7 rfl (by omega) ⟨j39.1,by first|exact j39.2|simpa using j39.2⟩) fun ho55=>?_
  refine uU rfl rfl rfl (xV 6 7 ⟨j39.1,by first|exact j39.2|simpa using j39.2⟩ rfl rfl rfl rfl (by simp) ho55 rfl) (fun x56=>(rA [([4],[])] rfl)) fun x56=>?_
  refine bO 24 rfl rfl<|bQ (bW 7 rfl) fun hl57=>?_
  refine aB (fH 6 rfl rfl rfl rfl rfl j43.1 (by have q1:=j43.2;have q2:=hl57;(try simp only[List.length_set]at q1);(try simp only[List.length_set]at q2);(try simp only[List.length_set]);omega)) rfl ?_
  refine bQ (uV 7 (k:=p3) rfl ⟨j43.1,by first|exact j43.2|simpa using j43.2⟩) fun ho58=>?_
  refine mD 6 7 ⟨j43.1,by first|exact j43.2|simpa using j43.2⟩ rfl rfl rfl rfl rfl (by simp) ho58 rfl ?_
  refine dY ?_
  cases h
  exact Bf (List.set (List.set w5 (Int.toNat p2) u51) (Int.toNat p3) u53) rfl rfl .normal (.inr rfl) (aQ.ix [6,7] rfl rfl) aD.nil
 ·refine jkFld rfl<|jkLd 2 rfl<|jkMove rfl<|jkFld rfl<|jkLd 2 rfl<|jkMove rfl<|jkFld rfl<|jkLd 2 rfl<|jkMove rfl<|bZ (bW 5 rfl) fun hl59=>?_
  refine bG rfl (aQ.cons 4 rfl .nil) .nil (fH 0 rfl rfl rfl rfl rfl j26.1 (by have q1:=j26.2;have q2:=hl59;(try simp only[List.length_set]at q1);(try simp only[List.length_set]at q2);(try simp only[List.length_set]);omega)) aK.z ?_
  refine bZ (bW 5 rfl) fun hl60=>bG rfl (aQ.cons 4 rfl .nil) .nil (jO 0 rfl rfl hl60 rfl rfl j26) aK.z<|jkLdA 1 rfl<|jkFld rfl<|jkLd 2 rfl<|jkMove rfl<|bZ (bW 5 rfl) fun hl61=>?_
  refine bG rfl (aQ.cons 4 rfl .nil) .nil (fH 0 rfl rfl rfl rfl rfl j29.1 (by have q1:=j29.2;have q2:=hl61;(try simp only[List.length_set]at q1);(try simp only[List.length_set]at q2);(try simp only[List.length_set]);omega)) aK.z ?_
  refine bZ (bW 5 rfl) fun hl62=>bG rfl (aQ.cons 4 rfl .nil) .nil (jO 0 rfl rfl hl62 rfl rfl j29) aK.z<|jkLdA 0 rfl<|JR.loud rfl rfl rfl (bX (e:=bS) ([((p3,p4))]) [(0,Value.agg #[vI (p3),vI (p4)])] rfl rfl rfl rfl (uZ (vI (p3)) (vI (p4))) rfl rfl rfl) rfl (fun u63=>(rA [([1],[]),([5],[]),([5],[]),([3],[]),([5],[]),([5],[]),([3],[]),([3],[]),([3],[])] rfl)) fun u63=>JR.loud rfl rfl rfl (bX (e:=bS) ([((p2,p4))]) [(0,Value.agg #[vI (p2),vI (p4)])] rfl rfl rfl rfl (uZ (vI (p2)) (vI (p4))) rfl rfl rfl) rfl (fun u64=>(rA [([6],[]),([6],[]),([4],[]),([3],[]),([6],[]),([6],[]),([4],[]),([4],[]),([4],[])] rfl)) fun u64=>JR.loud rfl rfl rfl (lK 7 bJ rfl rfl rfl (aU (aC.res 1 rfl) bJ) rfl rfl rfl rfl j26 j34 rfl) rfl (fun u65=>(rA [([2],[]),([6],[]),([6],[]),([4],[]),([4],[]),([4],[])] rfl)) fun u65=>JR.loud rfl rfl rfl (vG (j:=p2) 7 bJ rfl rfl rfl (aU (aC.res 0 rfl) bJ) rfl rfl rfl rfl j29 j37 rfl j38) rfl (fun u66=>(rA [([4],[]),([4],[])] rfl)) fun u66=>bZ (bW 7 rfl) fun hl67=>?_
  refine bG rfl (aQ.cons 6 rfl .nil) .nil (fH 0 rfl rfl rfl rfl rfl j39.1 (by have q1:=j39.2;have q2:=hl67;(try simp only[List.length_set]at q1);(try simp only[List.length_set]at q2);(try simp only[List.length_set]);omega)) (hkI rfl) ?_
  refine bZ (zA (k:=p2) (j:=p3) 7 rfl (by omega) ⟨j39.1,by first|exact j39.2|simpa using j39.2⟩) fun ho68=>?_
  refine uU rfl rfl rfl (xV 6 7 ⟨j39.1,by first|exact j39.2|simpa using j39.2⟩ rfl rfl rfl rfl (by simp) ho68 rfl) (fun x69=>(rA [([4],[])] rfl)) fun x69=>?_
  refine bO 24 rfl rfl<|bQ (bW 7 rfl) fun hl70=>?_
  refine aB (fH 6 rfl rfl rfl rfl rfl j43.1 (by have q1:=j43.2;have q2:=hl70;(try simp only[List.length_set]at q1);(try simp only[List.length_set]at q2);(try simp only[List.length_set]);omega)) rfl ?_
  refine bQ (uV 7 (k:=p3) rfl ⟨j43.1,by first|exact j43.2|simpa using j43.2⟩) fun ho71=>?_
  refine mD 6 7 ⟨j43.1,by first|exact j43.2|simpa using j43.2⟩ rfl rfl rfl rfl rfl (by simp) ho71 rfl ?_
  refine dY ?_
  cases h
  exact Bf (List.set (List.set w5 (Int.toNat p2) u65) (Int.toNat p3) u66) rfl rfl .normal (.inr rfl) (aQ.ix [6,7] rfl rfl) aD.nil
 refine jkFld rfl<|jkLd 2 rfl<|jkMove rfl<|jkFld rfl<|jkLd 2 rfl<|jkMove rfl<|jkFld rfl<|jkLd 2 rfl<|jkMove rfl<|bZ (bW 5 rfl) fun hl72=>?_
 refine bG rfl (aQ.cons 4 rfl .nil) .nil (fH 0 rfl rfl rfl rfl rfl j26.1 (by have q1:=j26.2;have q2:=hl72;(try simp only[List.length_set]at q1);(try simp only[List.length_set]at q2);(try simp only[List.length_set]);omega)) aK.z ?_
 refine bZ (bW 5 rfl) fun hl73=>bG rfl (aQ.cons 4 rfl .nil) .nil (jO 0 rfl rfl hl73 rfl rfl j26) aK.z<|jkLdA 1 rfl<|jkFld rfl<|jkLd 2 rfl<|jkMove rfl<|bZ (bW 5 rfl) fun hl74=>?_
 refine bG rfl (aQ.cons 4 rfl .nil) .nil (fH 0 rfl rfl rfl rfl rfl j29.1 (by have q1:=j29.2;have q2:=hl74;(try simp only[List.length_set]at q1);(try simp only[List.length_set]at q2);(try simp only[List.length_set]);omega)) aK.z ?_
 refine bZ (bW 5 rfl) fun hl75=>bG rfl (aQ.cons 4 rfl .nil) .nil (jO 0 rfl rfl hl75 rfl rfl j29) aK.z<|jkLdA 0 rfl<|JR.loud rfl rfl rfl (bX (e:=bS) ([((p2,p4))]) [(0,Value.agg #[vI (p2),vI (p4)])] rfl rfl rfl rfl (uZ (vI (p2)) (vI (p4))) rfl rfl rfl) rfl (fun u76=>(rA [([5],[]),([5],[]),([3],[]),([2],[]),([5],[]),([5],[]),([3],[]),([3],[]),([3],[])] rfl)) fun u76=>JR.loud rfl rfl rfl (bX (e:=bS) ([((p3,p4))]) [(0,Value.agg #[vI (p3),vI (p4)])] rfl rfl rfl rfl (uZ (vI (p3)) (vI (p4))) rfl rfl rfl) rfl (fun u77=>(rA [([2],[]),([6],[]),([6],[]),([4],[]),([6],[]),([6],[]),([4],[]),([4],[]),([4],[])] rfl)) fun u77=>JR.loud rfl rfl rfl (lK 7 bJ rfl rfl rfl (aU (aC.res 0 rfl) bJ) rfl rfl rfl rfl j26 j34 rfl) rfl (fun u78=>(rA [([2],[]),([6],[]),([6],[]),([4],[]),([4],[]),([4],[])] rfl)) fun u78=>JR.loud rfl rfl rfl (vG (j:=p2) 7 bJ rfl rfl rfl (aU (aC.res 1 rfl) bJ) rfl rfl rfl rfl j29 j37 rfl j38) rfl (fun u79=>(rA [([4],[]),([4],[])] rfl)) fun u79=>bZ (bW 7 rfl) fun hl80=>?_
 refine bG rfl (aQ.cons 6 rfl .nil) .nil (fH 0 rfl rfl rfl rfl rfl j39.1 (by have q1:=j39.2;have q2:=hl80;(try simp only[List.length_set]at q1);(try simp only[List.length_set]at q2);(try simp only[List.length_set]);omega)) (hkI rfl) ?_
 refine bZ (zA (k:=p2) (j:=p3) 7 rfl (by omega) ⟨j39.1,by first|exact j39.2|simpa using j39.2⟩) fun ho81=>?_
 refine uU rfl rfl rfl (xV 6 7 ⟨j39.1,by first|exact j39.2|simpa using j39.2⟩ rfl rfl rfl rfl (by simp) ho81 rfl) (fun x82=>(rA [([4],[])] rfl)) fun x82=>?_
 refine bO 24 rfl rfl<|bQ (bW 7 rfl) fun hl83=>?_
 refine aB (fH 6 rfl rfl rfl rfl rfl j43.1 (by have q1:=j43.2;have q2:=hl83;(try simp only[List.length_set]at q1);(try simp only[List.length_set]at q2);(try simp only[List.length_set]);omega)) rfl ?_
 refine bQ (uV 7 (k:=p3) rfl ⟨j43.1,by first|exact j43.2|simpa using j43.2⟩) fun ho84=>?_
 refine mD 6 7 ⟨j43.1,by first|exact j43.2|simpa using j43.2⟩ rfl rfl rfl rfl rfl (by simp) ho84 rfl ?_
 refine dY ?_
 cases h
 exact Bf (List.set (List.set w5 (Int.toNat p2) u78) (Int.toNat p3) u79) rfl rfl .normal (.inr rfl) (aQ.ix [6,7] rfl rfl) aD.nil
end
section
def mK (r3:BY) (a11:eF):Option qN:=
 some ((r3.1,a11))
def qS (U:Nat) (p0:Aw) (r3:BY) (a19:Int×eF) (ag18:(Int×eF)->Option qN):Option qN:=
 if a19.1<(List.length a19.2:Int)then(Option.bind (pY U p0.2.1 (wI .i64 (a19.1 - (1:Int)))) fun r23=>(Option.bind (eY U r23 a19.1) fun r26=>(Option.bind (pY U p0.2.2.1 (wI .i64 (a19.1 - (1:Int)))) fun r29=>(Option.bind (eY U r29 (15:Int)) fun r32=>(Option.bind (kV U ((p0.1,p0.2.1,p0.2.2.1,p0.2.2.2.1,p0.2.2.2.2.1,p0.2.2.2.2.2)) ((r3.1,a19.2)) r26 a19.1 (wI .i64 ((1:Int)+r32))) fun r35=>(ag18 ((wI .i64 (a19.1+(1:Int))),r35)))))))else(mK r3 (a19.2))
def kU (U:Nat) (p0:Aw) (p1:Int):Option qN:=
 Option.bind (mO U ((p0.1,p0.2.1,p0.2.2.1,p0.2.2.2.1,p0.2.2.2.2.1,p0.2.2.2.2.2)) p1) fun r3=>(bE (qS U p0 r3) U ((1:Int),r3.2))
theorem QV:aO Tryz.prog 27:=Tryz.call27
theorem wW (U:Nat) {p0:Aw} {p1:Int} (v0:Value)  (v1:Value)  (v2:Value) (r:BY) (h:kU U p0 p1=some r):
  aT Tryz.prog 27 #[Value.agg #[vI (p0.1),v0,v1,v2,vB (p0.2.2.2.2.1),vB (p0.2.2.2.2.2)],vI (p1)] [Sl bD v0 p0.2.1,Sl bD v1 p0.2.2.1,Sl bD v2 p0.2.2.2.1] (fun x:Value×Value×List Value=>Value.agg #[x.1,x.2.1]) (fun x l=>Ar bU x.1 r.1::Ar cZ.raw x.2.1 x.2.2::jK bS x.2.2 r.2::l) (fun _ l=>l):=by
 refine aT.of Tryz.func27 rfl Tryz.ntmps27 rfl fun c=>?_
 refine sqR<|aF (aJ.box (cs:=[vI (p0.1),v0,v1,v2,vB (p0.2.2.2.2.1),vB (p0.2.2.2.2.2)]) rfl rfl) rfl fun b1=>aF (aJ.alloc (cs:=[kK,kK]) rfl rfl) rfl fun b2=>dtN<|sqR<|qkLdA 1 rfl<|qkMove rfl<|bnE h fun r3 w4 h=>aF (aJ.callQ WV (BI U v0 v1 v2 r3 w4) rfl (oI [0,1,2] rfl)) rfl fun x5=>aF (aJ.alloc (cs:=[kK,kK]) rfl rfl) rfl fun b6=>bQ (Know.one ((aU (aC.res 1 rfl) cP))) fun ho7=>bQ (Know.one (aC.sl (bF (i:=2) (j:=3) rfl rfl bJ))) fun ho8=>bH 0 (vs:=[x5.1,x5.2.1]) rfl rfl (dK ho7 (dK ho8 rfl)) rfl rfl rfl<|dtN<|aI<|midL (B:=fJ) (fun a11=>mK r3 a11=some r) (fun a11 b12=>[(4,vP b2),(5,vP b6)]) (fun a11 b12=>[bM b6 [x5.1,x5.2.1] 28,Ar bU x5.1 r3.1,Ar cZ.raw x5.2.1 b12,jK bS b12 a11,bM b2 [kK,kK] 28]) ?_ ?_
 ·refine sqR<|qkAsg rfl<|dtN<|aN<|loopL (B:=fJ) (qS U p0 r3) (fun a19 b20=>[(2,vP b1),(4,vP b2),(5,vP b6),(6,vI (a19.1))]) (fun a19 b20=>[bM b6 [x5.1,x5.2.1] 28,Ar bU x5.1 r3.1,Ar cZ.raw x5.2.1 b20,jK bS b20 a19.2,bM b2 [kK,kK] 28,bM b1 [vI (p0.1),v0,v1,v2,vB (p0.2.2.2.2.1),vB (p0.2.2.2.2.2)] 24]) ((1:Int),r3.2) (x5.2.2) h SF (aQ.refl _) ?_
  intro k21 a19 b20 h
  refine aI<|sqR<|qkMove rfl<|qkFld rfl<|qkLd 0 rfl<|aB (iM rfl (bF (i:=2) (j:=3) rfl rfl bJ) rfl) rfl<|qkLss rfl<|dtN ?_
  refine eB h rfl (fun h=>?_) fun h=>?_
  ·refine cI<|aI<|aN ?_
   refine JR.start [0,0,0,4,0,16,60,0,252,0,0,1024,0,4096,15868,32252,65020,131071] 17 mixedOrders (by decide +kernel) ?_
   refine JR.open (by exact rfl) ?_
   refine jkLdA 5 rfl<|jkLdA 0 rfl<|jkFld rfl<|jkLd 5 rfl<|jkMove rfl<|jqN rfl (pR rfl rfl)<|bnE h fun r23 w24 h=>JR.loud rfl rfl rfl (aJ.callQ FV (xC U v0 r23 w24) rfl (oI [0] rfl)) rfl (fun x25=>(rA [([0],[]),([5],[])] rfl)) fun x25=>jqN rfl (kM rfl)<|bnE h fun r26 w27 h=>JR.loud rfl rfl rfl (aJ.callQ AH (jI U  r26 w27) rfl .nil) rfl (fun x28=>(rA [([0],[]),([5],[])] rfl)) fun x28=>jqN rfl (kM rfl)<|jqN rfl (c_ rfl rfl rfl rfl rfl)<|bG rfl (aQ.cons 5 rfl .nil) .nil (dX 0 rfl rfl rfl rfl rfl) (aK.h (aQ.ix [5] rfl rfl) .nil (aK.h (aQ.ix [5] rfl rfl) .nil aK.z))<|jqN rfl (kM rfl)<|jqN rfl (pR rfl rfl)<|bnE h fun r29 w30 h=>JR.loud rfl rfl rfl (aJ.callQ FV (xC U v1 r29 w30) rfl (oI [1] rfl)) rfl (fun x31=>(rA [([0],[]),([5],[])] rfl)) fun x31=>bnE h fun r32 w33 h=>JR.loud rfl rfl rfl (aJ.callQ AH (jI U  r32 w33) rfl .nil) rfl (fun x34=>(rA [([0],[]),([5],[])] rfl)) fun x34=>jqN rfl (pQ rfl rfl)<|bO 17 rfl rfl<|bnE h fun r35 w36 h=>aF (Ca (Min:=[Ar cZ.raw x5.2.1 b20,jK bS b20 a19.2]) (Mr:=[bM b6 [x5.1,x5.2.1] 28,Ar bU x5.1 r3.1,bM b2 [kK,kK] 28,bM b1 [vI (p0.1),v0,v1,v2,vB (p0.2.2.2.2.1),vB (p0.2.2.2.2.2)] 24]) QX (wX U v0 v1 v2 x5.1 x5.2.1 b20 r35 w36) rfl (aQ.ix [2,3,0,1,4,5] rfl rfl) (aD.cons (aC.fact 0 rfl) (aD.cons (aC.fact 1 rfl) (aD.cons (aC.fact 2 rfl) (aD.cons (aU (aC.res 1 rfl) cP) .nil)))) (fun _ _=>rfl)) rfl fun x37=>dY<|inT<|aM<|qkMove rfl<|qkAdd rfl<|qkAsg rfl<|dtN ?_
   exact lS ((wI .i64 (a19.1+(1:Int))),r35) (x37) h SF (aQ.ix [2,3,0,1,4,5] rfl rfl) (aD.refl _ _)
  refine vT ?_
  exact bY (a19.2) (b20) h SF (aQ.ix [0,1,2,3,4] rfl rfl) (aD.refl _ _)
 intro a11 b12 h
 unfold mK at h
 refine sqR<|qkLdA 0 rfl<|bQ (Know.one ((aU (aC.res 1 rfl) cP))) fun ho13=>bQ (Know.one (aC.sl (bF (i:=2) (j:=3) rfl rfl bJ))) fun ho14=>bH 4 (vs:=[x5.1,x5.2.1]) rfl rfl (dK ho13 (dK ho14 rfl)) rfl rfl rfl<|dtN<|aP ?_
 cases h
 exact fS (x5.1,x5.2.1,b12) rfl rfl (RV.cell 4 rfl rfl rfl rfl) (aQ.ix [1,2,3] rfl rfl) aD.nil
end
section
def lU  (a3:Unit):Option (Bool):=
 some (true)
def lV (a7:Int) (ag6:(Int)->Option (Bool)) (a11:Unit):Option (Bool):=
 ag6 (wI .i64 (a7+(1:Int)))
def lW (a17:Int) (ag16:(Int)->Option (Bool)) (a28:Bool):Option (Bool):=
 if a28=true then(some (false))else(ag16 (wI .i64 (a17+(1:Int))))
def jF (p1:aX) (a7:Int) (a17:Int) (ag16:(Int)->Option (Bool)) (a25:eZ):Option (Bool):=
 if(at' (at' p1 a7) a17)<a25.1 then(lW a17 ag16 (true))else(lW a17 ag16 (decide (a25.2<(at' (at' p1 a7) a17))))
def dL (p0:cM) (p1:aX) (p2:aL) (a7:Int) (ag6:(Int)->Option (Bool)) (a17:Int) (ag16:(Int)->Option (Bool)):Option (Bool):=
 if a17<(List.length (at' p1 a7):Int)then(ck (0<=a17∧a17<(List.length (at' p1 a7):Int)) (ck (0<=a17∧a17<(List.length p2:Int)) (if(at' p2 a17)=(-1:Int)then(ck (0<=a7∧a7<(List.length p0.2:Int)) (jF p1 a7 a17 ag16 ((-1:Int),(wI .i64 ((List.length (at' p0.2 a7):Int) - (1:Int))))))else(jF p1 a7 a17 ag16 ((0:Int),(at' p2 a17))))))else(lV a7 ag6 (()))
def cT (U:Nat) (p0:cM) (p1:aX) (p2:aL) (a7:Int) (ag6:(Int)->Option (Bool)):Option (Bool):=
 if a7<(List.length p1:Int)then(ck (0<=a7∧a7<(List.length p1:Int)) (if(List.length (at' p1 a7):Int)≠(List.length p2:Int)then(some (false))else(bE (dL p0 p1 p2 a7 ag6) U (0:Int))))else(lU  (()))
def gW (U:Nat) (p0:cM) (p1:aX) (p2:aL):Option (Bool):=
 if(List.length p1:Int)≠(List.length p0.1:Int)then(some (false))else(bE (cT U p0 p1 p2) U (0:Int))
theorem QW:aO Tryz.prog 34:=Tryz.call34
theorem vW (U:Nat) {p0:cM} {p1:aX} {p2:aL} (v0:Value)  (v1:Value)  (z2:mB)  (v3:Value)  (z4:pJ)  (v5:Value) (r:Bool) (h:gW U p0 p1 p2=some r):
  aT Tryz.prog 34 #[Value.agg #[v0,v1],v3,v5] [Sl bD v0 p0.1,S2 aV v1 z2 p0.2,S2 bD v3 z4 p1,Sl bD v5 p2] (fun x:Unit=>vB (r)) (fun x l=>l) (fun _ l=>l):=by
 refine aT.of Tryz.func34 rfl Tryz.ntmps34 rfl fun c=>?_
 refine sqR<|aF (aJ.box (cs:=[v0,v1]) rfl rfl) rfl fun b1=>qkAsg rfl<|dtN<|aI<|sqR<|qkMove rfl<|aB (iM rfl (aC.fact 2 rfl) rfl) rfl<|qkFld rfl<|qkLd 0 rfl<|qkLen (aC.fact 0 rfl) rfl<|qkNeq rfl<|dtN ?_
 refine eB h rfl (fun h=>?_) fun h=>?_
 ·refine sqR<|qkAsg rfl<|dtN<|aP<|aH ?_
  cases h
  exact tV rfl
 refine cI<|aI<|midU (fun a3=>lU  a3=some r) (fun a3 b4=>[]) (fun a3 b4=>[]) ?_ ?_
 ·refine sqR<|qkMove rfl<|aB (iM rfl (aC.fact 2 rfl) rfl) rfl<|qkMove rfl<|dtN<|aN<|loopL (cT U p0 p1 p2) (fun a7 b8=>[(2,v5),(3,vP b1),(19,v3),(20,vI (List.length p1:Int)),(21,vI (a7))]) (fun a7 b8=>[bM b1 [v0,v1] 28]) (0:Int) () h SF (aQ.refl _) ?_
  intro k9 a7 b8 h
  refine sqR<|qkLss rfl<|dtN<|aI ?_
  refine eB h rfl (fun h=>?_) fun h=>?_
  ·refine cI<|aI<|midU (fun a11=>lV a7 (bE (cT U p0 p1 p2) k9) a11=some r) (fun a11 b12=>[(2,v5),(3,vP b1),(19,v3),(20,vI (List.length p1:Int)),(21,vI (a7))]) (fun a11 b12=>[bM b1 [v0,v1] 28]) ?_ ?_
   ·refine aN<|sqR<|qkMove rfl<|ckE h fun j13 h=>aB (cK rfl rfl (aC.fact 2 rfl) rfl rfl j13) rfl<|aB (cJ rfl (aC.fact 2 rfl) rfl rfl j13) rfl<|qkAsg rfl<|qkAsg rfl<|dtN<|aI<|sqR<|qkMove rfl<|aB (fR rfl (aC.el (aC.fact 2 rfl) j13.1 j13.2) rfl) rfl<|qkMove rfl<|qkLen (aC.fact 3 rfl) rfl<|qkNeq rfl<|dtN ?_
    refine eB h rfl (fun h=>?_) fun h=>?_
    ·refine sqR<|qkAsg rfl<|dtN<|aP<|aH<|bK<|aH<|aH<|bK<|aH ?_
     cases h
     exact tV rfl
    refine cI<|sqR<|qkMove rfl<|aB (fR rfl (aC.el (aC.fact 2 rfl) j13.1 j13.2) rfl) rfl<|qkMove rfl<|dtN<|aN<|loopL (dL p0 p1 p2 a7 (bE (cT U p0 p1 p2) k9)) (fun a17 b18=>[(2,v5),(3,vP b1),(7,vI (a7)),(19,v3),(20,vI (List.length p1:Int)),(21,vI (a7)),(31,(at' z4 a7).1),(32,vI (List.length (at' p1 a7):Int)),(33,vI (a17))]) (fun a17 b18=>[bM b1 [v0,v1] 28]) (0:Int) () h SF (aQ.refl _) ?_
    intro k19 a17 b18 h
    refine sqR<|qkLss rfl<|dtN<|aI ?_
    refine eB h rfl (fun h=>?_) fun h=>?_
    ·refine cI<|aI<|aN<|sqR<|qkMove rfl<|ckE h fun j21 h=>aB (aY rfl rfl (aC.el (aC.fact 2 rfl) j13.1 j13.2) rfl rfl j21) rfl<|aB (bT rfl (aC.el (aC.fact 2 rfl) j13.1 j13.2) rfl rfl rfl dO j21) rfl<|qkAsg rfl<|qkAsg rfl<|dtN<|aI ?_
     refine JR.start [0,0,3,7,0,31] 5 mixedOrders (by decide +kernel) ?_
     refine JR.open (by exact rfl) ?_
     refine jkMove rfl<|jkMove rfl<|ckE h fun j22 h=>bG rfl .nil (mJ 3 rfl) (aY rfl rfl (aC.fact 0 rfl) rfl rfl j22) aK.z<|bG rfl .nil (mJ 3 rfl) (bT rfl (aC.fact 0 rfl) rfl rfl rfl dO j22) aK.z<|jqN rfl (sY rfl)<|bO 5 rfl rfl<|qkAsg rfl<|dtN<|aI<|midU (fun a25=>jF p1 a7 a17 (bE (dL p0 p1 p2 a7 (bE (cT U p0 p1 p2) k9)) k19) a25=some r) (fun a25 b26=>[(2,v5),(3,vP b1),(7,vI (a7)),(10,vI (at' (at' p1 a7) a17)),(11,vI (a25.1)),(12,vI (a25.2)),(19,v3),(20,vI (List.length p1:Int)),(21,vI (a7)),(31,(at' z4 a7).1),(32,vI (List.length (at' p1 a7):Int)),(33,vI (a17))]) (fun a25 b26=>[bM b1 [v0,v1] 28]) ?_ ?_
     ·refine sqR<|qkMove rfl<|qkEql rfl<|dtN ?_
      refine eB h rfl (fun h=>?_) fun h=>?_
      ·refine JR.start [0,1,0,7,15,31,63,0,255] 8 mixedOrders (by decide +kernel) ?_
       refine JR.open (by exact rfl) ?_
       refine jkFld rfl<|jkLd 0 rfl<|jkMove rfl<|ckE h fun j33 h=>bG rfl .nil (mJ 1 rfl) (cK rfl rfl (aC.fact 0 rfl) rfl rfl j33) aK.z<|bG rfl .nil (mJ 1 rfl) (cJ rfl (aC.fact 0 rfl) rfl rfl j33) aK.z<|bG rfl .nil (mJ 1 rfl) (fR rfl (aC.el (aC.fact 0 rfl) j33.1 j33.2) rfl) aK.z<|jqN rfl (pR rfl rfl)<|jqN rfl (sY rfl)<|bO 8 rfl rfl<|qkAsg rfl<|dtN ?_
       exact jV ((-1:Int),(wI .i64 ((List.length (at' p0.2 a7):Int) - (1:Int)))) () h SF rfl
      refine cI ?_
      exact jV ((0:Int),(at' p2 a17)) () h SF rfl
     intro a25 b26 h
     refine aI<|midU (fun a28=>lW a17 (bE (dL p0 p1 p2 a7 (bE (cT U p0 p1 p2) k9)) k19) a28=some r) (fun a28 b29=>[(2,v5),(3,vP b1),(7,vI (a7)),(19,v3),(20,vI (List.length p1:Int)),(21,vI (a7)),(31,(at' z4 a7).1),(32,vI (List.length (at' p1 a7):Int)),(33,vI (a17)),(58,vB (a28))]) (fun a28 b29=>[bM b1 [v0,v1] 28]) ?_ ?_
     ·refine aM<|qkMove rfl<|qkMove rfl<|qkLss rfl<|qkMove rfl ?_
      refine Cv h rfl (fun _ h=>?_) fun _ h=>?_
      ·refine gdSkip rfl<|gdSkip rfl<|gdSkip rfl<|qkPkT rfl<|dtN ?_
       exact jV (true) () h SF rfl
      refine gyMove rfl<|gyMove rfl<|aR rfl (uX rfl rfl) rfl<|qkPkF rfl<|dtN ?_
      exact jV (decide (a25.2<(at' (at' p1 a7) a17))) () h SF rfl
     intro a28 b29 h
     refine As h rfl (fun _ h=>?_) fun _ h=>?_
     ·refine sqR<|qkAsg rfl<|dtN<|aP<|bK<|aH<|aH<|bK<|bK<|aH<|aH<|bK<|aH ?_
      cases h
      exact tV rfl
     refine cU<|inT<|aM<|qkAdd rfl<|qkMove rfl<|dtN ?_
     exact yF (wI .i64 (a17+(1:Int))) () h SF rfl
    refine oY<|dH<|dH<|tS<|inT ?_
    exact jV () (()) h SF rfl
   intro a11 b12 h
   unfold lV at h
   refine aM<|qkAdd rfl<|qkMove rfl<|dtN ?_
   exact yF (wI .i64 (a7+(1:Int))) () h SF rfl
  refine vT ?_
  exact bY () (()) h SF .nil (aD.refl _ _)
 intro a3 b4 h
 unfold lU at h
 refine sqR<|qkAsg rfl<|dtN<|aP ?_
 cases h
 exact lI rfl
end
section
def pC  (a12:Unit):Option (Bool):=
 some (true)
def pE (a23:Int) (ag22:(Int)->Option (Bool)) (a27:Unit):Option (Bool):=
 ag22 (wI .i64 (a23+(1:Int)))
def pF (a32:Int) (ag31:(Int)->Option (Bool)) (a40:Bool):Option (Bool):=
 if a40=true then(some (false))else(ag31 (wI .i64 (a32+(1:Int))))
def fO (p0:cM) (p1:aX) (p2:Int) (a23:Int) (ag22:(Int)->Option (Bool)) (a32:Int) (ag31:(Int)->Option (Bool)):Option (Bool):=
 if a32<(List.length (at' p0.2 a23):Int)then(ck (0<=a32∧a32<(List.length (at' p0.2 a23):Int)) (ck (0<=a23) (if(cS .u32 (nU .u32 p2 a23) (1:Int))=(0:Int)then(ck (0<=a23∧a23<(List.length p1:Int)) (ck (0<=(0:Int)∧(0:Int)<(List.length (at' p1 a23):Int)) (ck (0<=((at' (at' p0.2 a23) a32).1)∧((at' (at' p0.2 a23) a32).1)<(List.length p1:Int)) (ck (0<=(0:Int)∧(0:Int)<(List.length (at' p1 ((at' (at' p0.2 a23) a32).1)):Int)) (pF a32 ag31 (decide ((at' (at' p1 a23) (0:Int))=(at' (at' p1 ((at' (at' p0.2 a23) a32).1)) (0:Int)))))))))else(pF a32 ag31 (false)))))else(pE a23 ag22 (()))
def eN (U:Nat) (p0:cM) (p1:aX) (p2:Int) (a23:Int) (ag22:(Int)->Option (Bool)):Option (Bool):=
 if a23<(List.length p0.2:Int)then(ck (0<=a23∧a23<(List.length p0.2:Int)) (bE (fO p0 p1 p2 a23 ag22) U (0:Int)))else(pC  (()))
def pD (U:Nat) (p0:cM) (p1:aX) (p2:Int) (a15:Unit):Option (Bool):=
 bE (eN U p0 p1 p2) U (0:Int)
def pB (U:Nat) (p0:cM) (p1:aX) (p2:Int) (a8:Bool):Option (Bool):=
 if a8=true then(some (false))else(pD U p0 p1 p2 (()))
def nM (U:Nat) (p0:cM) (p1:aX) (p2:Int):Option (Bool):=
 Option.bind (fC U ((p0.1,p0.2))) fun r50=>(if(!r50)=true then(pB U p0 p1 p2 (true))else(Option.bind (gW U ((p0.1,p0.2)) p1 ([(List.length p0.1:Int)])) fun r55=>(pB U p0 p1 p2 ((!r55)))))
theorem WN:aO Tryz.prog 22:=Tryz.call22
theorem Em (U:Nat) {p0:cM} {p1:aX} {p2:Int} (v0:Value)  (v1:Value)  (z2:mB)  (v3:Value)  (z4:pJ) (r:Bool) (h:nM U p0 p1 p2=some r):
  aT Tryz.prog 22 #[Value.agg #[v0,v1],v3,vU (p2)] [Sl bD v0 p0.1,S2 aV v1 z2 p0.2,S2 bD v3 z4 p1] (fun x:Unit=>vB (r)) (fun x l=>l) (fun _ l=>l):=by
 refine aT.of Tryz.func22 rfl Tryz.ntmps22 rfl fun c=>?_
 refine jN CM<|sqR<|aF (aJ.box (cs:=[v0,v1]) rfl rfl) rfl fun b2=>bQ (Know.one (aC.sl (aC.fact 2 rfl))) fun ho4=>?_
 refine aF (aJ.box (cs:=[v3]) rfl (by rw[gK ho4])) rfl fun b3=>?_
 refine aF (aJ.box (cs:=[vU (p2)]) rfl rfl) rfl fun b5=>aF (aJ.alloc (cs:=[vB (false)]) rfl rfl) rfl fun b6=>dtN<|aI<|aI<|xT (A:=Bool) (B:=Unit) (fun a8 b9=>⟨47,vV ([]:eC)⟩) (fun a8=>pB U p0 p1 p2 a8=some r) (fun a8 b9=>[(3,vP b2),(4,vP b3),(5,vP b5),(6,vP b6),(21,vB (a8))]) (fun a8 b9=>[bM b6 [vB (false)] 4,bM b5 [vU (p2)] 25,bM b3 [v3] 36,bM b2 [v0,v1] 28,Ae ([]:eC)]) (fun a8 b9=>[Sl bD v0 p0.1,S2 aV v1 z2 p0.2,S2 bD v3 z4 p1]) ?_ ?_
 ·refine aM<|qkLdA 3 rfl<|bnE h fun r50 w51 h=>aF (aJ.callQ IP (uQ U v0 v1 z2 r50 w51) rfl (oI [0,1] rfl)) rfl fun x52=>aB (qL rfl) rfl<|qkMove rfl ?_
  refine CE (by exact rfl) (by exact rfl) (fun hp53=>?_) (fun hp53=>?_)
  ·have h:=RY hp53 h
   refine gdSkip rfl<|gdSkip rfl<|gdSkip rfl<|gdSkip rfl<|gdSkip rfl<|gdSkip rfl<|gdSkip rfl<|gdSkip rfl<|qkPkT rfl<|dtN ?_
   exact nS (true) () rfl h SF (aQ.refl _) (aD.refl _ _)
  have h:=RX hp53 h
  refine aR rfl (iN 3 rfl rfl rfl rfl) rfl<|aR rfl (dX 2 rfl rfl rfl rfl rfl) rfl<|aR rfl (c_ rfl rfl rfl rfl rfl) rfl<|aR rfl (dX 3 rfl rfl rfl rfl rfl) rfl<|aR rfl (fR rfl (aC.fact 0 rfl) rfl) rfl<|sV rfl (bX (e:=bU) ([(List.length p0.1:Int)]) [(0,vI (List.length p0.1:Int))] rfl rfl rfl rfl (lX (vI (List.length p0.1:Int)) rfl) rfl rfl rfl) rfl fun u54=>bnE h fun r55 w56 h=>sV rfl (aJ.callQ QW (vW U v0 v1 z2 v3 z4 u54 r55 w56) rfl (aD.cons (aC.fact 0 rfl) (aD.cons (aC.fact 1 rfl) (aD.cons (aC.fact 2 rfl) (aD.cons (aU (aC.res 0 rfl) cP) .nil))))) rfl fun x57=>aR rfl (qL rfl) rfl<|qkPkF rfl<|dtN ?_
  exact nS ((!r55)) () rfl h SF (aQ.ix [1,2,3,4,5] rfl rfl) (aD.refl _ _)
 intro a8 b9 h
 refine As h rfl (fun _ h=>?_) fun _ h=>?_
 ·refine sqR<|eK 0 rfl rfl rfl rfl rfl rfl<|dtN<|aP<|aH<|gY (i:=4) (Ds:=([]:eC)) (.inl rfl) rfl ?_
  cases h
  exact fS () rfl rfl (AB 0 rfl rfl rfl rfl) .nil aD.nil
 refine cI<|aI<|xT (A:=Unit) (B:=eC) (fun a12 b13=>⟨47,vV b13⟩) (fun a12=>pC  a12=some r) (fun a12 b13=>[(6,vP b6)]) (fun a12 b13=>[bM b6 [vB (false)] 4,Ae b13]) (fun a12 b13=>[Sl bD v0 p0.1,S2 aV v1 z2 p0.2,S2 bD v3 z4 p1]) ?_ ?_
 ·refine sqR<|qkLdA 3 rfl<|xS (A:=Unit) (B:=Nat) (vs:=[Value.agg #[v0,v1]]) (fun a15=>pD U p0 p1 p2 a15=some r) (fun a15 b16=>Value.func (.func 50) #[] #[vP b16]) (fun a15 b16=>[bM b16 [v0,v1] 28,bM b6 [vB (false)] 4,bM b5 [vU (p2)] 25,bM b3 [v3] 36,Ae ([]:eC)]) (fun a15 b16=>[Sl bD v0 p0.1,S2 aV v1 z2 p0.2,S2 bD v3 z4 p1]) (sL.fn (show aO Tryz.prog 35 from Tryz.call35) rfl) Tryz.func35 rfl Tryz.ntmps35 rfl rfl ?_ ?_
  ·refine sqR<|aF (aJ.box (cs:=[v0,v1]) rfl rfl) rfl fun b49=>qkAsg rfl<|dtN<|sqR<|aB (t_ (cs:=[.tmp 1]) (vs:=[vP b49]) rfl) rfl<|qkAsg rfl<|dtN<|aP ?_
   exact sW () (b49) h (.inl rfl) (CK.r1 rfl (RV.tmp rfl)) rfl (aQ.ix [0,1,2,3,5] rfl rfl) (aD.refl _ _)
  intro a15 b16 h
  unfold pD at h
  refine dtN<|aN<|vX (i:=4) (cs:=[vP b16]) ([]:eC) rfl (show aO Tryz.prog 50 from Tryz.call50) rfl Tryz.func50 rfl Tryz.ntmps50 rfl fun NV D18 R19 hR20=>sqR<|qkFld rfl<|qkLd 1 rfl<|aB (iM rfl (aC.fact 1 rfl) rfl) rfl<|qkMove rfl<|dtN<|aN<|loopL (eN U p0 p1 p2) (fun a23 b24=>[(0,mG NV),(8,v1),(9,vI (List.length p0.2:Int)),(10,vI (a23))]) (fun a23 b24=>[Lp NV R19 LoopState.ready none,bM b16 [v0,v1] 28,bM b6 [vB (false)] 4,bM b5 [vU (p2)] 25,bM b3 [v3] 36,Ae (List.cons D18 ([]:eC))]) (0:Int) () h SF (aQ.refl _) ?_
  intro k25 a23 b24 h
  refine sqR<|qkLss rfl<|dtN<|aI ?_
  refine eB h rfl (fun h=>?_) fun h=>?_
  ·refine cI<|aI<|midU (fun a27=>pE a23 (bE (eN U p0 p1 p2) k25) a27=some r) (fun a27 b28=>[(0,mG NV),(8,v1),(9,vI (List.length p0.2:Int)),(10,vI (a23))]) (fun a27 b28=>[Lp NV R19 LoopState.ready none,bM b16 [v0,v1] 28,bM b6 [vB (false)] 4,bM b5 [vU (p2)] 25,bM b3 [v3] 36,Ae (List.cons D18 ([]:eC))]) ?_ ?_
   ·refine aN<|sqR<|qkMove rfl<|ckE h fun j29 h=>aB (cK rfl rfl (aC.fact 1 rfl) rfl rfl j29) rfl<|aB (cJ rfl (aC.fact 1 rfl) rfl rfl j29) rfl<|qkAsg rfl<|qkAsg rfl<|dtN<|sqR<|qkMove rfl<|aB (fR rfl (aC.el (aC.fact 1 rfl) j29.1 j29.2) rfl) rfl<|qkMove rfl<|dtN<|aN<|loopL (fO p0 p1 p2 a23 (bE (eN U p0 p1 p2) k25)) (fun a32 b33=>[(0,mG NV),(3,vI (a23)),(8,v1),(9,vI (List.length p0.2:Int)),(10,vI (a23)),(15,(at' z2 a23).1),(16,vI (List.length (at' p0.2 a23):Int)),(17,vI (a32))]) (fun a32 b33=>[Lp NV R19 LoopState.ready none,bM b16 [v0,v1] 28,bM b6 [vB (false)] 4,bM b5 [vU (p2)] 25,bM b3 [v3] 36,Ae (List.cons D18 ([]:eC))]) (0:Int) () h SF (aQ.refl _) ?_
    intro k34 a32 b33 h
    refine sqR<|qkLss rfl<|dtN<|aI ?_
    refine eB h rfl (fun h=>?_) fun h=>?_
    ·refine cI<|aI<|aN<|sqR<|ckE h fun j36 h=>aB (aY rfl rfl (aC.el (aC.fact 1 rfl) j29.1 j29.2) rfl rfl j36) rfl<|aB (fL (cs:=[vI ((at' (at' p0.2 a23) a32).1),vI ((at' (at' p0.2 a23) a32).2)]) rfl (aC.el (aC.fact 1 rfl) j29.1 j29.2) bJ rfl rfl rfl rfl j36) rfl<|aF (aJ.alloc (cs:=LN) rfl rfl) rfl fun b37=>bH 0 (vs:=[vI ((at' (at' p0.2 a23) a32).1),vI ((at' (at' p0.2 a23) a32).2)]) rfl rfl rfl rfl rfl rfl<|dtN<|sqR<|qkMove rfl<|qkMove rfl<|qkLdA 0 rfl<|CG (us:=[vI (a23),Value.agg #[vI ((at' (at' p0.2 a23) a32).1),vI ((at' (at' p0.2 a23) a32).2)]]) (i:=1) hR20 rfl rfl rfl rfl rfl rfl<|sqR<|qkAsg rfl<|dtN<|aM<|aF (aJ.alloc (cs:=LN) rfl rfl) rfl fun b38=>bH 0 (vs:=[vI ((at' (at' p0.2 a23) a32).1),vI ((at' (at' p0.2 a23) a32).2)]) rfl rfl rfl rfl rfl rfl<|dtN<|EY (i:=2) rfl<|aN<|aI<|midU (fun a40=>pF a32 (bE (fO p0 p1 p2 a23 (bE (eN U p0 p1 p2) k25)) k34) a40=some r) (fun a40 b41=>[(6,vP b6),(46,vB (a40))]) (fun a40 b41=>[Lp NV R19 LoopState.busy none,bM b16 [v0,v1] 28,bM b6 [vB (false)] 4,bM b5 [vU (p2)] 25,bM b3 [v3] 36,Ae (List.cons D18 ([]:eC))]) ?_ ?_
     ·refine JR.start [0,0,3,7,15,31,63,63,255,511,1023,2047,63,63,8255,28735,61503,127039,258111,524287,1048575] 19 mixedOrders (by decide +kernel) ?_
      refine JR.open (by exact rfl) ?_
      refine jkLd 5 rfl<|jkMove rfl<|ckE h fun j43 h=>jqN rfl (CQ rfl rfl j43)<|jqN rfl (Kk rfl rfl)<|jqN rfl (No rfl rfl)<|jkMove rfl ?_
      refine Hx (by exact rfl) (by exact rfl) (by exact rfl) (fun hp44=>?_) (fun hp44=>?_)
      ·have h:=RY hp44 h
       refine kB rfl (aQ.cons 6 rfl .nil) .nil (dX 0 rfl rfl rfl rfl rfl) aK.z<|kB rfl .nil .nil (kM rfl) aK.z<|ckE h fun j45 h=>kB rfl .nil (mJ 2 rfl) (cK rfl rfl (aC.fact 0 rfl) rfl rfl j45) aK.z<|kB rfl .nil (mJ 2 rfl) (cJ rfl (aC.fact 0 rfl) rfl rfl j45) aK.z<|ckE h fun j46 h=>kB rfl .nil (mJ 2 rfl) (aY rfl rfl (aC.el (aC.fact 0 rfl) j45.1 j45.2) rfl rfl j46) aK.z<|kB rfl .nil (mJ 2 rfl) (bT rfl (aC.el (aC.fact 0 rfl) j45.1 j45.2) rfl rfl rfl dO j46) aK.z<|kB rfl (aQ.cons 6 rfl .nil) .nil (dX 0 rfl rfl rfl rfl rfl) aK.z<|kB rfl .nil .nil (c_ rfl rfl rfl rfl rfl) aK.z<|kB rfl (aQ.cons 0 rfl .nil) .nil (dX 0 rfl rfl rfl rfl rfl) aK.z<|ckE h fun j47 h=>kB rfl .nil (mJ 2 rfl) (cK rfl rfl (aC.fact 0 rfl) rfl rfl j47) aK.z<|kB rfl .nil (mJ 2 rfl) (cJ rfl (aC.fact 0 rfl) rfl rfl j47) aK.z<|ckE h fun j48 h=>kB rfl .nil (mJ 2 rfl) (aY rfl rfl (aC.el (aC.fact 0 rfl) j47.1 j47.2) rfl rfl j48) aK.z<|kB rfl .nil (mJ 2 rfl) (bT rfl (aC.el (aC.fact 0 rfl) j47.1 j47.2) rfl rfl rfl dO j48) aK.z<|bO 19 rfl rfl<|aR rfl (No rfl rfl) rfl<|qkPkT rfl<|dtN ?_
       exact bY (decide ((at' (at' p1 a23) (0:Int))=(at' (at' p1 ((at' (at' p0.2 a23) a32).1)) (0:Int)))) () h SF (aQ.ix [2,3,4,5,6,7] rfl rfl) (aD.refl _ _)
      have h:=Yq hp44 h
      refine dQ rfl rfl rfl rfl<|dQ rfl rfl rfl rfl<|dQ rfl rfl rfl rfl<|dQ rfl rfl rfl rfl<|dQ rfl rfl rfl rfl<|dQ rfl rfl rfl rfl<|dQ rfl rfl rfl rfl<|dQ rfl rfl rfl rfl<|dQ rfl rfl rfl rfl<|dQ rfl rfl rfl rfl<|dQ rfl rfl rfl rfl<|dQ rfl rfl rfl rfl<|dQ rfl rfl rfl rfl<|bO 19 rfl rfl<|gdSkip rfl<|qkPkF rfl<|dtN ?_
      exact bY (false) () h SF (aQ.ix [2,3,4,5,6,7] rfl rfl) (aD.refl _ _)
     intro a40 b41 h
     refine As h rfl (fun _ h=>?_) fun _ h=>?_
     ·refine sqR<|eK 2 rfl rfl rfl rfl rfl rfl<|dtN<|aP<|bK<|JO (i:=0) rfl<|aB (qL rfl) rfl<|dtN<|Iz rfl<|aP<|bK<|aH<|aH<|bK<|bK<|aH<|aH<|bK<|Nn (i:=0) (.inl rfl) rfl (CK.r0 rfl)<|bK<|aH<|gY (i:=5) (Ds:=(List.cons D18 ([]:eC))) (.inl rfl) rfl ?_
      cases h
      exact fS () rfl rfl (AB 2 rfl rfl rfl rfl) .nil aD.nil
     refine cU<|BJ<|yH (i:=0) rfl<|aB (qL rfl) rfl<|dtN<|y_ rfl<|cU<|inT<|aM<|qkAdd rfl<|qkMove rfl<|dtN ?_
     exact yF (wI .i64 (a32+(1:Int))) () h SF rfl
    refine oY<|dH<|dH<|tS<|inT ?_
    exact jV () (()) h SF rfl
   intro a27 b28 h
   unfold pE at h
   refine aM<|qkAdd rfl<|qkMove rfl<|dtN ?_
   exact yF (wI .i64 (a23+(1:Int))) () h SF rfl
  refine oY<|dH<|dH<|tS<|IB (i:=0) (.inr rfl) rfl (CK.r0 rfl)<|inT ?_
  exact nS () (List.cons D18 ([]:eC)) rfl h SF (aQ.ix [2,5] rfl rfl) (aD.refl _ _)
 intro a12 b13 h
 unfold pC at h
 refine sqR<|eK 0 rfl rfl rfl rfl rfl rfl<|dtN<|aP<|gY (i:=1) (Ds:=(b13)) (.inl rfl) rfl ?_
 cases h
 exact fS () rfl rfl (AB 0 rfl rfl rfl rfl) .nil aD.nil
end
section
def rV  (a10:aL):Option aL:=
 some (a10)
def oG (a29:Int×aL×aL) (ag28:(Int×aL×aL)->Option aL) (a36:aL×aL):Option aL:=
 ag28 ((wI .i64 (a29.1+(1:Int))),a36.1,a36.2)
def oH (p0:cM) (a16:aL×aL) (ag15:(aL×aL)->Option aL) (a29:Int×aL×aL) (ag28:(Int×aL×aL)->Option aL):Option aL:=
 if a29.1<(List.length (at' p0.2 (at' a16.1 (0:Int))):Int)then(ck (0<=a29.1∧a29.1<(List.length (at' p0.2 (at' a16.1 (0:Int))):Int)) (ck (0<=((at' (at' p0.2 (at' a16.1 (0:Int))) a29.1).1)∧((at' (at' p0.2 (at' a16.1 (0:Int))) a29.1).1)<(List.length a29.2.2:Int)) (if(at' a29.2.2 ((at' (at' p0.2 (at' a16.1 (0:Int))) a29.1).1))<(0:Int)then(ck (0<=(at' a16.1 (0:Int))∧(at' a16.1 (0:Int))<(List.length a29.2.2:Int)) (ck (0<=((at' (at' p0.2 (at' a16.1 (0:Int))) a29.1).1)∧((at' (at' p0.2 (at' a16.1 (0:Int))) a29.1).1)<(List.length a29.2.2:Int)) (ck ((List.length a29.2.1:Int)+(List.length ([((at' (at' p0.2 (at' a16.1 (0:Int))) a29.1).1)]):Int)<=1099511627) (oG a29 ag28 ((a29.2.1++([((at' (at' p0.2 (at' a16.1 (0:Int))) a29.1).1)])),(List.set a29.2.2 (Int.toNat ((at' (at' p0.2 (at' a16.1 (0:Int))) a29.1).1)) (wI .i64 ((at' a29.2.2 (at' a16.1 (0:Int)))+(1:Int)))))))))else(oG a29 ag28 (a29.2.1,a29.2.2)))))else(ag15 (a29.2.1,a29.2.2))
def lM (U:Nat) (p0:cM) (a16:aL×aL) (ag15:(aL×aL)->Option aL):Option aL:=
 if(0:Int)<(List.length a16.1:Int)then(ck (0<=(0:Int)∧(0:Int)<(List.length a16.1:Int)) (ck (0<=(1:Int)∧(1:Int)<=(List.length a16.1:Int)) (ck (0<=(at' a16.1 (0:Int))∧(at' a16.1 (0:Int))<(List.length p0.2:Int)) (bE (oH p0 a16 ag15) U ((0:Int),(List.drop (Int.toNat (1:Int)) a16.1),a16.2)))))else(rV  (a16.2))
def vK (U:Nat) (p0:cM) (p1:Int) (a5:aL):Option aL:=
 ck (0<=p1∧p1<(List.length a5:Int)) (bE (lM U p0) U (([p1]),(List.set a5 (Int.toNat p1) (0:Int))))
def vL (U:Nat) (p0:cM) (p1:Int) (a50:mI) (ag49:sR->Option aL):Option aL:=
 if a50.1<(List.length (List.replicate (Int.toNat (List.length p0.2:Int)) (0:Int)):Int)then(ck (0<=a50.1∧a50.1<(List.length a50.2:Int)) (ag49 ((wI .i64 (a50.1+(1:Int))),(List.set a50.2 (Int.toNat a50.1) (-1:Int)))))else(vK U p0 p1 (a50.2))
def pU (U:Nat) (p0:cM) (p1:Int):Option aL:=
 ck (0<=(List.length p0.2:Int)∧(List.length p0.2:Int)<=1099511627) (bE (vL U p0 p1) U ((0:Int),(List.replicate (Int.toNat (List.length p0.2:Int)) (0:Int))))
theorem Xc:aO Tryz.prog 77:=Tryz.call77
theorem GQ (U:Nat) {p0:cM} {p1:Int} (v0:Value)  (v1:Value)  (z2:mB) (r:aL) (h:pU U p0 p1=some r):
  aT Tryz.prog 77 #[Value.agg #[v0,v1],vI (p1)] [Sl bD v0 p0.1,S2 aV v1 z2 p0.2] (fun x:Value=>x) (fun x l=>Ar bU x r::l) (fun _ l=>l):=by
 refine aT.of Tryz.func77 rfl Tryz.ntmps77 rfl fun c=>?_
 refine sqR<|aF (aJ.box (cs:=[v0,v1]) rfl rfl) rfl fun b1=>qkAsg rfl<|dtN<|sqR<|qkFld rfl<|qkLd 0 rfl<|aB (iM rfl (aC.fact 1 rfl) rfl) rfl<|ckE h fun j2 h=>aF (nT (e:=bU) (0:Int) rfl rfl rfl rfl j2 rfl rfl rfl) rfl fun u3=>qkAsg rfl<|dtN<|aI<|midU (fun a5=>vK U p0 p1 a5=some r) (fun a5 b6=>[(1,vI (p1)),(2,vP b1),(5,u3)]) (fun a5 b6=>[Ar bU u3 a5,bM b1 [v0,v1] 28]) ?_ ?_
 ·refine sqR<|qkMove rfl<|aB (fR rfl (aU (aC.res 0 rfl) cP) rfl) rfl<|qkMove rfl<|dtN<|aN<|loopL (vL U p0 p1) (fun a50 b51=>[(1,vI (p1)),(2,vP b1),(5,u3),(16,vI (List.length (List.replicate (Int.toNat (List.length p0.2:Int)) (0:Int)):Int)),(17,vI (a50.1))]) (fun a50 b51=>[Ar bU u3 a50.2,bM b1 [v0,v1] 28]) ((0:Int),(List.replicate (Int.toNat (List.length p0.2:Int)) (0:Int))) () h SF (aQ.refl _) ?_
  intro k52 a50 b51 h
  refine sqR<|qkLss rfl<|dtN<|aI ?_
  refine eB h rfl (fun h=>?_) fun h=>?_
  ·refine cI<|aI<|aN<|sqR<|qkMove rfl<|qkAsg rfl<|dtN<|aM<|qkMove rfl<|qkMove rfl<|ckE h fun j54 h=>aB (aY rfl rfl (aU (aC.res 0 rfl) cP) rfl rfl j54) rfl<|uT 0 (-1:Int) j54 rfl rfl rfl rfl rfl rfl rfl<|dY<|inT<|aM<|qkAdd rfl<|qkMove rfl<|dtN ?_
   exact yF ((wI .i64 (a50.1+(1:Int))),(List.set a50.2 (Int.toNat a50.1) (-1:Int))) () h SF rfl
  refine vT ?_
  exact jV (a50.2) () h SF rfl
 intro a5 b6 h
 refine sqR<|qkMove rfl<|qkMove rfl<|ckE h fun j7 h=>aB (aY rfl rfl (aU (aC.res 0 rfl) cP) rfl rfl j7) rfl<|uT 0 (0:Int) j7 rfl rfl rfl rfl rfl rfl rfl<|dtN<|sqR<|qkMove rfl<|aF (bX (e:=bU) ([p1]) [(0,vI (p1))] rfl rfl rfl rfl (lX (vI (p1)) rfl) rfl rfl rfl) rfl fun u8=>qkAsg rfl<|dtN<|aI<|midU (fun a10=>rV  a10=some r) (fun a10 b11=>[(5,u3)]) (fun a10 b11=>[Ar bU u3 a10]) ?_ ?_
 ·refine aN<|loopL (B:=Value) (lM U p0) (fun a16 b17=>[(2,vP b1),(5,u3),(7,b17)]) (fun a16 b17=>[Ar bU b17 a16.1,Ar bU u3 a16.2,bM b1 [v0,v1] 28]) (([p1]),(List.set a5 (Int.toNat p1) (0:Int))) (u8) h SF (aQ.refl _) ?_
  intro k18 a16 b17 h
  refine aI<|sqR<|qkMove rfl<|aB (fR rfl (aU (aC.res 0 rfl) cP) rfl) rfl<|aB (uX rfl rfl) rfl<|dtN ?_
  refine eB h rfl (fun h=>?_) fun h=>?_
  ·refine cI<|aN<|sqR<|qkMove rfl<|ckE h fun j20 h=>aB (aY rfl rfl (aU (aC.res 0 rfl) cP) rfl rfl j20) rfl<|aB (bT rfl (aU (aC.res 0 rfl) cP) rfl rfl rfl dO j20) rfl<|qkAsg rfl<|dtN<|sqR<|qkMove rfl<|ckE h fun j21 h=>aF (JQ 0 j21 rfl rfl rfl rfl rfl rfl) rfl fun u22=>qkAsg rfl<|dtN<|sqR<|qkFld rfl<|qkLd 2 rfl<|qkMove rfl<|ckE h fun j23 h=>aB (cK rfl rfl (aC.fact 1 rfl) rfl rfl j23) rfl<|aB (cJ rfl (aC.fact 1 rfl) rfl rfl j23) rfl<|aB (fR rfl (aC.el (aC.fact 1 rfl) j23.1 j23.2) rfl) rfl<|qkMove rfl<|dtN<|aN<|loopL (B:=Value) (oH p0 a16 (bE (lM U p0) k18)) (fun a29 b30=>[(2,vP b1),(5,u3),(7,b30),(8,vI (at' a16.1 (0:Int))),(41,(at' z2 (at' a16.1 (0:Int))).1),(42,vI (List.length (at' p0.2 (at' a16.1 (0:Int))):Int)),(43,vI (a29.1))]) (fun a29 b30=>[Ar bU b30 a29.2.1,Ar bU u3 a29.2.2,bM b1 [v0,v1] 28]) ((0:Int),(List.drop (Int.toNat (1:Int)) a16.1),a16.2) (u22) h SF (aQ.refl _) ?_
   intro k31 a29 b30 h
   refine sqR<|qkLss rfl<|dtN<|aI ?_
   refine eB h rfl (fun h=>?_) fun h=>?_
   ·refine cI<|aI<|midL (B:=Value) (fun a36=>oG a29 (bE (oH p0 a16 (bE (lM U p0) k18)) k31) a36=some r) (fun a36 b37=>[(2,vP b1),(5,u3),(7,b37),(8,vI (at' a16.1 (0:Int))),(41,(at' z2 (at' a16.1 (0:Int))).1),(42,vI (List.length (at' p0.2 (at' a16.1 (0:Int))):Int)),(43,vI (a29.1))]) (fun a36 b37=>[Ar bU b37 a36.1,Ar bU u3 a36.2,bM b1 [v0,v1] 28]) ?_ ?_
    ·refine aN<|sqR<|ckE h fun j38 h=>aB (aY rfl rfl (aC.el (aC.fact 1 rfl) j23.1 j23.2) rfl rfl j38) rfl<|aB (fL (cs:=[vI ((at' (at' p0.2 (at' a16.1 (0:Int))) a29.1).1),vI ((at' (at' p0.2 (at' a16.1 (0:Int))) a29.1).2)]) rfl (aC.el (aC.fact 1 rfl) j23.1 j23.2) bJ rfl rfl rfl rfl j38) rfl<|aF (aJ.alloc (cs:=LN) rfl rfl) rfl fun b39=>bH 0 (vs:=[vI ((at' (at' p0.2 (at' a16.1 (0:Int))) a29.1).1),vI ((at' (at' p0.2 (at' a16.1 (0:Int))) a29.1).2)]) rfl rfl rfl rfl rfl rfl<|dtN<|sqR<|qkMove rfl<|qkFld rfl<|qkLd 0 rfl<|ckE h fun j40 h=>aB (aY rfl rfl (aU (aC.res 2 rfl) cP) rfl rfl j40) rfl<|aB (bT rfl (aU (aC.res 2 rfl) cP) rfl rfl rfl dO j40) rfl<|qkLss rfl<|dtN ?_
     refine eB h rfl (fun h=>?_) fun h=>?_
     ·refine aI ?_
      refine JR.start [0,0,2,0,0,24,56,120,255,511] 8 mixedOrders (by decide +kernel) ?_
      refine JR.open (by exact rfl) ?_
      refine jkMove rfl<|jkFld rfl<|jkLd 0 rfl<|jkMove rfl<|jkMove rfl<|ckE h fun j42 h=>bG rfl (aQ.cons 2 rfl .nil) .nil (aY rfl rfl (aU (aC.res 0 rfl) cP) rfl rfl j42) aK.z<|bG rfl (aQ.cons 2 rfl .nil) .nil (bT rfl (aU (aC.res 0 rfl) cP) rfl rfl rfl dO j42) aK.z<|jqN rfl (pQ rfl rfl)<|bO 8 rfl rfl<|ckE h fun j43 h=>aB (aY rfl rfl (aU (aC.res 2 rfl) cP) rfl rfl j43) rfl<|uT 2 (wI .i64 ((at' a29.2.2 (at' a16.1 (0:Int)))+(1:Int))) j43 rfl rfl rfl rfl rfl rfl rfl<|dtN<|aM<|qkMove rfl<|qkFld rfl<|qkLd 0 rfl<|aF (bX (e:=bU) ([((at' (at' p0.2 (at' a16.1 (0:Int))) a29.1).1)]) [(0,vI ((at' (at' p0.2 (at' a16.1 (0:Int))) a29.1).1))] rfl rfl rfl rfl (lX (vI ((at' (at' p0.2 (at' a16.1 (0:Int))) a29.1).1)) rfl) rfl rfl rfl) rfl fun u44=>ckE h fun j46 h=>aF (fT 2 cP rfl rfl rfl (aU (aC.res 0 rfl) cP) rfl rfl rfl rfl j46 rfl) rfl fun u45=>qkAsg rfl<|dY<|inT ?_
      exact bY ((a29.2.1++([((at' (at' p0.2 (at' a16.1 (0:Int))) a29.1).1)])),(List.set a29.2.2 (Int.toNat ((at' (at' p0.2 (at' a16.1 (0:Int))) a29.1).1)) (wI .i64 ((at' a29.2.2 (at' a16.1 (0:Int)))+(1:Int))))) (u45) h SF (aQ.ix [2,3,4] rfl rfl) (aD.refl _ _)
     refine cU<|inT ?_
     exact bY (a29.2.1,a29.2.2) (b30) h SF (aQ.ix [1,2,3] rfl rfl) (aD.refl _ _)
    intro a36 b37 h
    unfold oG at h
    refine aM<|qkAdd rfl<|qkMove rfl<|dtN ?_
    exact yF ((wI .i64 (a29.1+(1:Int))),a36.1,a36.2) (b37) h SF rfl
   refine oY<|dH<|dH<|tS<|inT ?_
   exact yF (a29.2.1,a29.2.2) (b30) h SF rfl
  refine vT ?_
  exact bY (a16.2) () h SF (aQ.ix [1] rfl rfl) (aD.refl _ _)
 intro a10 b11 h
 unfold rV at h
 refine sqR<|qkMove rfl<|qkAsg rfl<|dtN<|aP ?_
 cases h
 exact fS (u3) rfl rfl (RV.tmp rfl) (aQ.refl _) aD.nil
end
section
def nZ  (a6:Unit):Option (Bool):=
 some (true)
def iV (r8:aL) (a13:Int) (ag12:(Int)->Option (Bool)):Option (Bool):=
 if a13<(List.length r8:Int)then(ck (0<=a13∧a13<(List.length r8:Int)) (if(at' r8 a13)<(0:Int)then(some (false))else(ag12 (wI .i64 (a13+(1:Int))))))else(nZ  (()))
def jT (U:Nat) (p0:cM):Option (Bool):=
 Option.bind (fC U ((p0.1,p0.2))) fun r2=>(if(!r2)=true then(some (false))else(Option.bind (pU U ((p0.1,p0.2)) (0:Int)) fun r8=>(bE (iV r8) U (0:Int))))
theorem WX:aO Tryz.prog 49:=Tryz.call49
theorem Dw (U:Nat) {p0:cM} (v0:Value)  (v1:Value)  (z2:mB) (r:Bool) (h:jT U p0=some r):
  aT Tryz.prog 49 #[Value.agg #[v0,v1]] [Sl bD v0 p0.1,S2 aV v1 z2 p0.2] (fun x:Unit=>vB (r)) (fun x l=>l) (fun _ l=>l):=by
 refine aT.of Tryz.func49 rfl Tryz.ntmps49 rfl fun c=>?_
 refine sqR<|aF (aJ.box (cs:=[v0,v1]) rfl rfl) rfl fun b1=>qkAsg rfl<|dtN<|aI<|sqR<|qkLdA 0 rfl<|bnE h fun r2 w3 h=>aF (aJ.callQ IP (uQ U v0 v1 z2 r2 w3) rfl (oI [0,1] rfl)) rfl fun x4=>aB (qL rfl) rfl<|dtN ?_
 refine As h rfl (fun _ h=>?_) fun _ h=>?_
 ·refine sqR<|qkAsg rfl<|dtN<|aP<|aH ?_
  cases h
  exact tV rfl
 refine cI<|aI<|midU (fun a6=>nZ  a6=some r) (fun a6 b7=>[]) (fun a6 b7=>[]) ?_ ?_
 ·refine sqR<|qkLdA 0 rfl<|bnE h fun r8 w9 h=>aF (aJ.callQ Xc (GQ U v0 v1 z2 r8 w9) rfl (oI [0,1] rfl)) rfl fun x10=>aB (fR rfl (aU (aC.res 0 rfl) cP) rfl) rfl<|qkMove rfl<|dtN<|aN<|loopL (iV r8) (fun a13 b14=>[(9,x10),(10,vI (List.length r8:Int)),(11,vI (a13))]) (fun a13 b14=>[Ar bU x10 r8]) (0:Int) () h SF (aQ.ix [0] rfl rfl) ?_
  intro k15 a13 b14 h
  refine sqR<|qkLss rfl<|dtN<|aI ?_
  refine eB h rfl (fun h=>?_) fun h=>?_
  ·refine cI<|aI<|aN<|sqR<|ckE h fun j17 h=>aB (aY rfl rfl (aU (aC.res 0 rfl) cP) rfl rfl j17) rfl<|aB (bT rfl (aU (aC.res 0 rfl) cP) rfl rfl rfl dO j17) rfl<|qkAsg rfl<|dtN<|sqR<|qkMove rfl<|qkLss rfl<|dtN ?_
   refine eB h rfl (fun h=>?_) fun h=>?_
   ·refine sqR<|qkAsg rfl<|dtN<|aP<|bK<|aH<|aH<|bK<|aH ?_
    cases h
    exact tV rfl
   refine cU<|inT<|aM<|qkAdd rfl<|qkMove rfl<|dtN ?_
   exact yF (wI .i64 (a13+(1:Int))) () h SF rfl
  refine vT ?_
  exact bY () (()) h SF .nil (aD.refl _ _)
 intro a6 b7 h
 unfold nZ at h
 refine sqR<|qkAsg rfl<|dtN<|aP ?_
 cases h
 exact lI rfl
end
section
def yS (U:Nat) (p0:cM):Option (Bool):=
 Option.bind (jT U ((p0.1,p0.2))) fun r2=>(some (r2))
theorem WR:aO Tryz.prog 33:=Tryz.call33
theorem PU (U:Nat) {p0:cM} (v0:Value)  (v1:Value)  (z2:mB) (r:Bool) (h:yS U p0=some r):
  aT Tryz.prog 33 #[Value.agg #[v0,v1]] [Sl bD v0 p0.1,S2 aV v1 z2 p0.2] (fun x:Unit=>vB (r)) (fun x l=>l) (fun _ l=>l):=by
 refine aT.of Tryz.func33 rfl Tryz.ntmps33 rfl fun c=>?_
 refine sqR<|aF (aJ.box (cs:=[v0,v1]) rfl rfl) rfl fun b1=>qkAsg rfl<|dtN<|sqR<|qkLdA 0 rfl<|bnE h fun r2 w3 h=>aF (aJ.callQ WX (Dw U v0 v1 z2 r2 w3) rfl (oI [0,1] rfl)) rfl fun x4=>qkAsg rfl<|dtN<|aP ?_
 cases h
 exact tV rfl
end
section
def nW  (a17:aL):Option aL:=
 some (a17)
def nX (a23:mI) (ag22:sR->Option aL) (a29:aL):Option aL:=
 ag22 ((wI .i64 (a23.1+(1:Int))),a29)
def nY (a41:mI) (ag40:sR->Option aL) (a46:aL):Option aL:=
 ag40 ((wI .i64 (a41.1+(1:Int))),a46)
def kP (a52:mI) (ag51:sR->Option aL) (a57:aL):Option aL:=
 ag51 ((wI .i64 (a52.1+(1:Int))),a57)
def iR (p0:cM) (p2:Int) (a41:mI) (ag40:sR->Option aL) (a52:mI) (ag51:sR->Option aL):Option aL:=
 if a52.1<(List.length (at' p0.2 a41.1):Int)then(ck (0<=a52.1∧a52.1<(List.length (at' p0.2 a41.1):Int)) (ck (0<=a41.1) (if(cS .u32 (nU .u32 p2 a41.1) (1:Int))=(0:Int)then(ck (0<=a41.1∧a41.1<(List.length a52.2:Int)) (ck (0<=((at' (at' p0.2 a41.1) a52.1).1)∧((at' (at' p0.2 a41.1) a52.1).1)<(List.length a52.2:Int)) (ck (0<=a41.1∧a41.1<(List.length a52.2:Int)) (kP a52 ag51 (List.set a52.2 (Int.toNat a41.1) (min (at' a52.2 a41.1) (wI .i64 ((at' a52.2 ((at' (at' p0.2 a41.1) a52.1).1))+(1:Int)))))))))else(kP a52 ag51 (a52.2)))))else(nY a41 ag40 (a52.2))
def eT (U:Nat) (p0:cM) (p2:Int) (a23:mI) (ag22:sR->Option aL) (a41:mI) (ag40:sR->Option aL):Option aL:=
 if a41.1<(List.length p0.2:Int)then(ck (0<=a41.1∧a41.1<(List.length p0.2:Int)) (bE (iR p0 p2 a41 ag40) U ((0:Int),a41.2)))else(nX a23 ag22 (a41.2))
def kO (U:Nat) (p0:cM) (p2:Int) (a23:mI) (ag22:sR->Option aL) (a32:Unit):Option aL:=
 bE (eT U p0 p2 a23 ag22) U ((0:Int),a23.2)
def cX (U:Nat) (p0:cM) (p2:Int) (a23:mI) (ag22:sR->Option aL):Option aL:=
 if a23.1<(List.length p0.1:Int)then(kO U p0 p2 a23 ag22 (()))else(nW  (a23.2))
def iP (U:Nat) (p0:cM) (p2:Int) (a13:aL):Option aL:=
 bE (cX U p0 p2) U ((0:Int),a13)
def iQ (a71:mI) (ag70:sR->Option aL) (a76:aL):Option aL:=
 ag70 ((wI .i64 (a71.1+(1:Int))),a76)
def iS (U:Nat) (p0:cM) (p1:aX) (p2:Int) (a71:mI) (ag70:sR->Option aL):Option aL:=
 if a71.1<(List.length (List.replicate (Int.toNat (List.length p0.1:Int)) (0:Int)):Int)then(ck (0<=a71.1) (if(cS .u32 (nU .u32 p2 a71.1) (1:Int))=(1:Int)then(ck (0<=a71.1∧a71.1<(List.length p1:Int)) (ck (0<=(0:Int)∧(0:Int)<(List.length (at' p1 a71.1):Int)) (ck (0<=a71.1∧a71.1<(List.length a71.2:Int)) (iQ a71 ag70 (List.set a71.2 (Int.toNat a71.1) (at' (at' p1 a71.1) (0:Int)))))))else(if(0:Int)<a71.1 then(ck (0<=a71.1∧a71.1<(List.length a71.2:Int)) (iQ a71 ag70 (List.set a71.2 (Int.toNat a71.1) (List.length p0.1:Int))))else(iQ a71 ag70 (a71.2)))))else(iP U p0 p2 (a71.2))
def nV (U:Nat) (p0:cM) (p1:aX) (p2:Int) (a5:Bool):Option aL:=
 if a5=true then(some ([]:aL))else(ck (0<=(List.length p0.1:Int)∧(List.length p0.1:Int)<=1099511627) (bE (iS U p0 p1 p2) U ((0:Int),(List.replicate (Int.toNat (List.length p0.1:Int)) (0:Int)))))
def jS (U:Nat) (p0:cM) (p1:aX) (p2:Int):Option aL:=
 Option.bind (yS U ((p0.1,p0.2))) fun r85=>(if(!r85)=true then(nV U p0 p1 p2 (true))else(Option.bind (gW U ((p0.1,p0.2)) p1 ([(List.length p0.1:Int),(-1:Int)])) fun r90=>(nV U p0 p1 p2 ((!r90)))))
theorem QT:aO Tryz.prog 12:=Tryz.call12
theorem xQ (U:Nat) {p0:cM} {p1:aX} {p2:Int} (v0:Value)  (v1:Value)  (z2:mB)  (v3:Value)  (z4:pJ) (r:aL) (h:jS U p0 p1 p2=some r):
  aT Tryz.prog 12 #[Value.agg #[v0,v1],v3,vU (p2)] [Sl bD v0 p0.1,S2 aV v1 z2 p0.2,S2 bD v3 z4 p1] (fun x:Value=>x) (fun x l=>Ar bU x r::l) (fun _ l=>l):=by
 refine aT.of Tryz.func12 rfl Tryz.ntmps12 rfl fun c=>?_
 refine jN CM<|sqR<|aF (aJ.box (cs:=[v0,v1]) rfl rfl) rfl fun b2=>aF (aJ.box (cs:=[vU (p2)]) rfl rfl) rfl fun b3=>qkAsg rfl<|dtN<|sqR<|qkFld rfl<|qkLd 1 rfl<|qkLen (aC.fact 0 rfl) rfl<|qkAsg rfl<|dtN<|aI<|aI<|xT (A:=Bool) (B:=Unit) (fun a5 b6=>⟨84,vV ([]:eC)⟩) (fun a5=>nV U p0 p1 p2 a5=some r) (fun a5 b6=>[(1,v3),(3,vP b2),(5,vP b3),(6,kK),(7,vI (List.length p0.1:Int)),(25,vB (a5))]) (fun a5 b6=>[bM b3 [vU (p2)] 25,bM b2 [v0,v1] 28,Ae ([]:eC)]) (fun a5 b6=>[Sl bD v0 p0.1,S2 aV v1 z2 p0.2,S2 bD v3 z4 p1]) ?_ ?_
 ·refine aM<|qkLdA 1 rfl<|bnE h fun r85 w86 h=>aF (aJ.callQ WR (PU U v0 v1 z2 r85 w86) rfl (oI [0,1] rfl)) rfl fun x87=>aB (qL rfl) rfl<|qkMove rfl ?_
  refine CE (by exact rfl) (by exact rfl) (fun hp88=>?_) (fun hp88=>?_)
  ·have h:=RY hp88 h
   refine gdSkip rfl<|gdSkip rfl<|gdSkip rfl<|gdSkip rfl<|gdSkip rfl<|gdSkip rfl<|qkPkT rfl<|dtN ?_
   exact nS (true) () rfl h SF (aQ.refl _) (aD.refl _ _)
  have h:=RX hp88 h
  refine aR rfl (iN 1 rfl rfl rfl rfl) rfl<|gyMove rfl<|gyMove rfl<|sV rfl (bX (e:=bU) ([(List.length p0.1:Int),(-1:Int)]) [(0,vI (List.length p0.1:Int)),(1,vI (-1:Int))] rfl rfl rfl rfl (KD (vI (List.length p0.1:Int)) (vI (-1:Int)) rfl rfl) rfl rfl rfl) rfl fun u89=>bnE h fun r90 w91 h=>sV rfl (aJ.callQ QW (vW U v0 v1 z2 v3 z4 u89 r90 w91) rfl (aD.cons (aC.fact 0 rfl) (aD.cons (aC.fact 1 rfl) (aD.cons (aC.fact 2 rfl) (aD.cons (aU (aC.res 0 rfl) cP) .nil))))) rfl fun x92=>aR rfl (qL rfl) rfl<|qkPkF rfl<|dtN ?_
  exact nS ((!r90)) () rfl h SF (aQ.ix [1,2,3] rfl rfl) (aD.refl _ _)
 intro a5 b6 h
 refine As h rfl (fun _ h=>?_) fun _ h=>?_
 ·refine sqR<|qkAsg rfl<|dtN<|aP<|aH<|gY (i:=2) (Ds:=([]:eC)) (.inl rfl) rfl<|jN (iL bU) ?_
  cases h
  exact fS (kK) rfl rfl (RV.tmp rfl) (aQ.ix [0] rfl rfl) aD.nil
 refine cI<|sqR<|qkMove rfl<|ckE h fun j8 h=>aF (nT (e:=bU) (0:Int) rfl rfl rfl rfl j8 rfl rfl rfl) rfl fun u9=>aF (aJ.alloc (cs:=[kK]) rfl rfl) rfl fun b10=>bQ (Know.one ((aU (aC.res 1 rfl) cP))) fun ho11=>eK 0 rfl rfl ho11 rfl rfl rfl<|dtN<|aI<|xT (A:=aL) (B:=Unit) (fun a13 b14=>⟨84,vV ([]:eC)⟩) (fun a13=>iP U p0 p2 a13=some r) (fun a13 b14=>[(3,vP b2),(5,vP b3),(6,kK),(7,vI (List.length p0.1:Int)),(8,vP b10)]) (fun a13 b14=>[bM b10 [u9] 22,Ar bU u9 a13,bM b3 [vU (p2)] 25,bM b2 [v0,v1] 28,Ae ([]:eC)]) (fun a13 b14=>[Sl bD v0 p0.1,S2 aV v1 z2 p0.2,S2 bD v3 z4 p1]) ?_ ?_
 ·refine sqR<|qkLd 0 rfl<|aB (fR rfl (aU (aC.res 1 rfl) cP) rfl) rfl<|qkMove rfl<|dtN<|aN<|Nl (A:=mI) (B:=Unit) (fun a71 b72=>⟨84,vV ([]:eC)⟩) (iS U p0 p1 p2) (fun a71 b72=>[(1,v3),(3,vP b2),(5,vP b3),(6,kK),(7,vI (List.length p0.1:Int)),(8,vP b10),(29,vI (List.length (List.replicate (Int.toNat (List.length p0.1:Int)) (0:Int)):Int)),(30,vI (a71.1))]) (fun a71 b72=>[bM b10 [u9] 22,Ar bU u9 a71.2,bM b3 [vU (p2)] 25,bM b2 [v0,v1] 28,Ae ([]:eC)]) (fun a71 b72=>[Sl bD v0 p0.1,S2 aV v1 z2 p0.2,S2 bD v3 z4 p1]) ((0:Int),(List.replicate (Int.toNat (List.length p0.1:Int)) (0:Int))) () rfl h SF (aQ.refl _) (aD.refl _ _) ?_
  intro k73 a71 b72 h
  refine sqR<|qkLss rfl<|dtN<|aI ?_
  refine eB h rfl (fun h=>?_) fun h=>?_
  ·refine cI<|aI<|xT (A:=aL) (B:=Unit) (fun a76 b77=>⟨84,vV ([]:eC)⟩) (fun a76=>iQ a71 (bE (iS U p0 p1 p2) k73) a76=some r) (fun a76 b77=>[(1,v3),(3,vP b2),(5,vP b3),(6,kK),(7,vI (List.length p0.1:Int)),(8,vP b10),(29,vI (List.length (List.replicate (Int.toNat (List.length p0.1:Int)) (0:Int)):Int)),(30,vI (a71.1))]) (fun a76 b77=>[bM b10 [u9] 22,Ar bU u9 a76,bM b3 [vU (p2)] 25,bM b2 [v0,v1] 28,Ae ([]:eC)]) (fun a76 b77=>[Sl bD v0 p0.1,S2 aV v1 z2 p0.2,S2 bD v3 z4 p1]) ?_ ?_
   ·refine aN<|sqR<|qkMove rfl<|qkAsg rfl<|dtN<|aN<|sqR<|qkLd 2 rfl<|qkMove rfl<|ckE h fun j78 h=>aB (CQ rfl rfl j78) rfl<|qkAnd rfl<|qkEql rfl<|qkAsg rfl<|dtN ?_
    refine eB h rfl (fun h=>?_) fun h=>?_
    ·refine JR.start [0,0,0,0,12,28,60,124,255,511] 8 mixedOrders (by decide +kernel) ?_
     refine JR.open (by exact rfl) ?_
     refine jkLd 0 rfl<|jkMove rfl<|jkMove rfl<|jkMove rfl<|ckE h fun j80 h=>bG rfl .nil (mJ 2 rfl) (cK rfl rfl (aC.fact 0 rfl) rfl rfl j80) aK.z<|bG rfl .nil (mJ 2 rfl) (cJ rfl (aC.fact 0 rfl) rfl rfl j80) aK.z<|ckE h fun j81 h=>bG rfl .nil (mJ 2 rfl) (aY rfl rfl (aC.el (aC.fact 0 rfl) j80.1 j80.2) rfl rfl j81) aK.z<|bG rfl .nil (mJ 2 rfl) (bT rfl (aC.el (aC.fact 0 rfl) j80.1 j80.2) rfl rfl rfl dO j81) aK.z<|bO 8 rfl rfl<|ckE h fun j82 h=>aB (aY rfl rfl (aU (aC.res 1 rfl) cP) rfl rfl j82) rfl<|uT 1 (at' (at' p1 a71.1) (0:Int)) j82 rfl rfl rfl rfl rfl rfl rfl<|dY<|BJ<|inT ?_
     exact nS (List.set a71.2 (Int.toNat a71.1) (at' (at' p1 a71.1) (0:Int))) () rfl h SF (aQ.refl _) (aD.refl _ _)
    refine sqR<|qkMove rfl<|aB (uX rfl rfl) rfl<|qkAsg rfl<|dtN ?_
    refine eB h rfl (fun h=>?_) fun h=>?_
    ·refine aM<|qkLd 0 rfl<|qkMove rfl<|qkMove rfl<|ckE h fun j84 h=>aB (aY rfl rfl (aU (aC.res 1 rfl) cP) rfl rfl j84) rfl<|uT 1 (List.length p0.1:Int) j84 rfl rfl rfl rfl rfl rfl rfl<|dY<|BJ<|inT ?_
     exact nS (List.set a71.2 (Int.toNat a71.1) (List.length p0.1:Int)) () rfl h SF (aQ.refl _) (aD.refl _ _)
    refine cU<|BJ<|inT ?_
    exact nS (a71.2) () rfl h SF (aQ.refl _) (aD.refl _ _)
   intro a76 b77 h
   unfold iQ at h
   refine aM<|qkAdd rfl<|qkMove rfl<|dtN ?_
   exact JL ((wI .i64 (a71.1+(1:Int))),a76) () rfl h SF (aQ.refl _) (aD.refl _ _)
  refine vT ?_
  exact nS (a71.2) () rfl h SF (aQ.refl _) (aD.refl _ _)
 intro a13 b14 h
 unfold iP at h
 refine aI<|xT (A:=aL) (B:=eC) (fun a17 b18=>⟨84,vV b18⟩) (fun a17=>nW  a17=some r) (fun a17 b18=>[(8,vP b10)]) (fun a17 b18=>[bM b10 [u9] 22,Ar bU u9 a17,Ae b18]) (fun a17 b18=>[Sl bD v0 p0.1,S2 aV v1 z2 p0.2,S2 bD v3 z4 p1]) ?_ ?_
 ·refine sqR<|qkMove rfl<|qkMove rfl<|dtN<|aN<|Nl (A:=mI) (B:=eC) (fun a23 b24=>⟨84,vV b24⟩) (cX U p0 p2) (fun a23 b24=>[(3,vP b2),(5,vP b3),(6,kK),(8,vP b10),(56,vI (List.length p0.1:Int)),(57,vI (a23.1))]) (fun a23 b24=>[bM b10 [u9] 22,Ar bU u9 a23.2,bM b3 [vU (p2)] 25,bM b2 [v0,v1] 28,Ae b24]) (fun a23 b24=>[Sl bD v0 p0.1,S2 aV v1 z2 p0.2,S2 bD v3 z4 p1]) ((0:Int),a13) ([]:eC) rfl h SF (aQ.refl _) (aD.refl _ _) ?_
  intro k25 a23 b24 h
  refine sqR<|qkLss rfl<|dtN<|aI ?_
  refine eB h rfl (fun h=>?_) fun h=>?_
  ·refine cI<|aI<|xT (A:=aL) (B:=eC) (fun a29 b30=>⟨84,vV b30⟩) (fun a29=>nX a23 (bE (cX U p0 p2) k25) a29=some r) (fun a29 b30=>[(3,vP b2),(5,vP b3),(6,kK),(8,vP b10),(56,vI (List.length p0.1:Int)),(57,vI (a23.1))]) (fun a29 b30=>[bM b10 [u9] 22,Ar bU u9 a29,bM b3 [vU (p2)] 25,bM b2 [v0,v1] 28,Ae b30]) (fun a29 b30=>[Sl bD v0 p0.1,S2 aV v1 z2 p0.2,S2 bD v3 z4 p1]) ?_ ?_
   ·refine aN<|sqR<|qkLdA 3 rfl<|xS (A:=Unit) (B:=Nat) (vs:=[Value.agg #[v0,v1]]) (fun a32=>kO U p0 p2 a23 (bE (cX U p0 p2) k25) a32=some r) (fun a32 b33=>Value.func (.func 50) #[] #[vP b33]) (fun a32 b33=>[bM b33 [v0,v1] 28,bM b10 [u9] 22,Ar bU u9 a23.2,bM b3 [vU (p2)] 25,bM b2 [v0,v1] 28,Ae b24]) (fun a32 b33=>[Sl bD v0 p0.1,S2 aV v1 z2 p0.2,S2 bD v3 z4 p1]) (sL.fn (show aO Tryz.prog 35 from Tryz.call35) rfl) Tryz.func35 rfl Tryz.ntmps35 rfl rfl ?_ ?_
    ·refine sqR<|aF (aJ.box (cs:=[v0,v1]) rfl rfl) rfl fun b67=>qkAsg rfl<|dtN<|sqR<|aB (t_ (cs:=[.tmp 1]) (vs:=[vP b67]) rfl) rfl<|qkAsg rfl<|dtN<|aP ?_
     exact sW () (b67) h (.inl rfl) (CK.r1 rfl (RV.tmp rfl)) rfl (aQ.refl _) (aD.refl _ _)
    intro a32 b33 h
    unfold kO at h
    refine dtN<|aN<|vX (i:=5) (cs:=[vP b33]) b24 rfl (show aO Tryz.prog 50 from Tryz.call50) rfl Tryz.func50 rfl Tryz.ntmps50 rfl fun TA D35 R36 hR37=>sqR<|qkFld rfl<|qkLd 1 rfl<|aB (iM rfl (aC.fact 1 rfl) rfl) rfl<|qkMove rfl<|dtN<|aN<|loopL (eT U p0 p2 a23 (bE (cX U p0 p2) k25)) (fun a41 b42=>[(0,mG TA),(8,v1),(9,vI (List.length p0.2:Int)),(10,vI (a41.1))]) (fun a41 b42=>[Lp TA R36 LoopState.ready none,bM b33 [v0,v1] 28,bM b10 [u9] 22,Ar bU u9 a41.2,bM b3 [vU (p2)] 25,bM b2 [v0,v1] 28,Ae (List.cons D35 b24)]) ((0:Int),a23.2) () h SF (aQ.refl _) ?_
    intro k43 a41 b42 h
    refine sqR<|qkLss rfl<|dtN<|aI ?_
    refine eB h rfl (fun h=>?_) fun h=>?_
    ·refine cI<|aI<|midU (fun a46=>nY a41 (bE (eT U p0 p2 a23 (bE (cX U p0 p2) k25)) k43) a46=some r) (fun a46 b47=>[(0,mG TA),(8,v1),(9,vI (List.length p0.2:Int)),(10,vI (a41.1))]) (fun a46 b47=>[Lp TA R36 LoopState.ready none,bM b33 [v0,v1] 28,bM b10 [u9] 22,Ar bU u9 a46,bM b3 [vU (p2)] 25,bM b2 [v0,v1] 28,Ae (List.cons D35 b24)]) ?_ ?_
     ·refine aN<|sqR<|qkMove rfl<|ckE h fun j48 h=>aB (cK rfl rfl (aC.fact 1 rfl) rfl rfl j48) rfl<|aB (cJ rfl (aC.fact 1 rfl) rfl rfl j48) rfl<|qkAsg rfl<|qkAsg rfl<|dtN<|sqR<|qkMove rfl<|aB (fR rfl (aC.el (aC.fact 1 rfl) j48.1 j48.2) rfl) rfl<|qkMove rfl<|dtN<|aN<|loopL (iR p0 p2 a41 (bE (eT U p0 p2 a23 (bE (cX U p0 p2) k25)) k43)) (fun a52 b53=>[(0,mG TA),(3,vI (a41.1)),(8,v1),(9,vI (List.length p0.2:Int)),(10,vI (a41.1)),(15,(at' z2 a41.1).1),(16,vI (List.length (at' p0.2 a41.1):Int)),(17,vI (a52.1))]) (fun a52 b53=>[Lp TA R36 LoopState.ready none,bM b33 [v0,v1] 28,bM b10 [u9] 22,Ar bU u9 a52.2,bM b3 [vU (p2)] 25,bM b2 [v0,v1] 28,Ae (List.cons D35 b24)]) ((0:Int),a41.2) () h SF (aQ.refl _) ?_
      intro k54 a52 b53 h
      refine sqR<|qkLss rfl<|dtN<|aI ?_
      refine eB h rfl (fun h=>?_) fun h=>?_
      ·refine cI<|aI<|midU (fun a57=>kP a52 (bE (iR p0 p2 a41 (bE (eT U p0 p2 a23 (bE (cX U p0 p2) k25)) k43)) k54) a57=some r) (fun a57 b58=>[(0,mG TA),(3,vI (a41.1)),(8,v1),(9,vI (List.length p0.2:Int)),(10,vI (a41.1)),(15,(at' z2 a41.1).1),(16,vI (List.length (at' p0.2 a41.1):Int)),(17,vI (a52.1))]) (fun a57 b58=>[Lp TA R36 LoopState.ready none,bM b33 [v0,v1] 28,bM b10 [u9] 22,Ar bU u9 a57,bM b3 [vU (p2)] 25,bM b2 [v0,v1] 28,Ae (List.cons D35 b24)]) ?_ ?_
       ·refine aN<|sqR<|ckE h fun j59 h=>aB (aY rfl rfl (aC.el (aC.fact 1 rfl) j48.1 j48.2) rfl rfl j59) rfl<|aB (fL (cs:=[vI ((at' (at' p0.2 a41.1) a52.1).1),vI ((at' (at' p0.2 a41.1) a52.1).2)]) rfl (aC.el (aC.fact 1 rfl) j48.1 j48.2) bJ rfl rfl rfl rfl j59) rfl<|aF (aJ.alloc (cs:=LN) rfl rfl) rfl fun b60=>bH 0 (vs:=[vI ((at' (at' p0.2 a41.1) a52.1).1),vI ((at' (at' p0.2 a41.1) a52.1).2)]) rfl rfl rfl rfl rfl rfl<|dtN<|sqR<|qkMove rfl<|qkMove rfl<|qkLdA 0 rfl<|CG (us:=[vI (a41.1),Value.agg #[vI ((at' (at' p0.2 a41.1) a52.1).1),vI ((at' (at' p0.2 a41.1) a52.1).2)]]) (i:=1) hR37 rfl rfl rfl rfl rfl rfl<|sqR<|qkAsg rfl<|dtN<|aM<|aF (aJ.alloc (cs:=LN) rfl rfl) rfl fun b61=>bH 0 (vs:=[vI ((at' (at' p0.2 a41.1) a52.1).1),vI ((at' (at' p0.2 a41.1) a52.1).2)]) rfl rfl rfl rfl rfl rfl<|dtN<|EY (i:=2) rfl<|aN<|sqR<|qkLd 6 rfl<|qkMove rfl<|ckE h fun j62 h=>aB (CQ rfl rfl j62) rfl<|qkAnd rfl<|qkEql rfl<|dtN ?_
        refine eB h rfl (fun h=>?_) fun h=>?_
        ·refine JR.start [0,0,0,0,12,28,0,0,128,448,960,1984,4092,8191,16383] 13 mixedOrders (by decide +kernel) ?_
         refine JR.open (by exact rfl) ?_
         refine jkLd 4 rfl<|jkMove rfl<|jkLd 4 rfl<|jkMove rfl<|ckE h fun j64 h=>bG rfl (aQ.cons 5 rfl .nil) .nil (aY rfl rfl (aU (aC.res 0 rfl) cP) rfl rfl j64) aK.z<|bG rfl (aQ.cons 5 rfl .nil) .nil (bT rfl (aU (aC.res 0 rfl) cP) rfl rfl rfl dO j64) aK.z<|jkLd 4 rfl<|jkFld rfl<|jkLd 0 rfl<|ckE h fun j65 h=>bG rfl (aQ.cons 5 rfl .nil) .nil (aY rfl rfl (aU (aC.res 0 rfl) cP) rfl rfl j65) aK.z<|bG rfl (aQ.cons 5 rfl .nil) .nil (bT rfl (aU (aC.res 0 rfl) cP) rfl rfl rfl dO j65) aK.z<|jqN rfl (pQ rfl rfl)<|jqN rfl (QK rfl rfl)<|bO 13 rfl rfl<|ckE h fun j66 h=>aB (aY rfl rfl (aU (aC.res 5 rfl) cP) rfl rfl j66) rfl<|uT 5 (min (at' a52.2 a41.1) (wI .i64 ((at' a52.2 ((at' (at' p0.2 a41.1) a52.1).1))+(1:Int)))) j66 rfl rfl rfl rfl rfl rfl rfl<|dY<|BJ<|yH (i:=2) rfl<|aB (qL rfl) rfl<|dtN<|y_ rfl<|cU<|inT ?_
         exact bY (List.set a52.2 (Int.toNat a41.1) (min (at' a52.2 a41.1) (wI .i64 ((at' a52.2 ((at' (at' p0.2 a41.1) a52.1).1))+(1:Int))))) () h SF (aQ.ix [2,3,4,5,6,7,8] rfl rfl) (aD.refl _ _)
        refine cU<|BJ<|yH (i:=2) rfl<|aB (qL rfl) rfl<|dtN<|y_ rfl<|cU<|inT ?_
        exact bY (a52.2) () h SF (aQ.ix [2,3,4,5,6,7,8] rfl rfl) (aD.refl _ _)
       intro a57 b58 h
       unfold kP at h
       refine aM<|qkAdd rfl<|qkMove rfl<|dtN ?_
       exact yF ((wI .i64 (a52.1+(1:Int))),a57) () h SF rfl
      refine oY<|dH<|dH<|tS<|inT ?_
      exact jV (a52.2) () h SF rfl
     intro a46 b47 h
     unfold nY at h
     refine aM<|qkAdd rfl<|qkMove rfl<|dtN ?_
     exact yF ((wI .i64 (a41.1+(1:Int))),a46) () h SF rfl
    refine oY<|dH<|dH<|tS<|IB (i:=0) (.inr rfl) rfl (CK.r0 rfl)<|BJ<|inT ?_
    exact nS (a41.2) (List.cons D35 b24) rfl h SF (aQ.ix [2,3,4,5,6] rfl rfl) (aD.refl _ _)
   intro a29 b30 h
   unfold nX at h
   refine aM<|qkAdd rfl<|qkMove rfl<|dtN ?_
   exact JL ((wI .i64 (a23.1+(1:Int))),a29) (b30) rfl h SF (aQ.refl _) (aD.refl _ _)
  refine vT ?_
  exact nS (a23.2) (b24) rfl h SF (aQ.ix [0,1,4] rfl rfl) (aD.refl _ _)
 intro a17 b18 h
 unfold nW at h
 refine sqR<|qkLd 0 rfl<|qkAsg rfl<|dtN<|aP<|gY (i:=2) (Ds:=(b18)) (.inl rfl) rfl ?_
 cases h
 exact fS (u9) rfl rfl (RV.tmp rfl) (aQ.ix [1] rfl rfl) aD.nil
end
end Go.Proofs.YtigggfnchamobaaGreatDoor
end
section
set_option maxRecDepth 100000
namespace Go.Gx
open Go Go.Sx Go.Proofs Go.Proofs.YtigggfnchamobaaGreatDoor
noncomputable section
def Zo (us:List GV) (H:GH):OR:=a1 us fun x0=>ob (IT H x0) fun p0=>ob (fC 1000 p0) fun r=>Sy r H
def Zn (us:List GV) (H:GH):OR:=a2 us fun x0 x1=>ob (Zc H x0) fun p0=>ob (Zd .i64 x1) fun p1=>ob (kU 1000 p0 p1) fun r=>MN r H
def Zm (us:List GV) (H:GH):OR:=a3 us fun x0 x1 x2=>ob (IT H x0) fun p0=>ob (Rm H x1) fun p1=>ob (Zd .u32 x2) fun p2=>ob (nM 1000 p0 p1 p2) fun r=>Sy r H
def Zl (us:List GV) (H:GH):OR:=a3 us fun x0 x1 x2=>ob (IT H x0) fun p0=>ob (Rm H x1) fun p1=>ob (Zd .u32 x2) fun p2=>ob (jS 1000 p0 p1 p2) fun r=>SA r H
def RO (f:Nat) (us:List GV) (H:GH):Option (GV×GH):=bif Nat.beq f 40 then Zo us H else bif Nat.beq f 27 then Zn us H else bif Nat.beq f 22 then Zm us H else bif Nat.beq f 12 then Zl us H else none
abbrev gl:Nat->uS:=glb 0 (cellsOf CB rK)
def gp:GP:=⟨tO,46,RO,RN 162⟩
section
variable {T:Nat} {w0:dN (gl T)} {w:World} {ρ:cQ} {H H':GH} {g:GV} {us:List GV} {vs:List Value}
theorem Vd (h:Zo us H=some (g,H')) (R:dZ w0 ρ H w) (hr:mV ρ us vs):iX Tryz.prog w0 ρ 40 vs w g H':=by
 obtain⟨x0,rfl,h⟩:=Nq h
 obtain⟨p0,hp0,h⟩:=aA.1 h
 obtain⟨r,hm,h⟩:=aA.1 h
 obtain⟨V0,rfl,hv0⟩:=hr.one
 obtain⟨w0a,w0b,z0,rfl,f0a,f0b⟩:=DU R hv0 hp0
 obtain⟨rfl,rfl⟩:=GB h
 exact Gm IP (uQ 1000 (p0:=p0) w0a w0b z0 r hm) R (List.forall_mem_cons.2 ⟨f0a,List.forall_mem_cons.2 ⟨f0b,fun f hf=>absurd hf List.not_mem_nil⟩⟩) fun ρ=> .bool _
theorem Vb (h:Zn us H=some (g,H')) (R:dZ w0 ρ H w) (hr:mV ρ us vs):iX Tryz.prog w0 ρ 27 vs w g H':=by
 obtain⟨x0,x1,rfl,h⟩:=Nr h
 obtain⟨p0,hp0,h⟩:=aA.1 h
 obtain⟨p1,hp1,h⟩:=aA.1 h
 obtain⟨r,hm,h⟩:=aA.1 h
 obtain⟨V0,vs,rfl,hv0,hr⟩:=hr.of_cons
 obtain⟨V1,rfl,hv1⟩:=hr.one
 obtain⟨w0a,w0b,w0c,rfl,f0a,f0b,f0c⟩:=UM R hv0 hp0
 obtain rfl:=IU hv1 hp1
 obtain⟨h1,h2,h3,rfl,rfl⟩:=KS h
 exact MC Wc Zh h1 h2 h3 QV (wW 1000 (p0:=p0) (p1:=p1) w0a w0b w0c r hm) R (List.forall_mem_cons.2 ⟨f0a,List.forall_mem_cons.2 ⟨f0b,List.forall_mem_cons.2 ⟨f0c,fun f hf=>absurd hf List.not_mem_nil⟩⟩⟩)
theorem Va (h:Zm us H=some (g,H')) (R:dZ w0 ρ H w) (hr:mV ρ us vs):iX Tryz.prog w0 ρ 22 vs w g H':=by
 obtain⟨x0,x1,x2,rfl,h⟩:=II h
 obtain⟨p0,hp0,h⟩:=aA.1 h
 obtain⟨p1,hp1,h⟩:=aA.1 h
 obtain⟨p2,hp2,h⟩:=aA.1 h
 obtain⟨r,hm,h⟩:=aA.1 h
 obtain⟨V0,vs,rfl,hv0,hr⟩:=hr.of_cons
 obtain⟨V1,vs,rfl,hv1,hr⟩:=hr.of_cons
 obtain⟨V2,rfl,hv2⟩:=hr.one
 obtain⟨w0a,w0b,z0,rfl,f0a,f0b⟩:=DU R hv0 hp0
 obtain⟨z1,f1⟩:=Ky R hv1 hp1
 obtain rfl:=IU hv2 hp2
 obtain⟨rfl,rfl⟩:=GB h
 exact Gm WN (Em 1000 (p0:=p0) (p1:=p1) (p2:=p2) w0a w0b z0 V1 z1 r hm) R (List.forall_mem_cons.2 ⟨f0a,List.forall_mem_cons.2 ⟨f0b,List.forall_mem_cons.2 ⟨f1,fun f hf=>absurd hf List.not_mem_nil⟩⟩⟩) fun ρ=> .bool _
theorem U_ (h:Zl us H=some (g,H')) (R:dZ w0 ρ H w) (hr:mV ρ us vs):iX Tryz.prog w0 ρ 12 vs w g H':=by
 obtain⟨x0,x1,x2,rfl,h⟩:=II h
 obtain⟨p0,hp0,h⟩:=aA.1 h
 obtain⟨p1,hp1,h⟩:=aA.1 h
 obtain⟨p2,hp2,h⟩:=aA.1 h
 obtain⟨r,hm,h⟩:=aA.1 h
 obtain⟨V0,vs,rfl,hv0,hr⟩:=hr.of_cons
 obtain⟨V1,vs,rfl,hv1,hr⟩:=hr.of_cons
 obtain⟨V2,rfl,hv2⟩:=hr.one
 obtain⟨w0a,w0b,z0,rfl,f0a,f0b⟩:=DU R hv0 hp0
 obtain⟨z1,f1⟩:=Ky R hv1 hp1
 obtain rfl:=IU hv2 hp2
 obtain⟨h1,rfl,rfl⟩:=MP h
 exact Ve Wc h1 QT (xQ 1000 (p0:=p0) (p1:=p1) (p2:=p2) w0a w0b z0 V1 z1 r hm) R (List.forall_mem_cons.2 ⟨f0a,List.forall_mem_cons.2 ⟨f0b,List.forall_mem_cons.2 ⟨f1,fun f hf=>absurd hf List.not_mem_nil⟩⟩⟩)
theorem IZ {f:Nat} (h:RO f us H=some (g,H')) (R:dZ w0 ρ H w) (hr:mV ρ us vs):iX Tryz.prog w0 ρ f vs w g H':=by
 unfold RO at h
 cases e0:Nat.beq f 40 with
 |true=>rw[e0]at h;rw[Nat.eq_of_beq_eq_true e0];exact Vd h R hr
 |false=>
 rw[e0]at h
 cases e1:Nat.beq f 27 with
 |true=>rw[e1]at h;rw[Nat.eq_of_beq_eq_true e1];exact Vb h R hr
 |false=>
 rw[e1]at h
 cases e2:Nat.beq f 22 with
 |true=>rw[e2]at h;rw[Nat.eq_of_beq_eq_true e2];exact Va h R hr
 |false=>
 rw[e2]at h
 cases e3:Nat.beq f 12 with
 |true=>rw[e3]at h;rw[Nat.eq_of_beq_eq_true e3];exact U_ h R hr
 |false=>
 rw[e3]at h
 cases h
end
theorem Xw:Zf Tryz.prog tO=true:=by kernel_rfl
theorem Fx:dW Tryz.prog tO:=⟨Ls,Xv Xw⟩
theorem XX {gs:uS} (w0:dN gs):pK Tryz.prog w0 (HJ tO 64 Tryz.f64):=Rc Fx mixedOrders Tryz.func64 Tryz.call64 (by kernel_rfl)
theorem Xr (args:Array Value) (w:World) (hs:args.size=2):CallsDIn (FR none) 0 Tryz.prog 63 args .returning w fun e u' w'=>∃v,e = .returned v∧u' = .returning∧Ix w w':=by
 obtain⟨out,h,he⟩:=SB (r:=BN tO (HJ tO 64 Tryz.f64) (IQ Tryz.f63) (UR tO (HJ tO 64 Tryz.f64) (fun _ _ _ _=>none) (Ra Tryz.f63) 0 ⟨[],0,[]⟩ (Dn [])) (IQ Tryz.f63).tail ⟨[(UL Tryz.f63,.inil)],H0⟩) (by kernel_rfl)
 exact Pb (ch:=HJ tO 64 Tryz.f64) (lp:=fun _ _ _ _=>none) Fx mixedOrders XX EC Tryz.func63 rfl rfl rfl (by decide +kernel) (fun ρ w=>by simp[execOp,resolve,invoke,builtin]) (by kernel_rfl) (by kernel_rfl) rfl (by rw[hs];decide +kernel) h he
theorem Zi {gs:uS} {ext:FuncId->List GV->GH->Option (GV×GH)} (hx:∀(w0:dN gs) {f us H g H'},ext f us H=some (g,H')->∀ρ w vs,dZ w0 ρ H w->mV ρ us vs->iX Tryz.prog w0 ρ f vs w g H') (w0:dN gs):Qc Tryz.prog ⟨tO,46,ext,RN 162⟩ GE.fns w0:=by
 refine⟨Fx,mixedOrders,fun h=> ?_,hx w0,fun h ρ w vs H R hr=>UX Tryz.func162 rfl rfl rfl rfl h ρ w vs H R hr,fun R hc h1 h2=> ?_⟩
 ·obtain⟨e,he,h⟩:=aA.1 (show ob (Oi _) _=some _ from h)
  cases h
  obtain⟨q1,q2,q3⟩:=SR he
  exact⟨q1,q2,KU q3⟩
 ·exact Xk (tb:=tO) (T1:=3) (T2:=45) (cc:=63) Fx Tryz.func46 Tryz.call46 Tryz.call63 rfl rfl rfl (Ns (by kernel_rfl)) (Ns (by kernel_rfl)) (Ot rfl rfl) (Ot rfl rfl) (Sf rfl rfl) (Sf rfl rfl) Xr R hc h1 h2
theorem XA {T:Nat} (w0:dN (gl T)):Qc Tryz.prog gp GE.fns w0:=Zi (fun w0 f us H g H' h ρ w vs R hr=>IZ h R hr) w0
def gp0:GP:=⟨tO,46,fun _ _ _=>none,RN 162⟩
theorem abF (w0:dN XV):Qc Tryz.prog gp0 GE.fns w0:=Zi (fun w0 f us H g H' h=>by cases h) w0
end
end Go.Gx
end
section
namespace Go.Gx
open Go Go.Sx Go.RowKit
mutual
def Dq (k:Nat):GV->GV
 | .ptr h o=> .ptr (k+h) o
 | .sl h o l s=> .sl (k+h) o l s
 | .map h=> .map (k+h)
 | .fn f a b=> .fn f (Qg k a) (Qg k b)
 | .agg cs=> .agg (Qg k cs)
 | .tup vs=> .tup (Qg k vs)
 | .int a b=> .int a b
 | .bool b=> .bool b
 | .str a b=> .str a b
 | .pnil=> .pnil
 | .snil=> .snil
 | .fnil=> .fnil
 | .inil=> .inil
 | .un=> .un
 | .bad=> .bad
 | .opn h=> .opn (k+h)
def Qg (k:Nat):List GV->List GV
 | []=>[]
 |v::r=>Dq k v::Qg k r
end
theorem Ju (k:Nat):∀(l:List GV) (i:Nat),(Qg k l)[i]? = (l[i]?).map (Dq k)
 | [],i=>rfl
 |v::r,0=>rfl
 |v::r,i+1=>by simpa [Qg]using Ju k r i
theorem By (k:Nat):∀(l:List GV),(Qg k l).length=l.length
 | []=>rfl
 |v::r=>by simp[Qg,By k r]
def TC (k:Nat):GO->GO
 | .cells cs=> .cells (Qg k cs)
 | .mp es=> .mp (es.map fun e=>(Dq k e.1,Dq k e.2))
def wU (k:Nat) (l:HA):HA:={l with o:=TC k l.o}
theorem Rl.shift {ρ ρ':cQ} {k:Nat} (hρ:∀h l,ρ h=some l->ρ' (k+h)=some (wU k l)) {g:GV} {v:Value} (h:Rl ρ g v):Rl ρ' (Dq k g) v:=by
 have lst:∀{us:List GV} {us':fJ},(∀(i:Nat) g v,us[i]? = some g->us'[i]? = some v->Rl ρ' (Dq k g) v)->∀(i:Nat) g v,(Qg k us)[i]? = some g->us'[i]? = some v->Rl ρ' g v:=by
  intro us us' hh i g v hg hv
  rw[Ju]at hg
  obtain⟨g0,h0,rfl⟩:=Option.map_eq_some_iff.1 hg
  exact hh i g0 v h0 hv
 induction h with
 |int a n=>simp only[Dq];exact .int a n
 |bool b=>simp only[Dq];exact .bool b
 |str s=>simp only[Dq];exact .str s
 |ptr off h=>simp only[Dq];exact .ptr (l:=wU k _) off (hρ _ _ h)
 |pnil=>simp only[Dq];exact .pnil
 |sl h hc ha=>simp only[Dq];exact .sl (l:=wU k _) (hρ _ _ h) hc ha
 |snil=>simp only[Dq];exact .snil
 |map h=>simp only[Dq];exact .map (l:=wU k _) (hρ _ _ h)
 |fn f h1 h2 h3 h4 ih2 ih4=>simp only[Dq];exact .fn f (by rw[By];exact h1) (lst ih2) (by rw[By];exact h3) (lst ih4)
 |fnil=>simp only[Dq];exact .fnil
 |inil=>simp only[Dq];exact .inil
 |agg h1 h2 h3 ih=>simp only[Dq];exact .agg (by rw[By];exact h1) (lst ih) h3
 |tup h1 h2 ih=>simp only[Dq];exact .tup (by rw[By];exact h1) (lst ih)
 |un=>simp only[Dq];exact .un
 |bad v=>simp only[Dq];exact .bad v
 |opn v h hx=>simp only[Dq];exact .opn (l:=wU k _) v (hρ _ _ h) hx

abbrev OL:=List (Nat×Nat×GO)
def Qe:OL->Nat->Option (Nat×GO)
 | [],_=>none
 |x::r,h=>if h=x.1 then some x.2 else Qe r h
theorem Jg {os:OL} {h:Nat} {p:Nat×GO} (hl:Qe os h=some p):(h,p)∈os:=by
 induction os with
 |nil=>cases hl
 |cons x r ih=>
  simp only[Qe]at hl
  split at hl
  ·rename_i e;cases hl;subst e;exact List.mem_cons_self
  ·exact List.mem_cons_of_mem _ (ih hl)
noncomputable def K_ (k:Nat) (t:Tr (Nat×GO)):OL->Tr (Nat×GO)
 | []=>t
 |x::r=>(K_ k t r).set (some (k+x.2.1,TC k x.2.2)) (k+x.1)
noncomputable def Vx:OL->Tr (Nat×GO)
 | []=> .lf
 |x::r=>(Vx r).set (some x.2) x.1
theorem AR:∀(os:OL) (h:Nat),(Vx os).get h=Qe os h
 | [],h=>rfl
 |x::r,h=>by
  show((Vx r).set (some x.2) x.1).get h=_
  rw[pO]
  simp only[Qe]
  split
  ·rfl
  ·exact AR r h
theorem GD (k:Nat) (t:Tr (Nat×GO)):∀(os:OL) (h:Nat),(K_ k t os).get h=if k<=h then(match Qe os (h - k)with|some p=>some (k+p.1,TC k p.2)|none=>t.get h)else t.get h
 | [],h=>by simp[K_,Qe]
 | x :: r, h => by
  show((K_ k t r).set (some (k+x.2.1,TC k x.2.2)) (k+x.1)).get h=_
  rw[pO,GD k t r h]
  by_cases e:h=k+x.1
  ·subst e
   rw[if_pos rfl,if_pos (by omega)]
   simp[Qe]
  ·rw[if_neg e]
   by_cases hk:k<=h
   ·rw[if_pos hk,if_pos hk]
    simp only[Qe]
    rw[if_neg (show¬h - k=x.1 by omega)]
   ·rw[if_neg hk,if_neg hk]
noncomputable def Fq (n:Nat) (os:OL):GH:=⟨n,Vx os⟩
noncomputable def GH.load (H:GH) (n:Nat) (os:OL):GH:=⟨H.n+n,K_ H.n H.t os⟩
section
variable {gs:uS} {w0:dN gs} {w w':World} {ρ ρ2:cQ} {H:GH} {n:Nat} {os:OL}
theorem eS {H:GH} {h:Nat} {o:GO}:H.get h=some o↔∃v,H.t.get h=some (v,o):=by
 unfold GH.get
 cases hh:H.t.get h with
 |none=>simp[ob]
 |some p=>obtain⟨a,b⟩:=p;simp[ob]
theorem pM {H:GH} {h v:Nat}:H.ver h=some v↔∃o,H.t.get h=some (v,o):=by
 unfold GH.ver
 cases hh:H.t.get h with
 |none=>simp[ob]
 |some p=>obtain⟨a,b⟩:=p;simp[ob]
theorem dZ.sub {H2:GH} (R:dZ w0 ρ H w) (hn:H2.n=H.n) (hs:∀h p,H2.t.get h=some p->H.t.get h=some p):dZ w0 ρ H2 w:=by
 have g:∀h o,H2.get h=some o->H.get h=some o:=fun h o hg=>by
  obtain⟨v,hv⟩:=eS.1 hg
  exact eS.2 ⟨v,hs _ _ hv⟩
 refine⟨R.ext,fun h o hg=>R.live h o (g h o hg),fun h h' o o' l l' h1 h2=>R.inj h h' o o' l l' (g _ _ h1) (g _ _ h2),fun h hh=>R.fresh h (by omega),fun h hh=>R.dense h (by omega),fun h v l hv hl=> ?_,R.env⟩
 obtain⟨o,ho⟩:=pM.1 hv
 obtain⟨lv,a,b,c⟩:=R.vers h v l (pM.2 ⟨o,hs _ _ ho⟩) hl
 refine⟨lv,a,b,?_⟩
 have h1:=eS.2 ⟨v,ho⟩
 have h2:=g _ _ h1
 rw[c]at h2;cases h2;exact h1
theorem tT.shift {l:HA} {o:GO} {ρ':cQ} {k:Nat} (hρ:∀h l,ρ2 h=some l->ρ' (k+h)=some (wU k l)) (h:tT ρ2 w l o):tT ρ' w (wU k l) (TC k o):=by
 cases o with
 |cells cs=>
  obtain⟨cur,T,h1,h2,h3,h4⟩:=h
  refine⟨cur,T,h1,h2,by rw[By];exact h3,fun i g hg=> ?_⟩
  rw[Ju]at hg
  obtain⟨g0,h0,rfl⟩:=Option.map_eq_some_iff.1 hg
  obtain⟨v,a,b,c⟩:=h4 i g0 h0
  exact⟨v,a,b.shift hρ,c⟩
 |mp es=>
  obtain⟨en,cl,h1,h2,h3⟩:=h
  refine⟨en,cl,h1,by simpa [TC]using h2,fun i g hg=> ?_⟩
  rw[List.getElem?_map]at hg
  obtain⟨g0,h0,rfl⟩:=Option.map_eq_some_iff.1 hg
  obtain⟨m,a,b,c⟩:=h3 i g0 h0
  exact⟨m,a,b.shift hρ,c.shift hρ⟩
theorem dZ.join {gs2:uS} {hb:Et gs2 w fun _=>False} (R:dZ w0 ρ H w) (R2:dZ (dN.of w hb) ρ2 (Fq n os) w'):
  ∃ρ':cQ,ρ.le ρ'∧dZ w0 ρ' (H.load n os) w'∧∀g v,Rl ρ2 g v->Rl ρ' (Dq H.n g) v:=by
 let ρ':cQ:=fun h=>if h<H.n then ρ h else(ρ2 (h - H.n)).map (wU H.n)
 have hle:ρ.le ρ':=fun h l hl=>by
  have hlt:h<H.n:=by
   rcases Nat.lt_or_ge h H.n with q|q
   ·exact q
   ·rw[R.fresh h q]at hl;cases hl
  show(if h<H.n then ρ h else _)=_
  rw[if_pos hlt];exact hl
 have hsh:∀h l,ρ2 h=some l->ρ' (H.n+h)=some (wU H.n l):=fun h l hl=>by
  show(if H.n+h<H.n then _ else _)=_
  rw[if_neg (by omega),show H.n+h - H.n=h by omega,hl];rfl
 have hlow:∀h,h<H.n->ρ' h=ρ h:=fun h hh=>by show(if h<H.n then ρ h else _)=_;rw[if_pos hh]
 have hhigh:∀h,H.n<=h->ρ' h=(ρ2 (h - H.n)).map (wU H.n):=fun h hh=>by show(if h<H.n then ρ h else _)=_;rw[if_neg (by omega)]
 have hnone:∀h,H.n<=h->H.t.get h=none:=fun h hh=>by
  cases hg:H.t.get h with
  |none=>rfl
  |some p=>exact absurd (R.lt (eS.2 ⟨p.1,hg⟩)) (by omega)
 have gl:∀h,h<H.n->(H.load n os).t.get h=H.t.get h:=fun h hh=>by
  show(K_ H.n H.t os).get h=_
  rw[GD,if_neg (by omega)]
 have gh:∀h p,H.n<=h->(H.load n os).t.get h=some p->∃p2,(Fq n os).t.get (h - H.n)=some p2∧p=(H.n+p2.1,TC H.n p2.2):=fun h p hh hp=>by
  have hp':(K_ H.n H.t os).get h=some p:=hp
  rw[GD,if_pos hh,hnone h hh]at hp'
  cases hk:Qe os (h - H.n)with
  |none=>rw[hk]at hp';cases hp'
  |some p2=>rw[hk]at hp';cases hp';exact⟨p2,(AR os _).trans hk,rfl⟩
 have e2:Ix w w':=R2.ext.ext
 have mine2:∀l:HA,(dN.of w hb).mine l.b->w.heap.size<=l.b:=fun l h=>by
  rcases h with h|h
  ·exact h
  ·exact h.elim
 have liveL:∀h o,h<H.n->(H.load n os).get h=some o->∃l,ρ h=some l∧w0.mine l.b∧tT ρ w l o∧H.get h=some o:=fun h o hh hg=>by
  obtain⟨v,hv⟩:=eS.1 hg
  rw[gl h hh]at hv
  have hg':=eS.2 ⟨v,hv⟩
  obtain⟨l,a,b,c⟩:=R.live h o hg'
  exact⟨l,a,b,c,hg'⟩
 have liveH:∀h o,H.n<=h->(H.load n os).get h=some o->∃l o2,ρ2 (h - H.n)=some l∧w.heap.size<=l.b∧tT ρ2 w' l o2∧o=TC H.n o2∧(Fq n os).get (h - H.n)=some o2:=fun h o hh hg=>by
  obtain⟨v,hv⟩:=eS.1 hg
  obtain⟨p2,h2,e⟩:=gh h _ hh hv
  cases e
  have hg':(Fq n os).get (h - H.n)=some p2.2:=eS.2 ⟨p2.1,h2⟩
  obtain⟨l,a,b,c⟩:=R2.live _ _ hg'
  exact⟨l,p2.2,a,mine2 l b,c,rfl,hg'⟩
 refine⟨ρ',hle,⟨R.ext.trans e2,fun h o hg=> ?_,fun h h' o o' l l' h1 h2 hl hl' hbb=> ?_,fun h hh=> ?_,fun h hh=> ?_,fun h v l hv hl=> ?_,fun i v e=>let ⟨l,a,b⟩:=R.env i v e;⟨l,hle _ _ a,b⟩⟩,fun g v hg=>hg.shift hsh⟩
 ·rcases Nat.lt_or_ge h H.n with q|q
  ·obtain⟨l,a,b,c,_⟩:=liveL h o q hg
   exact⟨l,by rw[hlow h q];exact a,b,c.move hle (e2.block _ c.lt)⟩
  ·obtain⟨l,o2,a,b,c,rfl,_⟩:=liveH h o q hg
   exact⟨wU H.n l,by rw[hhigh h q,a];rfl,.inl (Nat.le_trans R.ext.size b),c.shift hsh⟩
 ·rcases Nat.lt_or_ge h H.n with q|q<;>rcases Nat.lt_or_ge h' H.n with q'|q'
  ·obtain⟨l1,a1,_,_,g1⟩:=liveL h o q h1
   obtain⟨l2,a2,_,_,g2⟩:=liveL h' o' q' h2
   rw[hlow h q,a1]at hl;rw[hlow h' q',a2]at hl'
   cases hl;cases hl'
   exact R.inj h h' o o' _ _ g1 g2 a1 a2 hbb
  ·obtain⟨l1,a1,_,c1,g1⟩:=liveL h o q h1
   obtain⟨l2,o2,a2,b2,_,rfl,g2⟩:=liveH h' o' q' h2
   rw[hlow h q,a1]at hl;rw[hhigh h' q',a2]at hl'
   cases hl;cases hl'
   have:=c1.lt
   simp only[wU]at hbb
   omega
  ·obtain⟨l1,o1,a1,b1,_,rfl,g1⟩:=liveH h o q h1
   obtain⟨l2,a2,_,c2,g2⟩:=liveL h' o' q' h2
   rw[hhigh h q,a1]at hl;rw[hlow h' q',a2]at hl'
   cases hl;cases hl'
   have:=c2.lt
   simp only[wU]at hbb
   omega
  ·obtain⟨l1,o1,a1,b1,_,rfl,g1⟩:=liveH h o q h1
   obtain⟨l2,o2,a2,b2,_,rfl,g2⟩:=liveH h' o' q' h2
   rw[hhigh h q,a1]at hl;rw[hhigh h' q',a2]at hl'
   cases hl;cases hl'
   have:=R2.inj _ _ _ _ _ _ g1 g2 a1 a2 hbb
   omega
 ·have hh':H.n+n<=h:=hh
  rw[hhigh h (by omega),R2.fresh (h - H.n) (by show n<=_;omega)];rfl
 ·have hh':h<H.n+n:=hh
  rcases Nat.lt_or_ge h H.n with q|q
  ·obtain⟨l,hl⟩:=R.dense h q
   exact⟨l,by rw[hlow h q];exact hl⟩
  ·obtain⟨l,hl⟩:=R2.dense (h - H.n) (by show _<n;omega)
   exact⟨wU H.n l,by rw[hhigh h q,hl];rfl⟩
 ·obtain⟨o,ho⟩:=pM.1 hv
  rcases Nat.lt_or_ge h H.n with q|q
  ·rw[gl h q]at ho
   rw[hlow h q]at hl
   obtain⟨lv,a,b,c⟩:=R.vers h v l (pM.2 ⟨o,ho⟩) hl
   have hg:=eS.2 ⟨v,ho⟩
   obtain⟨l',hl',_,ck⟩:=R.live h o hg
   rw[hl]at hl';cases hl'
   refine⟨lv,hle _ _ a,by rw[e2.block _ ck.lt];exact b,?_⟩
   obtain⟨v2,hv2⟩:=eS.1 c
   exact eS.2 ⟨v2,by rw[gl h q];exact hv2⟩
  ·obtain⟨p2,h2,e⟩:=gh h _ q ho
   cases e
   rw[hhigh h q]at hl
   obtain⟨l2,hl2,rfl⟩:=Option.map_eq_some_iff.1 hl
   obtain⟨lv,a,b,c⟩:=R2.vers (h - H.n) p2.1 l2 (pM.2 ⟨p2.2,h2⟩) hl2
   refine⟨wU H.n lv,hsh _ _ a,b,?_⟩
   have h3:(Fq n os).get (h - H.n)=some p2.2:=eS.2 ⟨p2.1,h2⟩
   rw[c]at h3
   have h4:=Option.some.inj h3
   exact eS.2 ⟨_,by rw[ho,<-h4];rfl⟩
end

theorem Rv {a b:Nat×Nat} (h:LK a b=true):a=b:=by
 obtain⟨a1,a2⟩:=a
 obtain⟨b1,b2⟩:=b
 unfold LK at h
 cases h2:Nat.beq a2 b2 with
 |false=>simp[h2]at h
 |true=>
  simp only[h2,cond_true]at h
  rw[Nat.eq_of_beq_eq_true h,Nat.eq_of_beq_eq_true h2]
theorem SP {ρ:cQ} {n l:Nat} {x:ByteArray} (e1:n=jM (a_ x)) (e2:l=(a_ x).length):Rl ρ (.str n l) (.string x):=by
 rw[e1,e2];exact .str x
def Zp (us:List GV) (p:Nat×Nat):Bool:=List.casesOn (motive:=fun _=>Bool) us false fun u r=>List.casesOn (motive:=fun _=>Bool) r (Option.casesOn (motive:=fun _=>Bool) (GV.asStr u) false fun s=>LK s p) fun _ _=>false
theorem XG {us:List GV} {p:Nat×Nat} (h:Zp us p=true):us=[.str p.1 p.2]:=by
 cases us with
 |nil=>cases h
 | cons u r =>
  cases r with
  |cons _ _=>cases h
  | nil =>
   cases hu:GV.asStr u with
   |none=>simp[Zp,hu]at h
   |some s=>
    have:LK s p=true:=by simpa [Zp,hu]using h
    rw[nA hu,Rv this]
noncomputable section
def SH (H:GH) (hs:List Nat):Option OL:=List.rec (motive:=fun _=>Option OL) (some []) (fun h _ ih=>ob (H.t.get h) fun p=>ob ih fun r=>some ((h,p.1,p.2)::r)) hs
theorem Eh {H:GH}:∀{hs:List Nat} {os:OL},SH H hs=some os->∀x∈os,H.t.get x.1=some x.2
 | [],os,h,x,hx=>by cases h;cases hx
 |h0::hs,os,h,x,hx=>by
  obtain⟨p,hp,h⟩:=aA.1 (show ob (H.t.get h0) (fun p=>ob (SH H hs) fun r=>some ((h0,p.1,p.2)::r))=some os from h)
  obtain⟨r,hr,h⟩:=aA.1 h
  cases h
  rcases List.mem_cons.1 hx with rfl|hx
  ·exact hp
  ·exact Eh hr x hx
def Sm (T:CN) (G:GP) (fuel f:Nat) (us:List GV) (hs:List Nat):Option (GV×Nat×OL):=ob (FY T G fuel f us H0) fun r=>ob (SH r.2 hs) fun os=>some (r.1,r.2.n,os)
def ZD {R:Type} (k:Nat) (v:GV) (f:GV->R):R:=GV.casesOn (motive_1:=fun _=>R) v (fun a b=>f (.int a b)) (fun b=>f (.bool b)) (fun a b=>f (.str a b)) (fun h o=>sn (Nat.add k h) fun h=>f (.ptr h o)) (f .pnil) (fun h o l s=>sn (Nat.add k h) fun h=>f (.sl h o l s)) (f .snil) (fun h=>sn (Nat.add k h) fun h=>f (.map h)) (fun a b c=>f (Dq k (.fn a b c))) (f .fnil) (f .inil) (fun cs=>f (Dq k (.agg cs))) (fun vs=>f (Dq k (.tup vs))) (f .un) (f .bad) (fun h=>sn (Nat.add k h) fun h=>f (.opn h))
theorem SY {R:Type} (k:Nat) (v:GV) (f:GV->R):ZD k v f=f (Dq k v):=by
 cases v<;>simp[ZD,rI,Dq]
def Yc {R:Type} (k:Nat) (l:List GV):(List GV->R)->R:=List.rec (motive:=fun _=>(List GV->R)->R) (fun f=>f []) (fun x _ ih f=>ZD k x fun y=>ih fun r=>f (y::r)) l
theorem Oo {R:Type} (k:Nat):∀(l:List GV) (f:List GV->R),Yc k l f=f (Qg k l)
 | [],f=>rfl
 |x::l,f=>by
  show ZD k x (fun y=>Yc k l fun r=>f (y::r))=_
  rw[SY,Oo k l];rfl
def Yd {R:Type} (k:Nat) (o:GO) (f:GO->R):R:=GO.casesOn (motive:=fun _=>R) o (fun cs=>Yc k cs fun cs=>f (.cells cs)) (fun es=>f (TC k (.mp es)))
theorem VH {R:Type} (k:Nat) (o:GO) (f:GO->R):Yd k o f=f (TC k o):=by
 cases o with
 |cells cs=>exact Oo k cs _
 |mp es=>rfl
def XW {R:Type} (k:Nat) (t:Tr (Nat×GO)) (os:OL):(Tr (Nat×GO)->R)->R:=List.rec (motive:=fun _=>(Tr (Nat×GO)->R)->R) (fun f=>f t) (fun x _ ih f=>ih fun t=>sn (Nat.add k x.2.1) fun v=>sn (Nat.add k x.1) fun h=>Yd k x.2.2 fun o=>t.setK (some (v,o)) h f) os
theorem Of {R:Type} (k:Nat) (t:Tr (Nat×GO)):∀(os:OL) (f:Tr (Nat×GO)->R),XW k t os f=f (K_ k t os)
 | [],f=>rfl
 |x::os,f=>by
  show XW k t os (fun t=>sn (Nat.add k x.2.1) fun v=>sn (Nat.add k x.1) fun h=>Yd k x.2.2 fun o=>t.setK (some (v,o)) h f)=_
  rw[Of k t os]
  simp only[rI,VH,zC];rfl
def NZ (g:GV) (n:Nat) (os:OL) (H:GH):Option (GV×GH):=sn H.n fun k=>ZD k g fun g=>XW k H.t os fun t=>sn (Nat.add k n) fun m=>some (g,⟨m,t⟩)
theorem Sk (g:GV) (n:Nat) (os:OL) (H:GH):NZ g n os H=some (Dq H.n g,H.load n os):=by
 unfold NZ
 simp only[rI,SY,Of];rfl
theorem Vo {P:Program} {T:CN} {G:GP} {gs gs2:uS} (hobs:gs2.obs=gs.obs) (henv:gs2.env=[]) (hT:FJ T G.tab) (hG:∀w0:dN gs2,Qc P G T.fns w0) {fuel f n:Nat} {us:List GV} {vs:List Value} {hs:List Nat} {g:GV} {os:OL} (hm:Sm T G fuel f us hs=some (g,n,os)) (hb:aO P f)
  {w0:dN gs} {w:World} {ρ:cQ} {H H':GH} {g':GV} (hv:mV (fun _=>none) us vs) (h:NZ g n os H=some (g',H')) (R:dZ w0 ρ H w):iX P w0 ρ f vs w g' H':=by
 rw[Sk]at h;cases h
 obtain⟨r,hr,hm⟩:=aA.1 (show ob (FY T G fuel f us H0) _=some (g,n,os)from hm)
 obtain⟨os',hos,hm⟩:=aA.1 hm
 cases hm
 rw[CU hT]at hr
 have hgl:Et gs2 w fun _=>False:=fun p hp=>⟨(R.glo p (hobs▸hp)).1,id⟩
 rcases CS hG (H':=r.2) (g:=r.1) hr (dZ.start (dN.of w hgl) henv) hv with⟨v,w',ρ',hr',_⟩|⟨_,hc⟩
 ·have:=hb vs.toArray w
  rw[show(dN.of w hgl).w=w from rfl,this]at hr';cases hr'
 ·refine .inr ⟨hb _ w,hc.mono ?_⟩
  rintro e w' ⟨v,ρ2,rfl,_,R2,hr2⟩
  have R3:dZ (dN.of w hgl) ρ2 (Fq r.2.n os) w':=R2.sub rfl fun h p hp=>by
   have:Qe os h=some p:=(AR os h).symm.trans hp
   exact Eh hos _ (Jg this)
  obtain⟨ρ',hle,R4,hsh⟩:=R.join R3
  exact⟨v,ρ',rfl,hle,R4,hsh _ _ hr2⟩
theorem PC {P:Program} {T:CN} {G:GP} {gs:uS} (hT:FJ T G.tab) (hG:∀w0:dN gs,Qc P G T.fns w0) {fuel f n:Nat} {us:List GV} {vs:List Value} {hs:List Nat} {g:GV} {os:OL} (hm:Sm T G fuel f us hs=some (g,n,os)) (hb:aO P f)
  (hv:mV (fun _=>none) us vs) (he:gs.env=[]) (b:dN gs):Calls P f vs.toArray b.w fun e w'=>∃v ρ',e = .returned v∧dZ b ρ' (Fq n os) w'∧Rl ρ' g v:=by
 obtain⟨r,hr,hm⟩:=aA.1 (show ob (FY T G fuel f us H0) _=some (g,n,os)from hm)
 obtain⟨os',hos,hm⟩:=aA.1 hm
 cases hm
 rw[CU hT]at hr
 rcases CS hG (H':=r.2) (g:=r.1) hr (dZ.start b he) hv with⟨v,w',ρ',hr',_⟩|⟨_,hc⟩
 ·have:=hb vs.toArray b.w
  rw[this]at hr';cases hr'
 ·refine hc.mono ?_
  rintro e w' ⟨v,ρ2,rfl,_,R2,hr2⟩
  exact⟨v,ρ2,rfl,R2.sub rfl fun h p hp=>by
   have:Qe os h=some p:=(AR os h).symm.trans hp
   exact Eh hos _ (Jg this),hr2⟩
end
theorem ML {P:Program} {gs:Nat->uS} {L:List aS} (hL:∀w S,(∀h∈L,h.p w S)->∃T,Et (gs T) w fun _=>False) {f n:Nat} {vs:List Value} {g:GV} {os:OL}
  (h:∀T (b:dN (gs T)),Calls P f vs.toArray b.w fun e w'=>∃v ρ',e = .returned v∧dZ b ρ' (Fq n os) w'∧Rl ρ' g v) {A:Type} {ret:A->Value} {LO:A->List aS}
  (hdec:∀T (b:dN (gs T)) (ρ:cQ) (w:World) (V:Value),(∀k,b.mine k->b.w.heap.size<=k)->dZ b ρ (Fq n os) w->Rl ρ g V->∃x:A,V=ret x∧∀q∈LO x,q.p w (fun k=>b.w.heap.size<=k)):
  aT P f vs.toArray L ret (fun _ l=>l) (fun x l=>LO x++l):=by
 intro w0 S0 hw
 obtain⟨T,hT⟩:=hL w0 S0 hw
 refine(h T (.of w0 hT)).mono ?_
 rintro e w' ⟨v,ρ',rfl,R,hr⟩
 obtain⟨x,rfl,hq⟩:=hdec T (.of w0 hT) ρ' w' v (fun k hk=>hk.elim id False.elim) R hr
 refine⟨x,rfl,R.ext,fun _ _=>False,⟨fun i m hm=>by simp at hm,fun i k h=>h.elim,fun i j k h=>h.elim⟩,fun q hq'=> ?_⟩
 have hq':q∈LO x++[]:=hq'
 rw[List.append_nil]at hq'
 exact aS.wide (hq q hq') (fun k hk=>⟨.inr (.inl hk),fun i h=>h.elim⟩)

noncomputable def EL (s:ByteArray):Nat×Nat:=(jM (a_ s),(a_ s).length)
theorem KB {a b:ByteArray} (h:EL a=EL b):a=b:=by
 have h1:=Ru a b
 unfold EL at h
 rw[h]at h1
 have h2:LK (jM (a_ b),(a_ b).length) (jM (a_ b),(a_ b).length)=true:=by simp[LK]
 rw[h2]at h1
 have h3:a.toList=b.toList:=eq_of_beq h1.symm
 rw[Lib.toList_data,Lib.toList_data]at h3
 obtain⟨⟨x⟩⟩:=a
 obtain⟨⟨y⟩⟩:=b
 simp only at h3
 rw[h3]
noncomputable def Xp (cs:List GV):Option (Nat×Nat):=List.casesOn (motive:=fun _=>Option (Nat×Nat)) cs none fun c r=>List.casesOn (motive:=fun _=>Option (Nat×Nat)) r c.asStr fun _ _=>none
abbrev XY:dV ByteArray:=⟨1,Nat.one_pos,fun _ _ cs x=>cs=[.string x],fun h=>by simp[h],fun h _=>h⟩
theorem fG.str {S:Nat->Prop} {ρ:cQ} {w:World}:fG S ρ w Xp XY EL:=fun gs vs y hr h _=>by
 cases gs with
 |nil=>cases h
 |cons c gs=>
 cases gs with
 |cons _ _=>cases h
 |nil=>
 have h:c.asStr=some y:=h
 obtain⟨v,vs,rfl,hv,hr⟩:=hr.of_cons
 rw[hr.of_nil]
 rw[nA h]at hv
 obtain⟨x,rfl,e1,e2⟩:=hv.str_inv
 exact⟨x,by unfold EL;rw[<-e1,<-e2],rfl⟩
theorem VJ {ρ:cQ} {V:Value} {n l:Nat} {s:ByteArray} (h:Rl ρ (.str n l) V) (e:EL s=(n,l)):V = .string s:=by
 obtain⟨x,rfl,e1,e2⟩:=h.str_inv
 have:EL x=EL s:=by rw[e];unfold EL;rw[<-e1,<-e2]
 rw[KB this]
theorem Gp {α:Type}:∀a b:α,id a=id b->a=b:=fun _ _ h=>h
theorem AM {α β α' β':Type} {f:α->α'} {g:β->β'} (hf:∀a b,f a=f b->a=b) (hg:∀a b,g a=g b->a=b):∀a b:α×β,(fun z:α×β=>(f z.1,g z.2)) a=(fun z:α×β=>(f z.1,g z.2)) b->a=b:=fun a b h=>by
 obtain⟨a1,a2⟩:=a
 obtain⟨b1,b2⟩:=b
 simp only[Prod.mk.injEq]at h
 rw[hf _ _ h.1,hg _ _ h.2]
theorem Gt {α β:Type} {f:α->β} (hf:∀a b,f a=f b->a=b):∀{xs ys:List α},xs.map f=ys.map f->xs=ys
 | [],[],_=>rfl
 | [],_::_,h=>by simp at h
 |_::_,[],h=>by simp at h
 |a::xs,b::ys,h=>by
  simp only[List.map_cons,List.cons.injEq]at h
  rw[hf _ _ h.1,Gt hf h.2]
end Go.Gx
end
section
set_option maxRecDepth 100000
namespace Go.Gx
open Go Go.Sx Go.Proofs Go.Proofs.YtigggfnchamobaaGreatDoor
def mu0:List GV:=[.str 6706143830449764899556809608818904919804074884937111603718476495539622089622860971527792587791047894922729163212717263328395231852300855536488424978955807703755604513825873373095632290149847090083112304426652546340939400726262280257803792487332445892473582856512649637013408585975292850644760247287299230258062944610265801223788397479914840704983105145953743025358843726328641031619437354017789814719882883570583131354112070717477863523377784965938515931160728579383844655360852857429048595849656685311997067516701048769715945338084683118784715135226216982869351630641616464718832441949492048937096570154901286325463543707328254906190863546417377904 270]
def Zv:GV:=(.agg [(.str 7562850 3),(.sl 1176 0 2 6),(.sl 2078 0 2 3)])
def Sq:OL:=[(1176,1176,.cells [(.str 100 1),(.int .i64 (.ofNat 1)),(.int .i64 (.ofNat 0)),(.int .i64 (.ofNat 0)),(.int .i64 (.ofNat 1)),(.int .i64 (.ofNat 0)),(.str 112 1),(.int .i64 (.ofNat 3)),(.int .i64 (.ofNat 0)),(.int .i64 (.ofNat 0)),(.int .i64 (.ofNat 0)),(.int .i64 (.ofNat 0))]),
 (1300,1300,.cells [(.int .i64 (.ofNat 41)),(.int .i64 (.ofNat 0)),(.int .i64 (.ofNat 10)),(.int .i64 (.ofNat 0)),(.int .i64 (.ofNat 42)),(.int .i64 (.ofNat 0)),(.int .i64 (.ofNat 36)),(.int .i64 (.ofNat 0)),(.int .i64 (.ofNat 5)),(.int .i64 (.ofNat 0)),(.int .i64 (.ofNat 1)),(.int .i64 (.ofNat 0)),(.int .i64 (.ofNat 36)),(.int .i64 (.ofNat 0)),(.int .i64 (.ofNat 5)),(.int .i64 (.ofNat 1)),(.int .i64 (.ofNat 4)),(.int .i64 (.ofNat 0))]),
 (1326,1326,.cells [(.int .i64 (.ofNat 1)),(.int .i64 (.ofNat 0))]),
 (1359,1359,.cells [(.int .i64 (.ofNat 4)),(.int .i64 (.ofNat 0))]),
 (1367,1367,.cells [(.int .i64 (.ofNat 0)),(.sl 1326 0 1 2),(.int .i64 (.ofNat 1)),(.sl 1359 0 1 2)]),
 (1755,1755,.cells [(.int .i64 (.ofNat 41)),(.int .i64 (.ofNat 0)),(.int .i64 (.ofNat 19)),(.int .i64 (.ofNat 0)),(.int .i64 (.ofNat 10)),(.int .i64 (.ofNat 0)),(.int .i64 (.ofNat 42)),(.int .i64 (.ofNat 0)),(.int .i64 (.ofNat 36)),(.int .i64 (.ofNat 0)),(.int .i64 (.ofNat 5)),(.int .i64 (.ofNat 0)),(.int .i64 (.ofNat 43)),(.int .i64 (.ofNat 0)),(.int .i64 (.ofNat 37)),(.int .i64 (.ofNat 0)),(.int .i64 (.ofNat 24)),(.int .i64 (.ofNat 0)),(.int .i64 (.ofNat 12)),(.int .i64 (.ofNat 0)),(.int .i64 (.ofNat 6)),(.int .i64 (.ofNat 0)),(.int .i64 (.ofNat 33)),(.int .i64 (.ofNat 0)),(.int .i64 (.ofNat 24)),(.int .i64 (.ofNat 0)),(.int .i64 (.ofNat 12)),(.int .i64 (.ofNat 0)),(.int .i64 (.ofNat 1)),(.int .i64 (.ofNat 1)),(.int .i64 (.ofNat 6)),(.int .i64 (.ofNat 0)),(.int .i64 (.ofNat 36)),(.int .i64 (.ofNat 0)),(.int .i64 (.ofNat 5)),(.int .i64 (.ofNat 1)),(.int .i64 (.ofNat 23)),(.int .i64 (.ofNat 0)),(.int .i64 (.ofNat 35)),(.int .i64 (.ofNat 0)),(.int .i64 (.ofNat 12)),(.int .i64 (.ofNat 0)),(.int .i64 (.ofNat 24)),(.int .i64 (.ofNat 0)),(.int .i64 (.ofNat 12)),(.int .i64 (.ofNat 0))]),
 (1936,1936,.cells [(.int .i64 (.ofNat 43)),(.int .i64 (.ofNat 0)),(.int .i64 (.ofNat 37)),(.int .i64 (.ofNat 0)),(.int .i64 (.ofNat 24)),(.int .i64 (.ofNat 0)),(.int .i64 (.ofNat 12)),(.int .i64 (.ofNat 0)),(.int .i64 (.ofNat 6)),(.int .i64 (.ofNat 0)),(.int .i64 (.ofNat 33)),(.int .i64 (.ofNat 0)),(.int .i64 (.ofNat 24)),(.int .i64 (.ofNat 0)),(.int .i64 (.ofNat 12)),(.int .i64 (.ofNat 0)),(.int .i64 (.ofNat 1)),(.int .i64 (.ofNat 1)),(.int .i64 (.ofNat 6)),(.int .i64 (.ofNat 0))]),
 (2062,2062,.cells [(.int .i64 (.ofNat 23)),(.int .i64 (.ofNat 0)),(.int .i64 (.ofNat 35)),(.int .i64 (.ofNat 0)),(.int .i64 (.ofNat 12)),(.int .i64 (.ofNat 0)),(.int .i64 (.ofNat 24)),(.int .i64 (.ofNat 0)),(.int .i64 (.ofNat 12)),(.int .i64 (.ofNat 0))]),
 (2070,2070,.cells [(.int .i64 (.ofNat 0)),(.sl 1936 0 10 2),(.int .i64 (.ofNat 1)),(.sl 2062 0 5 2)]),
 (2078,2078,.cells [(.str 7368564 3),(.sl 1300 0 9 2),(.sl 1367 0 2 2),(.str 7827308 3),(.sl 1755 0 23 2),(.sl 2070 0 2 2)])]
set_option maxHeartbeats 4000000 in
theorem me0:Sm GE gp 4000 8 mu0 [1176,1300,1326,1359,1367,1755,1936,2062,2070,2078]=some (Zv,3136,Sq):=by kernel_rfl
noncomputable def Mz (f:Nat) (us:List GV) (H:GH):Option (GV×GH):=bif Nat.beq f 8 then(bif Zp us (6706143830449764899556809608818904919804074884937111603718476495539622089622860971527792587791047894922729163212717263328395231852300855536488424978955807703755604513825873373095632290149847090083112304426652546340939400726262280257803792487332445892473582856512649637013408585975292850644760247287299230258062944610265801223788397479914840704983105145953743025358843726328641031619437354017789814719882883570583131354112070717477863523377784965938515931160728579383844655360852857429048595849656685311997067516701048769715945338084683118784715135226216982869351630641616464718832441949492048937096570154901286325463543707328254906190863546417377904,270)then NZ Zv 3136 Sq H else RO f us H)else RO f us H
noncomputable def Zk:GP:=⟨tO,gp.cat,Mz,gp.exn⟩
theorem Pr {T:Nat} {w0:dN (gl T)} {w:World} {ρ:cQ} {H H':GH} {g:GV} {us:List GV} {vs:fJ} {f:Nat} (h:Mz f us H=some (g,H')) (R:dZ w0 ρ H w) (hr:mV ρ us vs):iX Tryz.prog w0 ρ f vs w g H':=by
 unfold Mz at h
 cases e1:Nat.beq f 8 with
 |false=>rw[e1]at h;exact IZ h R hr
 | true =>
  rw[e1]at h
  cases e2:Zp us (6706143830449764899556809608818904919804074884937111603718476495539622089622860971527792587791047894922729163212717263328395231852300855536488424978955807703755604513825873373095632290149847090083112304426652546340939400726262280257803792487332445892473582856512649637013408585975292850644760247287299230258062944610265801223788397479914840704983105145953743025358843726328641031619437354017789814719882883570583131354112070717477863523377784965938515931160728579383844655360852857429048595849656685311997067516701048769715945338084683118784715135226216982869351630641616464718832441949492048937096570154901286325463543707328254906190863546417377904,270)with
  |false=>rw[e2]at h;exact IZ h R hr
  |true=>
   rw[e2]at h;rw[Nat.eq_of_beq_eq_true e1]
   rw[XG e2]at hr
   obtain⟨V,rfl,hv⟩:=hr.one
   obtain⟨x,rfl,e3,e4⟩:=hv.str_inv
   exact Vo (gs:=gl T) (gs2:=gl T) rfl rfl Fw XA me0 Tryz.call8 (mV.cons (SP e3 e4) .nil) h R
theorem Zj {T:Nat} (w0:dN (gl T)):Qc Tryz.prog Zk GE.fns w0:=⟨(XA w0).tab,(XA w0).mixed,(XA w0).fns,fun h ρ w vs R hr=>Pr h R hr,(XA w0).exn,(XA w0).cat⟩
noncomputable abbrev gp2:GP:=Zk
theorem abG {T:Nat} (w0:dN (gl T)):Qc Tryz.prog gp2 GE.fns w0:=Zj w0
end Go.Gx
end
section
namespace Go.Gx
open Go Go.Sx Go.RowKit
structure Hd (n:Nat) (os:OL) (ρ:cQ) (w:World) (S:Nat->Prop):Prop where
 live:∀h o,(Fq n os).get h=some o->∃l,ρ h=some l∧S l.b∧tT ρ w l o
 inj:∀h h' o o' l l',(Fq n os).get h=some o->(Fq n os).get h'=some o'->ρ h=some l->ρ h'=some l'->l.b=l'.b->h=h'
 fresh:∀h,n<=h->ρ h=none
 dense:∀h,h<n->∃l,ρ h=some l
 vers:∀h v l,(Fq n os).ver h=some v->ρ h=some l->∃lv,ρ v=some lv∧w.heap[l.b]? = some lv.x∧(Fq n os).get h=some lv.o
theorem Hd.mono {n:Nat} {os:OL} {ρ:cQ} {w w':World} {S S':Nat->Prop} (H:Hd n os ρ w S) (h:∀k,S k->k<w.heap.size->S' k∧w'.heap[k]? = w.heap[k]?):Hd n os ρ w' S':=by
 refine⟨fun k o hg=> ?_,H.inj,H.fresh,H.dense,fun k v l hv hl=> ?_⟩
 ·obtain⟨l,a,b,c⟩:=H.live k o hg
  obtain⟨d,e⟩:=h _ b c.lt
  exact⟨l,a,d,c.move (cQ.le_refl ρ) e⟩
 ·obtain⟨lv,a,b,c⟩:=H.vers k v l hv hl
  obtain⟨o,ho⟩:=pM.1 hv
  obtain⟨l',a',b',c'⟩:=H.live k o (eS.2 ⟨v,ho⟩)
  rw[hl]at a';cases a'
  exact⟨lv,a,by rw[(h _ b' c'.lt).2];exact b,c⟩
theorem dZ.hd {gs:uS} {b:dN gs} {n:Nat} {os:OL} {ρ:cQ} {w:World} {S:Nat->Prop} (R:dZ b ρ (Fq n os) w) (hS:∀k,b.mine k->S k):Hd n os ρ w S:=
 ⟨fun h o hg=>let ⟨l,a,b,c⟩:=R.live h o hg;⟨l,a,hS _ b,c⟩,R.inj,R.fresh,R.dense,R.vers⟩
def Qm (n:Nat) (os:OL) (g:GV) (V:Value):aS where
 p w S:=∃ρ,Hd n os ρ w S∧Rl ρ g V
 mono:=fun⟨ρ,h,r⟩ k=>⟨ρ,h.mono k,r⟩
def Hd.O (n:Nat) (os:OL) (ρ:cQ) (k:Nat):Prop:=∃h o l,(Fq n os).get h=some o∧ρ h=some l∧l.b=k
def Hd.base (n:Nat) (os:OL) (ρ:cQ) (w:World):dN XV:=⟨w,Hd.O n os ρ,fun _ h=>absurd h List.not_mem_nil⟩
theorem Hd.rel {n:Nat} {os:OL} {ρ:cQ} {w:World} {S:Nat->Prop} (H:Hd n os ρ w S):dZ (Hd.base n os ρ w) ρ (Fq n os) w:=
 ⟨yI.refl w,fun h o hg=>let ⟨l,a,_,c⟩:=H.live h o hg;⟨l,a,.inr ⟨h,o,l,hg,a,rfl⟩,c⟩,H.inj,H.fresh,H.dense,H.vers,fun i v e=>by simp[Hd.base,XV]at e⟩
noncomputable def BS (H:GH) (os:OL):Bool:=List.rec (motive:=fun _=>Bool) true (fun x _ ih=>Option.casesOn (motive:=fun _=>Bool) (H.ver x.1) false fun v=>bif Nat.beq v x.2.1 then ih else false) os
theorem Li {H:GH}:∀{os:OL},BS H os=true->∀x∈os,H.ver x.1=some x.2.1
 | [],_,x,hx=>by cases hx
 | y :: os, h, x, hx => by
  have h:Option.casesOn (motive:=fun _=>Bool) (H.ver y.1) false (fun v=>bif Nat.beq v y.2.1 then BS H os else false)=true:=h
  cases hv:H.ver y.1 with
  |none=>rw[hv]at h;cases h
  | some v =>
   rw[hv]at h
   obtain⟨h1,h2⟩:=bA.1 (show(bif Nat.beq v y.2.1 then(some (BS H os))else none)=some true by
    have h:(bif Nat.beq v y.2.1 then BS H os else false)=true:=h
    cases e:Nat.beq v y.2.1<;>rw[e]at h<;>first|cases h|(show some (BS H os)=some true;rw[show BS H os=true from h]))
   rcases List.mem_cons.1 hx with rfl|hx
   ·rw[hv,Nat.eq_of_beq_eq_true h1]
   ·exact Li (Option.some.inj h2) x hx
noncomputable def okV (os:OL) (r:OR):Bool:=Option.casesOn (motive:=fun _=>Bool) r false fun r=>Option.casesOn (motive:=fun _=>Bool) r.1.asB false fun b=>bif b then BS r.2 os else false
theorem SD {os:OL} {r:OR} (h:okV os r=true):∃H',r=some (.bool true,H')∧BS H' os=true:=by
 cases r with
 |none=>cases h
 | some r =>
  obtain⟨g,H'⟩:=r
  have h:Option.casesOn (motive:=fun _=>Bool) g.asB false (fun b=>bif b then BS H' os else false)=true:=h
  cases hb:g.asB with
  |none=>rw[hb]at h;cases h
  |some b=>
   rw[hb]at h
   cases b with
   |false=>cases h
   |true=>exact⟨H',by rw[xW hb],h⟩
theorem Pu {P:Program} {G:GP} {Fs:FT} (hG:∀w0:dN XV,Qc P G Fs w0) {fuel f n:Nat} {os:OL} {g:GV} {V:Value} (hb:aO P f) (h:∃H',NC G Fs fuel f [g] (Fq n os)=some (.bool true,H')∧BS H' os=true) {w:World} {S:Nat->Prop} (hw:(Qm n os g V).p w S):
  Calls P f #[V] w fun e w'=>e = .returned (.bool true)∧Ix w w':=by
 obtain⟨ρ,hd,hr⟩:=hw
 obtain⟨H',h1,h2⟩:=h
 rcases CS hG h1 hd.rel (.cons hr .nil)with⟨v,w',ρ',hr',_⟩|⟨_,hc⟩
 ·have:=hb #[V] w
  rw[this]at hr';cases hr'
 ·refine hc.mono ?_
  rintro e w' ⟨v,ρ2,rfl,hle,R2,hv⟩
  refine⟨by rw[hv.bool_inv],R2.ext.os,R2.ext.tape,R2.ext.output,R2.ext.size,fun k hk=> ?_⟩
  by_cases ho:Hd.O n os ρ k
  ·obtain⟨i,o,l,hg,hl,rfl⟩:=ho
   obtain⟨v0,hv0⟩:=eS.1 hg
   have hm:(i,v0,o)∈os:=Jg ((AR os i).symm.trans hv0)
   obtain⟨lv,a,b,_⟩:=hd.vers i v0 l (pM.2 ⟨o,hv0⟩) hl
   obtain⟨lv',a',b',_⟩:=R2.vers i v0 l (Li h2 _ hm) (hle _ _ hl)
   have:lv=lv':=by have:=hle _ _ a;rw[a']at this;exact(Option.some.inj this).symm
   subst this
   exact b'.trans b.symm
  ·exact R2.ext.block k hk ho
end Go.Gx
end
section
namespace Go.Proofs.YtigggfnchamobaaGreatDoor
open Go Go.Sx Go.Gx
set_option maxRecDepth 100000
abbrev uW:=ByteArray×(Value×eD)×(Value×List (Int×(Value×eD)))
def wB (z:uW):eD×List (Int×eD):=(z.2.1.2,z.2.2.2.map fun s=>(s.1,s.2.2))
def Ck:ByteArray:=(ByteArray.mk #[112,114,111,103,114,97,109,32,98,102,115,59,10,118,97,114,32,100,32,58,32,48,32,46,46,32,110,59,10,118,97,114,32,112,32,58,32,112,111,114,116,59,10,114,117,108,101,32,116,111,112,58,32,114,111,111,116,32,38,38,32,40,100,32,33,61,32,48,32,124,124,32,112,32,33,61,32,110,111,110,101,41,32,45,62,32,100,32,58,61,32,48,44,32,112,32,58,61,32,110,111,110,101,59,10,114,117,108,101,32,108,111,119,58,32,33,114,111,111,116,32,38,38,32,40,100,32,33,61,32,40,109,105,110,40,113,46,100,41,32,60,32,110,32,63,32,109,105,110,40,113,46,100,41,32,43,32,49,32,58,32,110,41,32,124,124,32,112,32,33,61,32,102,105,114,115,116,40,113,46,100,32,61,61,32,109,105,110,40,113,46,100,41,41,41,10,32,32,45,62,32,100,32,58,61,32,40,109,105,110,40,113,46,100,41,32,60,32,110,32,63,32,109,105,110,40,113,46,100,41,32,43,32,49,32,58,32,110,41,44,32,112,32,58,61,32,102,105,114,115,116,40,113,46,100,32,61,61,32,109,105,110,40,113,46,100,41,41,59,10])
def Ei:EI:=[((ByteArray.mk #[100]),(1:Int),(0:Int),(0:Int),(1:Int),(0:Int)),((ByteArray.mk #[112]),(3:Int),(0:Int),(0:Int),(0:Int),(0:Int))]
def Bu:Lr:=[([(41,0),(10,0),(42,0),(36,0),(5,0),(1,0),(36,0),(5,1),(4,0)],[(0,[(1,0)]),(1,[(4,0)])]),([(41,0),(19,0),(10,0),(42,0),(36,0),(5,0),(43,0),(37,0),(24,0),(12,0),(6,0),(33,0),(24,0),(12,0),(1,1),(6,0),(36,0),(5,1),(23,0),(35,0),(12,0),(24,0),(12,0)],[(0,[(43,0),(37,0),(24,0),(12,0),(6,0),(33,0),(24,0),(12,0),(1,1),(6,0)]),(1,[(23,0),(35,0),(12,0),(24,0),(12,0)])])]
def Wi:List ((Nat×Nat)×eD×List (Int×eD)):=[((7368564,3),[(41,0),(10,0),(42,0),(36,0),(5,0),(1,0),(36,0),(5,1),(4,0)],[(0,[(1,0)]),(1,[(4,0)])]),((7827308,3),[(41,0),(19,0),(10,0),(42,0),(36,0),(5,0),(43,0),(37,0),(24,0),(12,0),(6,0),(33,0),(24,0),(12,0),(1,1),(6,0),(36,0),(5,1),(23,0),(35,0),(12,0),(24,0),(12,0)],[(0,[(43,0),(37,0),(24,0),(12,0),(6,0),(33,0),(24,0),(12,0),(1,1),(6,0)]),(1,[(23,0),(35,0),(12,0),(24,0),(12,0)])])]
def PF (V:Value):aS:=⟨fun w S=>(Qm 3136 Sq Zv V).p w S,fun {w w' S S'} h k=>by
 rcases h with h
 ·exact((Qm 3136 Sq Zv V).mono h k)⟩
noncomputable def QN {R:Type} (D:Lr) (k:List uW->Option R):Option R:=open Classical in if h:∃r,∀z:List uW,z.map wB=D->k z=some r then some (Classical.choose h)else none
theorem OW {R:Type} {D:Lr} {k:List uW->Option R} {r:R} (h:QN D k=some r) (z:List uW) (hz:z.map wB=D):k z=some r:=by
 unfold QN at h
 split at h
 ·rename_i e
  rw[<-Option.some.inj h]
  exact Classical.choose_spec e z hz
 cases h
theorem Ua {R:Type} {D:Lr} {k:List uW->Option R} {r:R} (h:∀z:List uW,z.map wB=D->k z=some r):QN D k=some r:=by
 have e:∃r,∀z:List uW,z.map wB=D->k z=some r:=⟨r,h⟩
 unfold QN
 rw[dif_pos e]
 let z:List uW:=D.map fun x=>(ByteArray.empty,(undef,x.1),(undef,x.2.map fun s=>(s.1,(undef,s.2))))
 have hz:z.map wB=D:=by
  show(D.map _).map wB=D
  rw[List.map_map]
  conv=>rhs;rw[<-List.map_id D]
  refine List.map_congr_left fun x _=>?_
  obtain⟨a,b⟩:=x
  simp[wB,Function.comp_def]
 rw[<-Classical.choose_spec e z hz,h z hz]
def oM (fuel:Nat) (p0:ByteArray):Option Tc:=if p0=Ck then some ((ByteArray.mk #[98,102,115]),Ei,Bu)else none
theorem Wa:aO Tryz.prog 8:=Tryz.call8
theorem Nw:aO Tryz.prog 131:=Tryz.call131
theorem KZ:EL Ck=(6706143830449764899556809608818904919804074884937111603718476495539622089622860971527792587791047894922729163212717263328395231852300855536488424978955807703755604513825873373095632290149847090083112304426652546340939400726262280257803792487332445892473582856512649637013408585975292850644760247287299230258062944610265801223788397479914840704983105145953743025358843726328641031619437354017789814719882883570583131354112070717477863523377784965938515931160728579383844655360852857429048595849656685311997067516701048769715945338084683118784715135226216982869351630641616464718832441949492048937096570154901286325463543707328254906190863546417377904,270):=by kernel_rfl
theorem SI:EL (ByteArray.mk #[98,102,115])=(7562850,3):=by kernel_rfl
theorem SL:Kz (Fq 3136 Sq) 6 (dP 1 Xp (dP 1 (dI .i64) (dP 1 (dI .i64) (dP 1 (dI .i64) (dP 1 (dI .i64) (dI .i64)))))) (.sl 1176 0 2 6)=some (Ei.map fun z=>(EL z.1,z.2.1,z.2.2.1,z.2.2.2.1,z.2.2.2.2.1,z.2.2.2.2.2)):=by kernel_rfl
theorem PK:Kz (Fq 3136 Sq) 3 (dP 1 Xp (dP 1 (dS (Fq 3136 Sq) 2 (dP 1 (dI .i64) (dI .i64))) (dS (Fq 3136 Sq) 2 (dP 1 (dI .i64) (dS (Fq 3136 Sq) 2 (dP 1 (dI .i64) (dI .i64))))))) (.sl 2078 0 2 3)=some Wi:=by kernel_rfl
theorem Vv:Wi.map (fun y=>(y.2.1,y.2.2))=Bu:=by kernel_rfl
theorem SJ (r:Tc) (h:some ((ByteArray.mk #[98,102,115]),Ei,Bu)=some r):aT Tryz.prog 8 #[vS Ck] [Gb 0 (cellsOf CB rK)] (fun x:Value×Value×{z:List uW // z.map wB=r.2.2}=>Value.agg #[vS r.1,x.1,x.2.1]) (fun x l=>l) (fun x l=>Sl aG x.1 r.2.1::Sl aE x.2.1 x.2.2.1::PF (Value.agg #[vS r.1,x.1,x.2.1])::l):=by
 cases h
 refine ML (gs:=gl) (LO:=fun x:Value×Value×{z:List uW // z.map wB=Bu}=>[Sl aG x.1 Ei,Sl aE x.2.1 x.2.2.1,PF (Value.agg #[vS (ByteArray.mk #[98,102,115]),x.1,x.2.1])]) RP (fun T b=>PC Fw XA me0 Wa (.cons (SP (x:=Ck) (congrArg Prod.fst KZ).symm (congrArg Prod.snd KZ).symm) .nil) rfl b) ?_
 intro T b ρ w V hm R hr
 have w0:=hr
 obtain⟨bs,rfl,hl,_⟩:=hr.agg_inv
 obtain⟨A1,bs,rfl,a1,hl⟩:=hl.of_cons
 obtain⟨A2,bs,rfl,a2,hl⟩:=hl.of_cons
 obtain⟨A3,rfl,a3⟩:=hl.one
 obtain rfl:=VJ a1 SI
 obtain⟨zs,hz,hs⟩:=Bl R hm (fG.pair fG.str (fG.pair (fG.int .i64) (fG.pair (fG.int .i64) (fG.pair (fG.int .i64) (fG.pair (fG.int .i64) (fG.int .i64)))))) a2 SL
 have hzs:zs=Ei:=Gt (AM (fun _ _=>KB) (AM Gp (AM Gp (AM Gp (AM Gp Gp))))) hz
 subst hzs
 obtain⟨ys,hy,ht⟩:=Bl (r:=aE) R hm (fG.pair fG.str (fG.pair (fG.sl R hm (fG.pair (fG.int .i64) (fG.int .i64))) (fG.sl R hm (fG.pair (fG.int .i64) (fG.sl R hm (fG.pair (fG.int .i64) (fG.int .i64))))))) a3 PK
 have hys:ys.map wB=Bu:=by
  rw[<-Vv,<-hy,List.map_map]
  refine List.map_congr_left fun x _=>?_
  simp[wB,Function.comp_def]
 exact⟨(A2,A3,⟨ys,hys⟩),rfl,List.forall_mem_cons.2 ⟨hs,List.forall_mem_cons.2 ⟨ht,List.forall_mem_cons.2 ⟨(⟨ρ,dZ.hd R hm,w0⟩),fun q hq=>absurd hq List.not_mem_nil⟩⟩⟩⟩
theorem Tu:okV Sq (FY GE gp0 4000 131 [Zv] (Fq 3136 Sq))=true:=by kernel_rfl
theorem EV (fuel:Nat) {p0:ByteArray} (r:Tc) (h:oM fuel p0=some r):aT Tryz.prog 8 #[vS p0] [Gb 0 (cellsOf CB rK)] (fun x:Value×Value×{z:List uW // z.map wB=r.2.2}=>Value.agg #[vS r.1,x.1,x.2.1]) (fun x l=>l) (fun x l=>Sl aG x.1 r.2.1::Sl aE x.2.1 x.2.2.1::PF (Value.agg #[vS r.1,x.1,x.2.1])::l):=by
 unfold oM at h
 by_cases e0:p0=Ck
 ·subst e0;exact SJ r ((if_pos rfl).symm.trans h)
 rw[if_neg e0]at h
 cases h
theorem SK (f:Nat):oM f Ck=some ((ByteArray.mk #[98,102,115]),Ei,Bu):=by
 unfold oM
 exact if_pos rfl
def yB (fuel:Nat) (p0:ByteArray×List (ByteArray×Int×Int×Int×Int×Int)×List (uW)):Option Bool:=some true
theorem Hu (fuel:Nat) {p0:ByteArray×List (ByteArray×Int×Int×Int×Int×Int)×List (uW)} (v0 v1:Value) (r:Bool) (h:yB fuel p0=some r):
  aT Tryz.prog 131 #[Value.agg #[vS p0.1,v0,v1]] [Sl aG v0 p0.2.1,Sl aE v1 p0.2.2,PF (Value.agg #[vS p0.1,v0,v1])] (fun x:Unit=>vB (r)) (fun x l=>l) (fun _ l=>l):=by
 cases h
 intro w S hw
 have key:Calls Tryz.prog 131 #[Value.agg #[vS p0.1,v0,v1]] w fun e w'=>e = .returned (.bool true)∧Ix w w':=by
  rcases hw _ (List.mem_of_getElem? (i:=2) rfl)with hp
  ·refine Pu (fuel:=4000) abF Nw ?_ hp
   obtain⟨H',h1,h2⟩:=SD Tu
   rw[CU (G:=gp0) Fw]at h1
   exact⟨H',h1,h2⟩
 refine key.mono ?_
 rintro e w' ⟨rfl,he⟩
 exact⟨(),rfl,⟨he.os,he.tape,he.output,he.size,fun k hk _=>he.block k hk⟩,fun _ _=>False,⟨fun i m hm=>by simp at hm,fun i k h=>h.elim,fun i j k h=>h.elim⟩,fun q hq=>by simp at hq⟩
end Go.Proofs.YtigggfnchamobaaGreatDoor
end
section
namespace Go.Proofs.YtigggfnchamobaaGreatDoor
open Go Go.Sx
section
abbrev ZZ:=Ba
abbrev PRG:=ByteArray×(List ZZ)×(List uW)
abbrev GRF:=List Int×eF
abbrev SCN:=PRG×GRF×Int×aX
abbrev YT:=SCN×aX×Int×eD
inductive E where
 |lf (o a:Int)
 |un (o:Int) (x:E)
 |ag (o:Int) (x:E)
 |bi (o:Int) (x y:E)
 |ite (x y z:E)
def E.ts:E->eD
 |lf o a=>[(o,a)]
 |un o x=>(o,0)::x.ts
 |ag o x=>(o,0)::x.ts
 |bi o x y=>(o,0)::(x.ts++y.ts)
 |ite x y z=>(43,0)::(x.ts++(y.ts++z.ts))
def E.depth:E->Nat
 |lf _ _=>1
 |un _ x=>x.depth+1
 |ag _ x=>x.depth+1
 |bi _ x y=>max x.depth y.depth+1
 |ite x y z=>max x.depth (max y.depth z.depth)+1
def E.arOk:E->Bool
 |lf o _=>decide (1<=o)&&decide (o<=17)
 |un o x=>decide (18<=o)&&decide (o<=19)&&x.arOk
 |ag o x=>decide (20<=o)&&decide (o<=29)&&x.arOk
 |bi o x y=>decide (30<=o)&&decide (o<=42)&&x.arOk&&y.arOk
 |ite x y z=>x.arOk&&y.arOk&&z.arOk
theorem IL {α:Type} [Inhabited α] {T pre rest:List α} {x:α} {k:Nat} (hT:T=pre++x::rest) (hk:pre.length=k):at' T (k:Int)=x:=by
 subst hT;exact OY pre rest x k hk
theorem dU {k:Nat} (h:k<1000000):wI .i64 ((k:Int)+1)=((k+1:Nat):Int):=by rw[wr (by omega) (by omega)];rfl

theorem QP (f:Nat) {o:Int} (h1:1<=o) (h2:o<=43):tJ f o=some (if o<=17 then 0 else if o<=29 then 1 else if o<=42 then 2 else 3):=by
 unfold tJ uR
 rw[if_neg (by omega)]
 simp only[decide_eq_true_eq]
 rw[if_neg (by omega)]
 split
 ·rfl
 ·split
  ·rfl
  ·split<;>rfl
theorem Rt {F:Nat} {T pre rest:eD} {t:eZ} {k m a:Nat} {fuel:Nat} (hT:T=pre++t::rest) (hk:pre.length=k) (hk2:k<1000) (hm:m<3000) (ha:tJ F t.1=some ((a:Nat):Int)) (ha3:a<=3) (hne:m+a≠0):
  bE (jJ F T) (fuel+1) ((k:Int),(m:Int))=if m+a=1 then some (((k+1:Nat):Int))else bE (jJ F T) fuel (((k+1:Nat):Int),((m+a - 1:Nat):Int)):=by
 have hl:k<T.length:=by rw[hT];simp;omega
 show jJ F T ((k:Int),(m:Int)) (bE (jJ F T) fuel)=_
 unfold jJ
 dsimp only
 rw[if_pos (by omega),cL (by omega),IL hT hk,bB ha,if_neg (by omega),wr (x:=((a:Nat):Int) - 1) (by omega) (by omega),wr (by omega) (by omega),dU (by omega)]
 by_cases h:m+a=1
 ·rw[if_pos h,if_pos (by omega)]
 ·rw[if_neg h,if_neg (by omega)]
  have:(m:Int)+((a:Int) - 1)=((m+a - 1:Nat):Int):=by omega
  rw[this]
theorem UP (F:Nat) (T:eD) (hT9:T.length<=900):∀(e:E),e.arOk=true->∀(fuel k m:Nat) (pre post:eD),T=pre++(e.ts++post)->pre.length=k->1<=m->m+2*(e.ts++post).length<=1900->e.ts.length<=fuel->
  bE (jJ F T) fuel ((k:Int),(m:Int))=if m=1 then some (((k+e.ts.length:Nat):Int))else bE (jJ F T) (fuel - e.ts.length) (((k+e.ts.length:Nat):Int),((m - 1:Nat):Int)):=by
 have key:∀{t:eZ} {l post pre:eD} {fuel k m:Nat},T=pre++((t::l)++post)->pre.length=k->(t::l).length<=fuel->1<=t.1->t.1<=43->1<=m->m+2*((t::l)++post).length<=1900->∀a:Nat,(if t.1<=17 then 0 else if t.1<=29 then 1 else if t.1<=42 then 2 else 3:Int)=a->a<=3->∃f,fuel=f+1∧
   bE (jJ F T) fuel ((k:Int),(m:Int))=if m+a=1 then some (((k+1:Nat):Int))else bE (jJ F T) f (((k+1:Nat):Int),((m+a - 1:Nat):Int)):=by
  intro t l post pre fuel k m hT hk hf h1 h2 hm1 hm a ha ha3
  have hlen:=congrArg List.length hT
  simp only[List.length_append,List.length_cons]at hlen hm hf
  obtain⟨f,rfl⟩:∃f,fuel=f+1:=⟨fuel - 1,by omega⟩
  exact⟨f,rfl,Rt (rest:=l++post) (by simpa using hT) hk (by omega) (by omega) (by rw[QP F h1 h2,ha]) ha3 (by omega)⟩
 intro e
 induction e with
 |lf o a=>
  intro hok fuel k m pre post hT hk hm1 hm hf
  simp only[E.arOk,Bool.and_eq_true,decide_eq_true_eq]at hok
  obtain⟨f,rfl,h⟩:=key (t:=(o,a)) (l:=[]) hT hk hf (by dsimp only;omega) (by dsimp only;omega) hm1 hm 0 (by rw[if_pos (by dsimp only;omega)];rfl) (by omega)
  rw[h];rfl
 |un o x ih=>
  intro hok fuel k m pre post hT hk hm1 hm hf
  simp only[E.arOk,Bool.and_eq_true,decide_eq_true_eq]at hok
  obtain⟨f,rfl,h⟩:=key (t:=(o,0)) (l:=x.ts) hT hk hf (by dsimp only;omega) (by dsimp only;omega) hm1 hm 1 (by rw[if_neg (by dsimp only;omega),if_pos (by dsimp only;omega)];rfl) (by omega)
  simp only[E.ts,List.length_cons]at hf hm ⊢
  rw[h,if_neg (by omega)]
  have:=ih hok.2 f (k+1) m (pre++[(o,0)]) post (by rw[hT];simp[E.ts]) (by simp[hk]) hm1 (by simp at hm ⊢;omega) (by omega)
  rw[show m+1 - 1=m by omega,this,show k+1+x.ts.length=k+(x.ts.length+1) by omega,show f+1 - (x.ts.length+1)=f - x.ts.length by omega]
 |ag o x ih=>
  intro hok fuel k m pre post hT hk hm1 hm hf
  simp only[E.arOk,Bool.and_eq_true,decide_eq_true_eq]at hok
  obtain⟨f,rfl,h⟩:=key (t:=(o,0)) (l:=x.ts) hT hk hf (by dsimp only;omega) (by dsimp only;omega) hm1 hm 1 (by rw[if_neg (by dsimp only;omega),if_pos (by dsimp only;omega)];rfl) (by omega)
  simp only[E.ts,List.length_cons]at hf hm ⊢
  rw[h,if_neg (by omega)]
  have:=ih hok.2 f (k+1) m (pre++[(o,0)]) post (by rw[hT];simp[E.ts]) (by simp[hk]) hm1 (by simp at hm ⊢;omega) (by omega)
  rw[show m+1 - 1=m by omega,this,show k+1+x.ts.length=k+(x.ts.length+1) by omega,show f+1 - (x.ts.length+1)=f - x.ts.length by omega]
 |bi o x y ihx ihy=>
  intro hok fuel k m pre post hT hk hm1 hm hf
  simp only[E.arOk,Bool.and_eq_true,decide_eq_true_eq]at hok
  obtain⟨f,rfl,h⟩:=key (t:=(o,0)) (l:=x.ts++y.ts) hT hk hf (by dsimp only;omega) (by dsimp only;omega) hm1 hm 2 (by rw[if_neg (by dsimp only;omega),if_neg (by dsimp only;omega),if_pos (by dsimp only;omega)];rfl) (by omega)
  simp only[E.ts,List.length_cons,List.length_append]at hf hm ⊢
  rw[h,if_neg (by omega)]
  have h1:=ihx hok.1.2 f (k+1) (m+1) (pre++[(o,0)]) (y.ts++post) (by rw[hT];simp[E.ts]) (by simp[hk]) (by omega) (by simp at hm ⊢;omega) (by omega)
  have h2:=ihy hok.2 (f - x.ts.length) (k+1+x.ts.length) m (pre++((o,0)::x.ts)) post (by rw[hT];simp[E.ts]) (by simp[hk];omega) (by omega) (by simp at hm ⊢;omega) (by omega)
  rw[show m+2 - 1=m+1 by omega,h1,if_neg (by omega),show m+1 - 1=m by omega,h2,show k+1+x.ts.length+y.ts.length=k+(x.ts.length+y.ts.length+1) by omega,show f+1 - (x.ts.length+y.ts.length+1)=f - x.ts.length - y.ts.length by omega]
 |ite x y z ihx ihy ihz=>
  intro hok fuel k m pre post hT hk hm1 hm hf
  simp only[E.arOk,Bool.and_eq_true,decide_eq_true_eq]at hok
  obtain⟨f,rfl,h⟩:=key (t:=(43,0)) (l:=x.ts++(y.ts++z.ts)) hT hk hf (by decide) (by decide) hm1 hm 3 rfl (by omega)
  simp only[E.ts,List.length_cons,List.length_append]at hf hm ⊢
  rw[h,if_neg (by omega)]
  have h1:=ihx hok.1.1 f (k+1) (m+2) (pre++[(43,0)]) (y.ts++z.ts++post) (by rw[hT];simp[E.ts]) (by simp[hk]) (by omega) (by simp at hm ⊢;omega) (by omega)
  have h2:=ihy hok.1.2 (f - x.ts.length) (k+1+x.ts.length) (m+1) (pre++((43,0)::x.ts)) (z.ts++post) (by rw[hT];simp[E.ts]) (by simp[hk];omega) (by omega) (by simp at hm ⊢;omega) (by omega)
  have h3:=ihz hok.2 (f - x.ts.length - y.ts.length) (k+1+x.ts.length+y.ts.length) m (pre++((43,0)::(x.ts++y.ts))) post (by rw[hT];simp[E.ts]) (by simp[hk];omega) (by omega) (by simp at hm ⊢;omega) (by omega)
  rw[show m+3 - 1=m+2 by omega,h1,if_neg (by omega),show m+2 - 1=m+1 by omega,h2,if_neg (by omega),show m+1 - 1=m by omega,h3,show k+1+x.ts.length+y.ts.length+z.ts.length=k+(x.ts.length+(y.ts.length+z.ts.length)+1) by omega,show f+1 - (x.ts.length+(y.ts.length+z.ts.length)+1)=f - x.ts.length - y.ts.length - z.ts.length by omega]
theorem Xs (F:Nat) (e:E) (hok:e.arOk=true) {T pre post:eD} {k:Nat} (hT:T=pre++(e.ts++post)) (hk:pre.length=k) (hl:T.length<=800) (hF:e.ts.length<=F):zQ F T (k:Int)=some (((k+e.ts.length:Nat):Int)):=by
 have hpos:1<=e.ts.length:=by cases e<;>simp[E.ts]
 have hlen:=congrArg List.length hT
 simp only[List.length_append]at hlen
 unfold zQ xR
 rw[if_neg (by omega)]
 simp only[decide_eq_true_eq]
 rw[if_neg (by omega)]
 have:=UP F T (by omega) e hok F k 1 pre post hT hk (by omega) (by simp;omega) hF
 rw[if_pos rfl]at this
 exact this
end
section
def DO (b:Bool):Int:=if b then 1 else 0
theorem rM (f:Nat) (b:Bool):fU f b=some (DO b):=by cases b<;>rfl
theorem En {α:Type} [Inhabited α] {l:List α} {k:Nat} (h:k<l.length):l.take (k+1)=l.take k++[at' l (k:Int)]:=by
 rw[List.take_add_one,List.getElem?_eq_getElem h,i_,List.getD_eq_getElem?_getD,List.getElem?_eq_getElem h];rfl
theorem kD {α:Type} [Inhabited α] {l:List α} {k:Nat} (h:k<l.length):at' l (k:Int)=l[k]:=by
 rw[i_,List.getD_eq_getElem?_getD,List.getElem?_eq_getElem h];rfl
theorem HW {p:Nat->Prop}:∀(n:Nat),p n->∃m,m<=n∧p m∧∀j,j<m->¬p j:=by
 intro n
 induction n using Nat.strongRecOn with
 | _ n ih =>
  intro h
  by_cases hm:∃m,m<n∧p m
  ·obtain⟨m,h1,h2⟩:=hm
   obtain⟨k,a,b,c⟩:=ih m h1 h2
   exact⟨k,by omega,b,c⟩
  ·exact⟨n,Nat.le_refl n,h,fun j hj hp=>hm ⟨j,hj,hp⟩⟩
theorem Ob {α:Type} [DecidableEq α]:∀(l1 l2:List α),l1.Nodup->(∀x∈l1,x∈l2)->l1.length<=l2.length
 | [],l2,_,_=>Nat.zero_le _
 |a::l1,l2,h,hs=>by
  have ha:=hs a List.mem_cons_self
  have h:=List.nodup_cons.1 h
  have:=Ob l1 (l2.erase a) h.2 (fun x hx=>(List.mem_erase_of_ne (fun(e:x=a)=>h.1 (by rw[<-e];exact hx))).2 (hs x (List.mem_cons_of_mem _ hx)))
  rw[List.length_erase_of_mem ha]at this
  have hp:0<l2.length:=List.length_pos_of_mem ha
  simp only[List.length_cons];omega
def nz (x:Int):Bool:=decide (x≠0)
theorem Rj (f:Nat) (l:aL) (h:l.length<f) (hl:l.length<=1000):n_ f l=some ((l.countP nz:Nat):Int):=by
 unfold n_
 have:=dR (step:=oV l) (K:=some ((l.countP nz:Nat):Int)) l.length (fun k=>(((l.take k).countP nz:Nat),(k:Int))) (fun k ag hk=>by
  have hc:(l.take k).countP nz<=k:=Nat.le_trans List.countP_le_length (by simp;omega)
  unfold oV rB
  dsimp only
  rw[if_pos (by omega),cL (by omega),En hk,List.countP_append,dU (by omega),dU (by omega)]
  by_cases h0:at' l (k:Int)=0
  ·rw[if_neg (by simpa using h0)];simp[nz,h0]
  ·rw[if_pos h0];simp[nz,h0]) (fun ag=>by
  unfold oV uK
  dsimp only
  rw[if_neg (by omega),List.take_length]) f h
 exact this
theorem Ew (f:Nat) (l:aL) (x:Int) (h:l.length<f) (hl:l.length<=1000):pI f l x=some (decide (x∈l)):=by
 have key:∃i:Int,nN f l x=some i∧(0<=i↔x∈l):=by
  by_cases hx:x∈l
  ·obtain⟨i,hi,hix⟩:=List.mem_iff_getElem.1 hx
   have hfirst:∃i,i<l.length∧at' l (i:Int)=x∧∀j,j<i->at' l (j:Int)≠x:=by
    obtain⟨m,h1,h2,h3⟩:=HW (p:=fun i=>at' l (i:Int)=x) i (by rw[kD hi,hix])
    exact⟨m,by omega,h2,h3⟩
   obtain⟨i,hi,h1,h2⟩:=hfirst
   refine⟨i,?_,iff_of_true (by omega) hx⟩
   unfold nN
   exact dR (step:=hZ l x) (K:=some (i:Int)) i (fun k=>(k:Int)) (fun k ag hk=>by
    unfold hZ
    rw[if_pos (by omega),cL (by omega),if_neg (fun e=>h2 k hk e.symm),dU (by omega)]) (fun ag=>by
    unfold hZ
    rw[if_pos (by omega),cL (by omega),if_pos h1.symm]) f (by omega)
  ·refine⟨-1,?_,iff_of_false (by omega) hx⟩
   unfold nN
   exact dR (step:=hZ l x) (K:=some (-1)) l.length (fun k=>(k:Int)) (fun k ag hk=>by
    unfold hZ
    rw[if_pos (by omega),cL (by omega),if_neg (fun e=>hx (by rw[e,kD hk];exact List.getElem_mem hk)),dU (by omega)]) (fun ag=>by
    unfold hZ sB
    rw[if_neg (by omega)]) f h
 obtain⟨i,h1,h2⟩:=key
 unfold pI
 rw[bB h1]
 by_cases hx:x∈l
 ·rw[decide_eq_true hx,decide_eq_true (h2.2 hx)]
 ·rw[decide_eq_false hx,decide_eq_false (fun e=>hx (h2.1 e))]
def uD (l:aL):Int:=match l.findIdx? nz with
 |some i=>(i:Int)
 |none=> -1
theorem xL {l:aL} {i:Nat} (hi:i<l.length) (h1:at' l (i:Int)≠0) (h2:∀j,j<i->at' l (j:Int)=0):uD l=i:=by
 have:l.findIdx? nz=some i:=by
  rw[List.findIdx?_eq_some_iff_getElem]
  refine⟨hi,by rw[<-kD hi];simpa [nz]using h1,fun j hj=> ?_⟩
  have:=h2 j hj
  rw[kD (by omega)]at this
  simp[nz,this]
 unfold uD;rw[this]
theorem xK {l:aL} (h:∀j,j<l.length->at' l (j:Int)=0):uD l = -1:=by
 have:l.findIdx? nz=none:=by
  rw[List.findIdx?_eq_none_iff]
  intro x hx
  obtain⟨i,hi,rfl⟩:=List.mem_iff_getElem.1 hx
  have:=h i hi
  rw[kD hi]at this
  simp[nz,this]
 unfold uD;rw[this]
theorem RI (f:Nat) (l:aL) (h:l.length<f) (hl:l.length<=1000):k_ f l (fun y0=>mF f y0)=some (uD l):=by
 unfold k_
 by_cases hx:∃i,i<l.length∧at' l (i:Int)≠0
 ·obtain⟨i,hi,h0⟩:=hx
  obtain⟨m,h1,h2,h3⟩:=HW (p:=fun i=>at' l (i:Int)≠0) i h0
  have h3:∀j,j<m->at' l (j:Int)=0:=fun j hj=>Decidable.not_not.1 (h3 j hj)
  rw[xL (by omega) h2 h3]
  exact dR (step:=eH l _) (K:=some (m:Int)) m (fun k=>(k:Int)) (fun k ag hk=>by
   unfold eH mF
   rw[if_pos (by omega),cL (by omega),bB rfl,if_neg (by simp[h3 k hk]),dU (by omega)]) (fun ag=>by
   unfold eH mF
   rw[if_pos (by omega),cL (by omega),bB rfl,if_pos (by simpa using h2)]) f (by omega)
 ·have hx:∀j,j<l.length->at' l (j:Int)=0:=fun j hj=>Decidable.not_not.1 fun e=>hx ⟨j,hj,e⟩
  rw[xK hx]
  exact dR (step:=eH l _) (K:=some (-1)) l.length (fun k=>(k:Int)) (fun k ag hk=>by
   unfold eH mF
   rw[if_pos (by omega),cL (by omega),bB rfl,if_neg (by simp[hx k hk]),dU (by omega)]) (fun ag=>by
   unfold eH mT
   rw[if_neg (by omega)]) f h
def AO (l:aL):Int:=l.foldl min 1073741824
theorem XS (f:Nat) (l:aL) (h:l.length<f) (hl:l.length<=1000):bE (qG l) f ((1073741824:Int),(0:Int))=some (AO l):=by
 exact dR (step:=qG l) (K:=some (AO l)) l.length (fun k=>((l.take k).foldl min 1073741824,(k:Int))) (fun k ag hk=>by
  unfold qG
  dsimp only
  rw[if_pos (by omega),cL (by omega),En hk,List.foldl_append,dU (by omega)];rfl) (fun ag=>by
  unfold qG wC
  dsimp only
  rw[if_neg (by omega),List.take_length];rfl) f h
theorem Vp {l:aL} {x:Int} (h:x∈l):AO l<=x:=by
 have key:∀(l:aL) (a:Int),l.foldl min a<=a∧∀x∈l,l.foldl min a<=x:=by
  intro l
  induction l with
  |nil=>intro a;exact⟨Int.le_refl a,fun x hx=>by cases hx⟩
  |cons y l ih=>
   intro a
   obtain⟨h1,h2⟩:=ih (min a y)
   refine⟨by simp only[List.foldl_cons];omega,fun x hx=> ?_⟩
   rcases List.mem_cons.1 hx with rfl|hx
   ·simp only[List.foldl_cons];omega
   ·exact h2 x hx
 exact(key l _).2 x h
theorem Sp (l:aL):AO l=1073741824∨AO l∈l:=by
 have key:∀(l:aL) (a:Int),l.foldl min a=a∨l.foldl min a∈l:=by
  intro l
  induction l with
  |nil=>intro a;exact .inl rfl
  | cons y l ih =>
   intro a
   rcases ih (min a y)with h|h
   ·simp only[List.foldl_cons,h]
    rcases Int.le_total a y with q|q
    ·left;omega
    ·right;rw[show min a y=y by omega];exact List.mem_cons_self
   ·right;exact List.mem_cons_of_mem _ h
 exact key l _
def KM (l:aL):Nat->Nat->Nat
 |0,k=>k
 |f+1,k=>if((k:Nat):Int)∈l then KM l f (k+1)else k
def MM (l:aL):Nat:=KM l (l.length+1) 0
theorem So (l:aL):((MM l:Nat):Int)∉l∧(∀j,j<MM l->((j:Nat):Int)∈l)∧MM l<=l.length:=by
 have key:∀(f k:Nat),(∀j,j<k->((j:Nat):Int)∈l)->(∀j,j<KM l f k->((j:Nat):Int)∈l)∧(KM l f k=k+f∨((KM l f k:Nat):Int)∉l):=by
  intro f
  induction f with
  |zero=>intro k h;exact⟨h,.inl rfl⟩
  | succ f ih =>
   intro k h
   by_cases hk:((k:Nat):Int)∈l
   ·have:=ih (k+1) (fun j hj=>by
     rcases Nat.lt_or_ge j k with q|q
     ·exact h j q
     ·rw[show j=k by omega];exact hk)
    simp only[KM,if_pos hk]
    exact⟨this.1,this.2.imp (fun e=>by omega) id⟩
   ·simp only[KM,if_neg hk]
    exact⟨h,.inr hk⟩
 have hle:∀m,(∀j,j<m->((j:Nat):Int)∈l)->m<=l.length:=fun m h=>by
  have:=Ob ((List.range m).map fun j=>((j:Nat):Int)) l (by
   rw[List.nodup_iff_pairwise_ne,List.pairwise_map]
   exact(List.nodup_iff_pairwise_ne.1 List.nodup_range).imp (fun h e=>h (by omega))) (fun x hx=>by
   obtain⟨j,hj,rfl⟩:=List.mem_map.1 hx
   exact h j (List.mem_range.1 hj))
  simpa using this
 obtain⟨h1,h2⟩:=key (l.length+1) 0 (fun j hj=>by omega)
 have h3:=hle _ h1
 refine⟨?_,h1,h3⟩
 rcases h2 with h2|h2
 ·have:KM l (l.length+1) 0<=l.length:=h3
  omega
 ·exact h2
theorem XR (f:Nat) (l:aL) (h:l.length+2<f) (hl:l.length<=900):wR f l=some ((MM l:Nat):Int):=by
 obtain⟨h1,h2,h3⟩:=So l
 unfold wR
 exact dR (step:=uY f l) (K:=some ((MM l:Nat):Int)) (MM l) (fun k=>(k:Int)) (fun k ag hk=>by
  unfold uY
  rw[bB (Ew f l (k:Int) (by omega) (by omega)),if_pos (by simpa using h2 k hk),dU (by omega)]) (fun ag=>by
  unfold uY xJ
  rw[bB (Ew f l _ (by omega) (by omega)),if_neg (by simpa using h1)]) f (by omega)
def NM (o:Int) (l:aL):Int:=
 if o=20 then DO (l.all nz)else if o=21 then DO (l.any nz)else if o=22 then((l.countP nz:Nat):Int)else if o=23 then uD l else if o=24 then AO l else((MM l:Nat):Int)
theorem UW (f:Nat) (o:Int) (l:aL) (hf:40<=f) (hl:l.length<=24) (ho:o=20∨o=21∨o=22∨o=23∨o=24∨o=27):xM f o l=some (NM o l):=by
 have hc:=Rj f l (by omega) (by omega)
 unfold xM
 rcases ho with rfl|rfl|rfl|rfl|rfl|rfl
 ·rw[if_pos rfl,bB hc,bB (rM f _),NM,if_pos rfl]
  have:(decide (((l.countP nz:Nat):Int)=(l.length:Int)))=l.all nz:=by
   rw[Bool.eq_iff_iff];simp[List.countP_eq_length,Int.ofNat_inj]
  rw[this]
 ·rw[if_neg (by decide),if_pos rfl,bB hc,bB (rM f _),NM,if_neg (by decide),if_pos rfl]
  have:(decide ((0:Int)<((l.countP nz:Nat):Int)))=l.any nz:=by
   rw[Bool.eq_iff_iff,decide_eq_true_eq,List.any_eq_true,show((0:Int)<((l.countP nz:Nat):Int))↔0<l.countP nz by omega,List.countP_pos_iff]
  rw[this]
 ·rw[if_neg (by decide),if_neg (by decide),if_pos rfl,bB hc];rfl
 ·rw[if_neg (by decide),if_neg (by decide),if_neg (by decide),if_pos rfl,bB (RI f l (by omega) (by omega))];rfl
 ·rw[if_neg (by decide),if_neg (by decide),if_neg (by decide),if_neg (by decide),if_pos rfl,XS f l (by omega) (by omega)];rfl
 ·rw[if_neg (by decide),if_neg (by decide),if_neg (by decide),if_neg (by decide),if_neg (by decide),if_neg (by decide),if_neg (by decide),if_pos rfl,bB (XR f l (by omega) (by omega))];rfl
end
end Go.Proofs.YtigggfnchamobaaGreatDoor
end
