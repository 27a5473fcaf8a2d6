/- Models of functions with their proofs, by program (gen/xt.py), and plain laws, in one text. Conditions: none. -/
import Derived.Test.YtigggfnchamobaaGreatDoorZCCo2
import Derived.Test.YtigggfnchamobaaGreatDoorZCCo4
import Derived.Test.YtigggfnchamobaaGreatDoorZCCo1
set_option linter.unusedVariables false
set_option linter.unusedSimpArgs false
set_option maxHeartbeats 4000000
set_option maxRecDepth 20000
section
namespace Go.Proofs.YtigggfnchamobaaGreatDoor
open Go.Sx
def oE (a3:(List ((Int×Int)×Int))) (kv6:(Int×Int)×Int) (xa9:Option (Bool)):Option (Bool):=
 if(Option.getD (kS (kv6.1.2,kv6.1.1) a3) (0:Int))≠kv6.2 then(some (false))else(xa9)
def gN  (a3:(List ((Int×Int)×Int))):Option (Bool):=
 FL (oE a3) (some (true)) a3
def kX (a17:Int×(List ((Int×Int)×Int))) (ag16:(Int×(List ((Int×Int)×Int)))->Option (Bool)) (a22:(List ((Int×Int)×Int))):Option (Bool):=
 ag16 ((wI .i64 (a17.1+(1:Int))),a22)
def fK (p0:List (List (Int×Int))) (a17:Int×(List ((Int×Int)×Int))) (a28:Int×(List ((Int×Int)×Int))) (ag27:(Int×(List ((Int×Int)×Int)))->Option (Bool)) (a39:Bool):Option (Bool):=
 if a39=true then(some (false))else(if(Option.isSome (kS (a17.1,((at' (at' p0 a17.1) a28.1).1)) a28.2))=true then(some (false))else(ag27 ((wI .i64 (a28.1+(1:Int))),(yY (a17.1,((at' (at' p0 a17.1) a28.1).1)) ((at' (at' p0 a17.1) a28.1).2) a28.2))))
def eO (p0:List (List (Int×Int))) (a17:Int×(List ((Int×Int)×Int))) (a28:Int×(List ((Int×Int)×Int))) (ag27:(Int×(List ((Int×Int)×Int)))->Option (Bool)) (a35:Bool):Option (Bool):=
 if a35=true then(some (false))else(if((at' (at' p0 a17.1) a28.1).2)<(1:Int)then(fK p0 a17 a28 ag27 (true))else(fK p0 a17 a28 ag27 (decide ((15:Int)<((at' (at' p0 a17.1) a28.1).2)))))
def bX (p0:List (List (Int×Int))) (a17:Int×(List ((Int×Int)×Int))) (ag16:(Int×(List ((Int×Int)×Int)))->Option (Bool)) (a28:Int×(List ((Int×Int)×Int))) (ag27:(Int×(List ((Int×Int)×Int)))->Option (Bool)):Option (Bool):=
 if a28.1<(List.length (at' p0 a17.1):Int)then(ck (0<=a28.1∧a28.1<(List.length (at' p0 a17.1):Int)) (if((at' (at' p0 a17.1) a28.1).1)<(0:Int)then(eO p0 a17 a28 ag27 (true))else(if(List.length p0:Int)<=((at' (at' p0 a17.1) a28.1).1)then(eO p0 a17 a28 ag27 (true))else(eO p0 a17 a28 ag27 (decide (((at' (at' p0 a17.1) a28.1).1)=a17.1))))))else(kX a17 ag16 (a28.2))
def cC (fuel:Nat) (p0:List (List (Int×Int))) (a17:Int×(List ((Int×Int)×Int))) (ag16:(Int×(List ((Int×Int)×Int)))->Option (Bool)):Option (Bool):=
 if a17.1<(List.length p0:Int)then(ck (0<=a17.1∧a17.1<(List.length p0:Int)) (bK (bX p0 a17 ag16) fuel ((0:Int),a17.2)))else(gN  (a17.2))
def fD (fuel:Nat) (p0:List (List (Int×Int))):Option (Bool):=
 bK (cC fuel p0) fuel ((0:Int),([]:List ((Int×Int)×Int)))
theorem Uw:aV Tryz.prog 59:=Tryz.call59
theorem CJ (fuel:Nat) {p0:List (List (Int×Int))} (v0:Value)  (z1:List (Value×List (Int×Int))) (r:Bool) (h:fD fuel p0=some r):
  bA Tryz.prog 59 #[v0] [S2 aK v0 z1 p0] (fun x:Unit=>Value.bool (r)) (fun x l=>l) (fun _ l=>l):=by
 refine bA.of (vs:=[v0]) Tryz.func59 rfl Tryz.ntmps59 rfl fun c=>?_
 unfold fD at h
 refine sqR<|qkAsg rfl<|dtN<|sqR<|aL (aQ.makeMap lE JW) rfl fun b1=>qkAsg rfl<|dtN<|aO<|bL (A:=(List ((Int×Int)×Int))) (B:=Unit) (fun a3=>gN  a3=some r) (fun a3 b4=>[(3,Value.map (some b1))]) (fun a3 b4=>[Mp lE JW b1 a3]) (fun a3 b4=>[S2 aK v0 z1 p0]) ?_ ?_
 ·refine sqR<|qkMove rfl<|aB (jX rfl (aC.fact 0 rfl) rfl) rfl<|qkMove rfl<|dtN<|aU<|bY (A:=Int×(List ((Int×Int)×Int))) (B:=Unit) (cC fuel p0) (fun a17 b18=>[(0,v0),(3,Value.map (some b1)),(14,v0),(15,Value.int .i64 (List.length p0:Int)),(16,Value.int .i64 (a17.1))]) (fun a17 b18=>[Mp lE JW b1 a17.2]) (fun a17 b18=>[S2 aK v0 z1 p0]) ((0:Int),([]:List ((Int×Int)×Int))) (()) h SF (aP.refl _) (aA.refl _ _) ?_
  clear h
  intro k19 a17 b18 h
  unfold cC at h
  refine sqR<|qkLss rfl<|dtN<|aO ?_
  refine eR h rfl (fun _ h=>?_) fun _ h=>?_
  ·refine aW<|aI<|aO<|bL (A:=(List ((Int×Int)×Int))) (B:=Unit) (fun a22=>kX a17 (bK (cC fuel p0) k19) a22=some r) (fun a22 b23=>[(0,v0),(3,Value.map (some b1)),(14,v0),(15,Value.int .i64 (List.length p0:Int)),(16,Value.int .i64 (a17.1))]) (fun a22 b23=>[Mp lE JW b1 a22]) (fun a22 b23=>[S2 aK v0 z1 p0]) ?_ ?_
   ·refine aU<|sqR<|qkMove rfl ?_
    have⟨hc24,h⟩:=aN h
    refine aB (cS rfl rfl (aC.fact 0 rfl) rfl rfl hc24) rfl<|aB (cT rfl (aC.fact 0 rfl) rfl rfl hc24) rfl<|qkAsg rfl<|qkAsg rfl<|dtN<|sqR<|qkMove rfl<|aB (cB rfl (aC.el (aC.fact 0 rfl) hc24.1 hc24.2) rfl) rfl<|qkMove rfl<|dtN<|aU<|bY (A:=Int×(List ((Int×Int)×Int))) (B:=Unit) (bX p0 a17 (bK (cC fuel p0) k19)) (fun a28 b29=>[(0,v0),(3,Value.map (some b1)),(4,Value.int .i64 (a17.1)),(14,v0),(15,Value.int .i64 (List.length p0:Int)),(16,Value.int .i64 (a17.1)),(21,(at' z1 a17.1).1),(22,Value.int .i64 (List.length (at' p0 a17.1):Int)),(23,Value.int .i64 (a28.1))]) (fun a28 b29=>[Mp lE JW b1 a28.2]) (fun a28 b29=>[S2 aK v0 z1 p0]) ((0:Int),a17.2) (()) h SF (aP.refl _) (aA.refl _ _) ?_
    clear h
    intro k30 a28 b29 h
    unfold bX at h
    refine sqR<|qkLss rfl<|dtN<|aO ?_
    refine eR h rfl (fun _ h=>?_) fun _ h=>?_
    ·refine aW<|aI<|aO<|aU<|sqR ?_
     have⟨hc32,h⟩:=aN h
     refine aB (bE rfl rfl (aC.el (aC.fact 0 rfl) hc24.1 hc24.2) rfl rfl hc32) rfl<|aB (gM (cs:=[Value.int .i64 ((at' (at' p0 a17.1) a28.1).1),Value.int .i64 ((at' (at' p0 a17.1) a28.1).2)]) rfl (aC.el (aC.fact 0 rfl) hc24.1 hc24.2) bO rfl rfl rfl rfl hc32) rfl<|aL (aQ.alloc (cs:=[Value.int .i64 (0:Int),Value.int .i64 (0:Int)]) rfl rfl) rfl fun b33=>bM 0 (vs:=[Value.int .i64 ((at' (at' p0 a17.1) a28.1).1),Value.int .i64 ((at' (at' p0 a17.1) a28.1).2)]) rfl rfl rfl rfl rfl rfl<|dtN<|aO<|aO<|bL (A:=Bool) (B:=Unit) (fun a35=>eO p0 a17 a28 (bK (bX p0 a17 (bK (cC fuel p0) k19)) k30) a35=some r) (fun a35 b36=>[(0,v0),(3,Value.map (some b1)),(4,Value.int .i64 (a17.1)),(7,Value.pointer (some ⟨b33,0,none⟩)),(14,v0),(15,Value.int .i64 (List.length p0:Int)),(16,Value.int .i64 (a17.1)),(21,(at' z1 a17.1).1),(22,Value.int .i64 (List.length (at' p0 a17.1):Int)),(23,Value.int .i64 (a28.1)),(42,Value.bool (a35))]) (fun a35 b36=>[bR b33 [Value.int .i64 ((at' (at' p0 a17.1) a28.1).1),Value.int .i64 ((at' (at' p0 a17.1) a28.1).2)] 72,Mp lE JW b1 a28.2]) (fun a35 b36=>[S2 aK v0 z1 p0]) ?_ ?_
     ·refine aS<|qkFld rfl<|qkLd 0 rfl<|qkLss rfl<|qkMove rfl ?_
      refine Bg h rfl (fun _ h=>?_) fun _ h=>?_
      ·refine gdSkip rfl<|gdSkip rfl<|gdSkip rfl<|gdSkip rfl<|gdSkip rfl<|aB (cI rfl rfl) rfl<|qkMove rfl<|gdSkip rfl<|gdSkip rfl<|gdSkip rfl<|gdSkip rfl<|aB (cI rfl rfl) rfl<|dtN ?_
       exact jA (true) (()) h SF rfl
      refine a_ rfl (eF rfl rfl rfl rfl rfl) rfl<|a_ rfl (eJ 0 rfl rfl rfl rfl rfl) rfl<|gyMove rfl<|a_ rfl (jX rfl (aC.fact 0 rfl) rfl) rfl<|a_ rfl (Dy rfl rfl) rfl<|aB (cX rfl rfl) rfl<|qkMove rfl ?_
      refine Bg h rfl (fun _ h=>?_) fun _ h=>?_
      ·refine gdSkip rfl<|gdSkip rfl<|gdSkip rfl<|gdSkip rfl<|aB (cI rfl rfl) rfl<|dtN ?_
       exact jA (true) (()) h SF rfl
      refine a_ rfl (eF rfl rfl rfl rfl rfl) rfl<|a_ rfl (eJ 0 rfl rfl rfl rfl rfl) rfl<|gyMove rfl<|a_ rfl (IK rfl rfl) rfl<|aB (cX rfl rfl) rfl<|dtN ?_
      exact jA (decide (((at' (at' p0 a17.1) a28.1).1)=a17.1)) (()) h SF rfl
     clear h
     intro a35 b36 h
     unfold eO at h
     refine zN h rfl (fun _ h=>?_) fun _ h=>?_
     ·refine sqR<|qkAsg rfl<|dtN<|aX<|aM<|bP<|aM<|aM<|bP<|bP<|aM<|aM<|bP<|aM ?_
      cases h
      exact u_ rfl
     refine aW<|aI<|aO<|aO<|bL (A:=Bool) (B:=Unit) (fun a39=>fK p0 a17 a28 (bK (bX p0 a17 (bK (cC fuel p0) k19)) k30) a39=some r) (fun a39 b40=>[(0,v0),(3,Value.map (some b1)),(4,Value.int .i64 (a17.1)),(7,Value.pointer (some ⟨b33,0,none⟩)),(14,v0),(15,Value.int .i64 (List.length p0:Int)),(16,Value.int .i64 (a17.1)),(21,(at' z1 a17.1).1),(22,Value.int .i64 (List.length (at' p0 a17.1):Int)),(23,Value.int .i64 (a28.1)),(50,Value.bool (a39))]) (fun a39 b40=>[bR b33 [Value.int .i64 ((at' (at' p0 a17.1) a28.1).1),Value.int .i64 ((at' (at' p0 a17.1) a28.1).2)] 72,Mp lE JW b1 a28.2]) (fun a39 b40=>[S2 aK v0 z1 p0]) ?_ ?_
     ·refine aS<|qkFld rfl<|qkLd 0 rfl<|qkLss rfl<|qkMove rfl ?_
      refine Bg h rfl (fun _ h=>?_) fun _ h=>?_
      ·refine gdSkip rfl<|gdSkip rfl<|gdSkip rfl<|aB (cI rfl rfl) rfl<|dtN ?_
       exact jA (true) (()) h SF rfl
      refine a_ rfl (eF rfl rfl rfl rfl rfl) rfl<|a_ rfl (eJ 0 rfl rfl rfl rfl rfl) rfl<|a_ rfl (tC rfl rfl) rfl<|aB (cX rfl rfl) rfl<|dtN ?_
      exact jA (decide ((15:Int)<((at' (at' p0 a17.1) a28.1).2))) (()) h SF rfl
     clear h
     intro a39 b40 h
     unfold fK at h
     refine zN h rfl (fun _ h=>?_) fun _ h=>?_
     ·refine sqR<|qkAsg rfl<|dtN<|aX<|aM<|bP<|aM<|aM<|bP<|bP<|aM<|aM<|bP<|aM ?_
      cases h
      exact u_ rfl
     refine aW<|aI<|sqR<|qkMove rfl<|qkFld rfl<|qkLd 0 rfl ?_
     refine aB (By (r:=Value.agg #[Value.int .i64 (a17.1),Value.int .i64 ((at' (at' p0 a17.1) a28.1).1)]) rfl rfl (by intro w;simp[Instr.build,Instr.fill,eK,dN,c_,eL,eM,dO,fQ])) rfl ?_
     refine aL (aQ.alloc (cs:=[Value.int .i64 (0:Int),Value.int .i64 (0:Int)]) rfl rfl) rfl fun b42=>bM 0 (vs:=[Value.int .i64 (a17.1),Value.int .i64 ((at' (at' p0 a17.1) a28.1).1)]) rfl rfl rfl rfl rfl rfl<|dtN<|aO<|sqR<|qkMove rfl<|qkLdA 0 rfl ?_
     refine aB (IN 2 ((a17.1,((at' (at' p0 a17.1) a28.1).1))) (u:=Value.int .i64 (Option.getD (kS (a17.1,((at' (at' p0 a17.1) a28.1).1)) a28.2) (0:Int))) HJ rfl rfl rfl rfl rfl (by cases kS ((a17.1,((at' (at' p0 a17.1) a28.1).1))) a28.2<;>rfl)) rfl ?_
     refine qkMove rfl<|aB (bJ rfl rfl) rfl<|aB (bJ rfl rfl) rfl<|qkAsg rfl<|qkAsg rfl<|dtN<|sqR<|qkMove rfl<|dtN ?_
     refine zN h rfl (fun _ h=>?_) fun _ h=>?_
     ·refine sqR<|qkAsg rfl<|dtN<|aX<|aM<|bP<|aM<|aM<|bP<|bP<|aM<|aM<|bP<|aM ?_
      cases h
      exact u_ rfl
     refine aW<|aI<|aS<|qkMove rfl<|qkLdA 0 rfl<|qkFld rfl<|qkLd 1 rfl<|Im 2 ((a17.1,((at' (at' p0 a17.1) a28.1).1))) ((at' (at' p0 a17.1) a28.1).2) HJ rfl rfl rfl rfl rfl<|eD<|bV<|aI<|aS<|qkAdd rfl<|qkMove rfl<|dtN ?_
     exact nC ((wI .i64 (a28.1+(1:Int))),(yY (a17.1,((at' (at' p0 a17.1) a28.1).1)) ((at' (at' p0 a17.1) a28.1).2) a28.2)) (()) h SF (aP.ix [2] rfl rfl) (aA.refl _ _)
    refine cE<|aY<|aY<|dJ<|bV<|aI ?_
    exact jA (a28.2) (()) h SF rfl
   clear h
   intro a22 b23 h
   unfold kX at h
   refine aS<|qkAdd rfl<|qkMove rfl<|dtN ?_
   exact xG ((wI .i64 (a17.1+(1:Int))),a22) (()) h SF rfl
  refine cE<|aY<|aY<|dJ<|aI ?_
  exact jA (a17.2) (()) h SF rfl
 clear h
 intro a3 b4 h
 unfold gN at h
 refine aO<|sqR<|qkMove rfl<|aL (aQ.range 0 rfl rfl rfl) rfl fun b5=>dtN<|aU<|Rj [(3,Value.map (some b1)),(69,Value.pointer (some ⟨b5,0,none⟩))] [It b5 b1 (List.length a3) ([]),Mp lE JW b1 a3] [S2 aK v0 z1 p0] SF (aP.refl _) (aA.refl _ _) ?_
 refine MV (oE a3) 1 0 (by intro a b x;unfold oE;repeat' split;all_goals first|rfl|contradiction|simp_all) h rfl rfl rfl rfl rfl rfl ?_ ?_
 ·clear h
  intro kv6 i7 se8 xa9 hkv10 h
  unfold oE at h
  refine aU<|sqR<|aL (aQ.entry 1 0 hkv10 rfl rfl rfl) rfl fun x11=>aB (bJ rfl rfl) rfl<|aB (bJ rfl rfl) rfl<|aL (aQ.alloc (cs:=[Value.int .i64 (0:Int),Value.int .i64 (0:Int)]) rfl rfl) rfl fun b12=>bM 0 (vs:=[Value.int .i64 (kv6.1.1),Value.int .i64 (kv6.1.2)]) rfl rfl rfl rfl rfl rfl<|qkAsg rfl<|dtN<|sqR<|qkMove rfl ?_
  refine aB (mF (i:=1) rfl rfl rfl rfl rfl (by decide)) rfl ?_
  refine qkLd 0 rfl ?_
  refine aB (mF (i:=0) rfl rfl rfl rfl rfl (by decide)) rfl ?_
  refine qkLd 0 rfl ?_
  refine aB (By (r:=Value.agg #[Value.int .i64 (kv6.1.2),Value.int .i64 (kv6.1.1)]) rfl rfl (by intro w;simp[Instr.build,Instr.fill,eK,dN,c_,eL,eM,dO,fQ])) rfl ?_
  refine aB (IN 2 ((kv6.1.2,kv6.1.1)) (u:=Value.int .i64 (Option.getD (kS (kv6.1.2,kv6.1.1) a3) (0:Int))) HJ rfl rfl rfl rfl rfl (by cases kS ((kv6.1.2,kv6.1.1)) a3<;>rfl)) rfl ?_
  refine qkMove rfl<|aB (mM rfl rfl) rfl<|dtN ?_
  refine eR h rfl (fun _ h=>?_) fun _ h=>?_
  ·refine sqR<|qkAsg rfl<|dtN<|aX<|bP<|aM<|bP<|aM ?_
   cases h
   exact u_ rfl
  refine aW<|bV<|aI ?_
  exact Km h SF (aP.ix [1,2] rfl rfl) (aA.refl _ _)
 clear h
 intro se8 h
 refine dJ<|aI<|sqR<|qkAsg rfl<|dtN<|aX ?_
 cases h
 exact u_ rfl
end Go.Proofs.YtigggfnchamobaaGreatDoor
end
section
namespace Go.Proofs.YtigggfnchamobaaGreatDoor
open Go.Sx
def nQ  (a7:Bool):Option (Bool):=
 some (a7)
def kW (fuel:Nat) (p0:List (Int)×(List (List (Int×Int)))) (a3:Bool):Option (Bool):=
 if a3=true then(some (false))else(Option.bind (gZ fuel p0.1) fun r9=>(if r9=true then(Option.bind (fD fuel p0.2) fun r13=>(nQ  (r13)))else(nQ  (false))))
def eV (fuel:Nat) (p0:List (Int)×(List (List (Int×Int)))):Option (Bool):=
 if(List.length p0.1:Int)<(1:Int)then(kW fuel p0 (true))else(if(24:Int)<(List.length p0.1:Int)then(kW fuel p0 (true))else(kW fuel p0 (decide ((List.length p0.2:Int)≠(List.length p0.1:Int)))))
theorem Hs:aV Tryz.prog 40:=Tryz.call40
theorem uR (fuel:Nat) {p0:List (Int)×(List (List (Int×Int)))} (v0:Value)  (v1:Value)  (z2:List (Value×List (Int×Int))) (r:Bool) (h:eV fuel p0=some r):
  bA Tryz.prog 40 #[Value.agg #[v0,v1]] [Sl aR v0 p0.1,S2 aK v1 z2 p0.2] (fun x:Unit=>Value.bool (r)) (fun x l=>l) (fun _ l=>l):=by
 refine bA.of (vs:=[Value.agg #[v0,v1]]) Tryz.func40 rfl Tryz.ntmps40 rfl fun c=>?_
 unfold eV at h
 refine sqR<|aL (aQ.box (cs:=[v0,v1]) rfl rfl) rfl fun b1=>qkAsg rfl<|dtN<|sqR<|qkFld rfl<|qkLd 0 rfl<|aB (cB rfl (aC.fact 0 rfl) rfl) rfl<|qkAsg rfl<|dtN<|aO<|aO<|bL (A:=Bool) (B:=Unit) (fun a3=>kW fuel p0 a3=some r) (fun a3 b4=>[(1,Value.pointer (some ⟨b1,0,none⟩)),(19,Value.bool (a3))]) (fun a3 b4=>[bR b1 [v0,v1] 28]) (fun a3 b4=>[Sl aR v0 p0.1,S2 aK v1 z2 p0.2]) ?_ ?_
 ·refine aS<|qkMove rfl<|qkLss rfl<|qkMove rfl ?_
  refine Bg h rfl (fun _ h=>?_) fun _ h=>?_
  ·refine gdSkip rfl<|gdSkip rfl<|aB (cI rfl rfl) rfl<|qkMove rfl<|gdSkip rfl<|gdSkip rfl<|gdSkip rfl<|gdSkip rfl<|gdSkip rfl<|aB (cI rfl rfl) rfl<|dtN ?_
   exact jA (true) (()) h SF rfl
  refine gyMove rfl<|a_ rfl (tC rfl rfl) rfl<|aB (cX rfl rfl) rfl<|qkMove rfl ?_
  refine Bg h rfl (fun _ h=>?_) fun _ h=>?_
  ·refine gdSkip rfl<|gdSkip rfl<|gdSkip rfl<|gdSkip rfl<|gdSkip rfl<|aB (cI rfl rfl) rfl<|dtN ?_
   exact jA (true) (()) h SF rfl
  refine a_ rfl (eF rfl rfl rfl rfl rfl) rfl<|a_ rfl (eJ 0 rfl rfl rfl rfl rfl) rfl<|a_ rfl (jX rfl (aC.fact 1 rfl) rfl) rfl<|gyMove rfl<|a_ rfl (mM rfl rfl) rfl<|aB (cX rfl rfl) rfl<|dtN ?_
  exact jA (decide ((List.length p0.2:Int)≠(List.length p0.1:Int))) (()) h SF rfl
 clear h
 intro a3 b4 h
 unfold kW at h
 refine zN h rfl (fun _ h=>?_) fun _ h=>?_
 ·refine sqR<|qkAsg rfl<|dtN<|aX<|aM ?_
  cases h
  exact u_ rfl
 refine aW<|aI<|aO<|bL (A:=Bool) (B:=Unit) (fun a7=>nQ  a7=some r) (fun a7 b8=>[(2,Value.bool (a7))]) (fun a7 b8=>[]) (fun a7 b8=>[Sl aR v0 p0.1,S2 aK v1 z2 p0.2]) ?_ ?_
 ·refine aS<|qkFld rfl<|qkLd 0 rfl ?_
  have⟨r9,hr10,h⟩:=fJ h
  refine aL (aJ Uv (Av fuel v0 r9 hr10) rfl (aA.cons (aC.fact 0 rfl) .nil) (fun _ _=>rfl)) rfl fun x11=>qkMove rfl ?_
  refine BT (by exact rfl) (by exact rfl) (fun hp12=>?_) (fun hp12=>?_)
  ·have h:=Q_ hp12 h
   refine a_ rfl (eF rfl rfl rfl rfl rfl) rfl<|a_ rfl (eJ 0 rfl rfl rfl rfl rfl) rfl ?_
   have⟨r13,hr14,h⟩:=fJ h
   refine rM rfl (aJ Uw (CJ fuel v1 z2 r13 hr14) rfl (aA.cons (aC.fact 1 rfl) .nil) (fun _ _=>rfl)) rfl fun x15=>aB (cI rfl rfl) rfl<|qkAsg rfl<|dtN ?_
   exact cM (r13) (()) h SF .nil (aA.refl _ _)
  have h:=PO hp12 h
  refine gdSkip rfl<|gdSkip rfl<|gdSkip rfl<|aB (cX rfl rfl) rfl<|qkAsg rfl<|dtN ?_
  exact cM (false) (()) h SF .nil (aA.refl _ _)
 clear h
 intro a7 b8 h
 unfold nQ at h
 refine aX ?_
 cases h
 exact lN rfl
end Go.Proofs.YtigggfnchamobaaGreatDoor
end
section
namespace Go.Proofs.YtigggfnchamobaaGreatDoor
open Go.Sx
def pA  (a4:Int):Option (Int):=
 some (a4)
def eS (fuel:Nat) (p0:Int) (p1:Int):Option (Int):=
 if p1<(1:Int)then(some (0:Int))else(ck (p1≠0) (if(Int.tmod p0 p1)<(0:Int)then(pA  (wI .i64 ((Int.tmod p0 p1)+p1)))else(pA  (Int.tmod p0 p1))))
theorem Ad:aV Tryz.prog 29:=Tryz.call29
theorem jN (fuel:Nat) {p0:Int} {p1:Int} (r:Int) (h:eS fuel p0 p1=some r):
  bA Tryz.prog 29 #[Value.int .i64 (p0),Value.int .i64 (p1)] [] (fun x:Unit=>Value.int .i64 (r)) (fun x l=>l) (fun _ l=>l):=by
 refine bA.of (vs:=[Value.int .i64 (p0),Value.int .i64 (p1)]) Tryz.func29 rfl Tryz.ntmps29 rfl fun c=>?_
 unfold eS at h
 refine sqR<|qkAsg rfl<|dtN<|aO<|sqR<|qkMove rfl<|qkLss rfl<|dtN ?_
 refine eR h rfl (fun _ h=>?_) fun _ h=>?_
 ·refine sqR<|qkAsg rfl<|dtN<|aX<|aM ?_
  cases h
  exact lN rfl
 refine aW<|aI<|sqR<|qkMove rfl<|qkMove rfl ?_
 have⟨hc2,h⟩:=aN h
 refine aB (IQ rfl rfl hc2) rfl<|qkAsg rfl<|dtN<|aO<|bL (A:=Int) (B:=Unit) (fun a4=>pA  a4=some r) (fun a4 b5=>[(0,Value.int .i64 (a4))]) (fun a4 b5=>[]) (fun a4 b5=>[]) ?_ ?_
 ·refine sqR<|qkMove rfl<|qkLss rfl<|dtN ?_
  refine eR h rfl (fun _ h=>?_) fun _ h=>?_
  ·refine aS<|qkMove rfl<|qkMove rfl<|qkAdd rfl<|qkAsg rfl<|dtN ?_
   exact jA (wI .i64 ((Int.tmod p0 p1)+p1)) (()) h SF rfl
  refine aW<|aI ?_
  exact jA (Int.tmod p0 p1) (()) h SF rfl
 clear h
 intro a4 b5 h
 unfold pA at h
 refine sqR<|qkMove rfl<|qkAsg rfl<|dtN<|aX ?_
 cases h
 exact lN rfl
end Go.Proofs.YtigggfnchamobaaGreatDoor
end
section
namespace Go.Proofs.YtigggfnchamobaaGreatDoor
open Go.Sx
def oH (fuel:Nat) (p0:List (Int)) (p1:Int):Option (Int):=
 if p1<(List.length p0:Int)then(ck (0<=p1∧p1<(List.length p0:Int)) (some (at' p0 p1)))else(some (0:Int))
theorem EH:aV Tryz.prog 30:=Tryz.call30
theorem wR (fuel:Nat) {p0:List (Int)} {p1:Int} (v0:Value) (r:Int) (h:oH fuel p0 p1=some r):
  bA Tryz.prog 30 #[v0,Value.int .i64 (p1)] [Sl aR v0 p0] (fun x:Unit=>Value.int .i64 (r)) (fun x l=>l) (fun _ l=>l):=by
 refine bA.of (vs:=[v0,Value.int .i64 (p1)]) Tryz.func30 rfl Tryz.ntmps30 rfl fun c=>?_
 unfold oH at h
 refine sqR<|qkAsg rfl<|dtN<|aO<|sqR<|qkMove rfl<|qkMove rfl<|aB (cB rfl (aC.fact 0 rfl) rfl) rfl<|qkLss rfl<|dtN ?_
 refine eR h rfl (fun _ h=>?_) fun _ h=>?_
 ·refine sqR<|qkMove rfl<|qkMove rfl ?_
  have⟨hc2,h⟩:=aN h
  refine aB (bE rfl rfl (aC.fact 0 rfl) rfl rfl hc2) rfl<|aB (bZ rfl (aC.fact 0 rfl) rfl rfl rfl dU hc2) rfl<|qkAsg rfl<|dtN<|aX<|aM ?_
  cases h
  exact lN rfl
 refine aW<|aI<|sqR<|qkAsg rfl<|dtN<|aX ?_
 cases h
 exact lN rfl
end Go.Proofs.YtigggfnchamobaaGreatDoor
end
section
namespace Go.Proofs.YtigggfnchamobaaGreatDoor
open Go.Sx
def lU (r3:Int) (a13:List (Int)):Option ((List (Int)×(List (List (Int×Int))))):=
 some ((a13,(List.replicate (Int.toNat (wI .i64 ((1:Int)+r3))) ([]:List (Int×Int)))))
def lV (a21:Int×List (Int)) (ag20:(Int×List (Int))->Option ((List (Int)×(List (List (Int×Int)))))) (a32:Int):Option ((List (Int)×(List (List (Int×Int))))):=
 ck ((List.length a21.2:Int)+(List.length ([a32]):Int)<=1099511627) (ag20 ((wI .i64 (a21.1+(1:Int))),(a21.2++[a32])))
def jH (ag40:(Int×Int)->Option ((List (Int)×(List (List (Int×Int)))))) (a47:Int×Int):Option ((List (Int)×(List (List (Int×Int))))):=
 ag40 (a47.1,(wI .i64 (a47.2+(1:Int))))
def gR (a21:Int×List (Int)) (ag20:(Int×List (Int))->Option ((List (Int)×(List (List (Int×Int)))))) (a41:Int×Int) (ag40:(Int×Int)->Option ((List (Int)×(List (List (Int×Int)))))):Option ((List (Int)×(List (List (Int×Int))))):=
 if a41.2<a21.1 then(ck (0<=a41.2∧a41.2<(List.length a21.2:Int)) (if(at' a21.2 a41.2)=a41.1 then(ck ((256:Int)≠0) (jH ag40 ((Int.tmod (wI .i64 (a41.1+(1:Int))) (256:Int)),(-1:Int))))else(jH ag40 (a41.1,a41.2))))else(lV a21 ag20 (a41.1))
def fI (fuel:Nat) (p0:Int×List (Int)×List (Int)×List (Int)×Bool×Bool) (r3:Int) (a21:Int×List (Int)) (ag20:(Int×List (Int))->Option ((List (Int)×(List (List (Int×Int)))))):Option ((List (Int)×(List (List (Int×Int))))):=
 if a21.1<(wI .i64 ((1:Int)+r3))then(Option.bind (oH fuel p0.2.2.2.1 a21.1) fun r25=>(Option.bind (eS fuel r25 (256:Int)) fun r28=>(bK (gR a21 ag20) fuel (r28,(0:Int)))))else(lU r3 (a21.2))
def iG (fuel:Nat) (p0:Int×List (Int)×List (Int)×List (Int)×Bool×Bool) (p1:Int):Option ((List (Int)×(List (List (Int×Int))))):=
 Option.bind (eS fuel (wI .i64 (p0.1 - (1:Int))) p1) fun r3=>(ck (0<=(wI .i64 ((1:Int)+r3))∧(wI .i64 ((1:Int)+r3))<=1099511627) (bK (fI fuel p0 r3) fuel ((0:Int),([]:List Int))))
theorem OW:aV Tryz.prog 39:=Tryz.call39
theorem vL (fuel:Nat) {p0:Int×List (Int)×List (Int)×List (Int)×Bool×Bool} {p1:Int} (v0:Value)  (v1:Value)  (v2:Value) (r:(List (Int)×(List (List (Int×Int))))) (h:iG fuel p0 p1=some r):
  bA Tryz.prog 39 #[Value.agg #[Value.int .i64 (p0.1),v0,v1,v2,Value.bool (p0.2.2.2.2.1),Value.bool (p0.2.2.2.2.2)],Value.int .i64 (p1)] [Sl aR v0 p0.2.1,Sl aR v1 p0.2.2.1,Sl aR v2 p0.2.2.2.1] (fun x:Value×Value×List Value=>Value.agg #[x.1,x.2.1]) (fun x l=>Ar cA x.1 r.1::Ar dK.raw x.2.1 x.2.2::jP bU x.2.2 r.2::l) (fun _ l=>l):=by
 refine bA.of (vs:=[Value.agg #[Value.int .i64 (p0.1),v0,v1,v2,Value.bool (p0.2.2.2.2.1),Value.bool (p0.2.2.2.2.2)],Value.int .i64 (p1)]) Tryz.func39 rfl Tryz.ntmps39 rfl fun c=>?_
 unfold iG at h
 refine sqR<|aL (aQ.box (cs:=[Value.int .i64 (p0.1),v0,v1,v2,Value.bool (p0.2.2.2.2.1),Value.bool (p0.2.2.2.2.2)]) rfl rfl) rfl fun b1=>aL (aQ.alloc (cs:=[Value.slice none 0 0,Value.slice none 0 0]) rfl rfl) rfl fun b2=>dtN<|sqR<|qkFld rfl<|qkLd 1 rfl<|aB (pV rfl rfl) rfl<|qkMove rfl ?_
 have⟨r3,hr4,h⟩:=fJ h
 refine aL (aJ Ad (jN fuel  r3 hr4) rfl .nil (fun _ _=>rfl)) rfl fun x5=>qkAdd rfl<|qkAsg rfl<|dtN<|sqR<|qkMove rfl ?_
 have⟨hc6,h⟩:=aN h
 refine jR (uT bU (Int.toNat (wI .i64 ((1:Int)+r3))))<|aL (nZ (e:=dK.raw) (Value.slice none 0 0) rfl rfl rfl rfl hc6 rfl rfl rfl) rfl fun u7=>b_ (Know.one (aC.sl (bH (i:=0) (j:=1) rfl rfl bO))) fun ho8=>?_
 refine aB (OA (r:=Value.agg #[Value.slice none 0 0,u7]) rfl (by intro w;simp[Instr.build,Instr.fill,eK,dN,c_,eL,eM,dO,fQ,jB ho8])) rfl ?_
 refine aL (aQ.alloc (cs:=[Value.slice none 0 0,Value.slice none 0 0]) rfl rfl) rfl fun b9=>b_ (Know.one (aC.sl (bH (i:=1) (j:=2) rfl rfl bO))) fun ho10=>bM 0 (vs:=[Value.slice none 0 0,u7]) rfl rfl (cQ rfl (cQ ho10 rfl)) rfl rfl rfl<|dtN<|aO<|bL (A:=List (Int)) (B:=Value) (fun a13=>lU r3 a13=some r) (fun a13 b14=>[(4,Value.pointer (some ⟨b2,0,none⟩)),(6,Value.pointer (some ⟨b9,0,none⟩))]) (fun a13 b14=>[bR b9 [b14,u7] 28,Ar dK.raw u7 (List.replicate (Int.toNat (wI .i64 ((1:Int)+r3))) (Value.slice none 0 0)),jP bU (List.replicate (Int.toNat (wI .i64 ((1:Int)+r3))) (Value.slice none 0 0)) (List.replicate (Int.toNat (wI .i64 ((1:Int)+r3))) ([]:List (Int×Int))),bR b2 [Value.slice none 0 0,Value.slice none 0 0] 28,Ar cA b14 a13]) (fun a13 b14=>[Sl aR v0 p0.2.1,Sl aR v1 p0.2.2.1,Sl aR v2 p0.2.2.2.1]) ?_ ?_
 ·refine sqR<|qkAsg rfl<|dtN<|aU<|jR (iU cA)<|bY (A:=Int×List (Int)) (B:=Value) (fI fuel p0 r3) (fun a21 b22=>[(2,Value.pointer (some ⟨b1,0,none⟩)),(4,Value.pointer (some ⟨b2,0,none⟩)),(5,Value.int .i64 (wI .i64 ((1:Int)+r3))),(6,Value.pointer (some ⟨b9,0,none⟩)),(7,Value.int .i64 (a21.1))]) (fun a21 b22=>[bR b9 [b22,u7] 28,Ar dK.raw u7 (List.replicate (Int.toNat (wI .i64 ((1:Int)+r3))) (Value.slice none 0 0)),jP bU (List.replicate (Int.toNat (wI .i64 ((1:Int)+r3))) (Value.slice none 0 0)) (List.replicate (Int.toNat (wI .i64 ((1:Int)+r3))) ([]:List (Int×Int))),bR b2 [Value.slice none 0 0,Value.slice none 0 0] 28,bR b1 [Value.int .i64 (p0.1),v0,v1,v2,Value.bool (p0.2.2.2.2.1),Value.bool (p0.2.2.2.2.2)] 24,Ar cA b22 a21.2]) (fun a21 b22=>[Sl aR v0 p0.2.1,Sl aR v1 p0.2.2.1,Sl aR v2 p0.2.2.2.1]) ((0:Int),([]:List Int)) (Value.slice none 0 0) h SF (aP.ix [1,2,3,4,5,0] rfl rfl) (aA.refl _ _) ?_
  clear h
  intro k23 a21 b22 h
  unfold fI at h
  refine aO<|sqR<|qkMove rfl<|qkMove rfl<|qkLss rfl<|dtN ?_
  refine eR h rfl (fun _ h=>?_) fun _ h=>?_
  ·refine aW<|aI<|aO<|aU<|sqR<|qkFld rfl<|qkLd 4 rfl<|qkMove rfl ?_
   have⟨r25,hr26,h⟩:=fJ h
   refine aL (aJ EH (wR fuel v2 r25 hr26) rfl (aA.cons (aC.fact 2 rfl) .nil) (fun _ _=>rfl)) rfl fun x27=>?_
   have⟨r28,hr29,h⟩:=fJ h
   refine aL (aJ Ad (jN fuel  r28 hr29) rfl .nil (fun _ _=>rfl)) rfl fun x30=>qkAsg rfl<|dtN<|aO<|bL (A:=Int) (B:=Unit) (fun a32=>lV a21 (bK (fI fuel p0 r3) k23) a32=some r) (fun a32 b33=>[(2,Value.pointer (some ⟨b1,0,none⟩)),(4,Value.pointer (some ⟨b2,0,none⟩)),(5,Value.int .i64 (wI .i64 ((1:Int)+r3))),(6,Value.pointer (some ⟨b9,0,none⟩)),(7,Value.int .i64 (a21.1)),(8,Value.int .i64 (a32))]) (fun a32 b33=>[bR b9 [b22,u7] 28,Ar dK.raw u7 (List.replicate (Int.toNat (wI .i64 ((1:Int)+r3))) (Value.slice none 0 0)),jP bU (List.replicate (Int.toNat (wI .i64 ((1:Int)+r3))) (Value.slice none 0 0)) (List.replicate (Int.toNat (wI .i64 ((1:Int)+r3))) ([]:List (Int×Int))),bR b2 [Value.slice none 0 0,Value.slice none 0 0] 28,bR b1 [Value.int .i64 (p0.1),v0,v1,v2,Value.bool (p0.2.2.2.2.1),Value.bool (p0.2.2.2.2.2)] 24,Ar cA b22 a21.2]) (fun a32 b33=>[Sl aR v0 p0.2.1,Sl aR v1 p0.2.2.1,Sl aR v2 p0.2.2.2.1]) ?_ ?_
   ·refine sqR<|qkAsg rfl<|dtN<|aU<|bY (A:=Int×Int) (B:=Unit) (gR a21 (bK (fI fuel p0 r3) k23)) (fun a41 b42=>[(2,Value.pointer (some ⟨b1,0,none⟩)),(4,Value.pointer (some ⟨b2,0,none⟩)),(5,Value.int .i64 (wI .i64 ((1:Int)+r3))),(6,Value.pointer (some ⟨b9,0,none⟩)),(7,Value.int .i64 (a21.1)),(8,Value.int .i64 (a41.1)),(9,Value.int .i64 (a41.2))]) (fun a41 b42=>[bR b9 [b22,u7] 28,Ar dK.raw u7 (List.replicate (Int.toNat (wI .i64 ((1:Int)+r3))) (Value.slice none 0 0)),jP bU (List.replicate (Int.toNat (wI .i64 ((1:Int)+r3))) (Value.slice none 0 0)) (List.replicate (Int.toNat (wI .i64 ((1:Int)+r3))) ([]:List (Int×Int))),bR b2 [Value.slice none 0 0,Value.slice none 0 0] 28,bR b1 [Value.int .i64 (p0.1),v0,v1,v2,Value.bool (p0.2.2.2.2.1),Value.bool (p0.2.2.2.2.2)] 24,Ar cA b22 a21.2]) (fun a41 b42=>[Sl aR v0 p0.2.1,Sl aR v1 p0.2.2.1,Sl aR v2 p0.2.2.2.1]) (r28,(0:Int)) (()) h SF (aP.refl _) (aA.refl _ _) ?_
    clear h
    intro k43 a41 b42 h
    unfold gR at h
    refine aO<|sqR<|qkMove rfl<|qkMove rfl<|qkLss rfl<|dtN ?_
    refine eR h rfl (fun _ h=>?_) fun _ h=>?_
    ·refine aW<|aI<|aO<|bL (A:=Int×Int) (B:=Unit) (fun a47=>jH (bK (gR a21 (bK (fI fuel p0 r3) k23)) k43) a47=some r) (fun a47 b48=>[(2,Value.pointer (some ⟨b1,0,none⟩)),(4,Value.pointer (some ⟨b2,0,none⟩)),(5,Value.int .i64 (wI .i64 ((1:Int)+r3))),(6,Value.pointer (some ⟨b9,0,none⟩)),(7,Value.int .i64 (a21.1)),(8,Value.int .i64 (a47.1)),(9,Value.int .i64 (a47.2))]) (fun a47 b48=>[bR b9 [b22,u7] 28,Ar dK.raw u7 (List.replicate (Int.toNat (wI .i64 ((1:Int)+r3))) (Value.slice none 0 0)),jP bU (List.replicate (Int.toNat (wI .i64 ((1:Int)+r3))) (Value.slice none 0 0)) (List.replicate (Int.toNat (wI .i64 ((1:Int)+r3))) ([]:List (Int×Int))),bR b2 [Value.slice none 0 0,Value.slice none 0 0] 28,bR b1 [Value.int .i64 (p0.1),v0,v1,v2,Value.bool (p0.2.2.2.2.1),Value.bool (p0.2.2.2.2.2)] 24,Ar cA b22 a21.2]) (fun a47 b48=>[Sl aR v0 p0.2.1,Sl aR v1 p0.2.2.1,Sl aR v2 p0.2.2.2.1]) ?_ ?_
     ·refine aU<|sqR<|qkFld rfl<|qkLd 0 rfl<|qkMove rfl ?_
      have⟨hc49,h⟩:=aN h
      refine aB (bE rfl rfl (aZ (aC.res 5 rfl) cR) rfl rfl hc49) rfl<|aB (bZ rfl (aZ (aC.res 5 rfl) cR) rfl rfl rfl dU hc49) rfl<|qkMove rfl<|qkEql rfl<|dtN ?_
      refine eR h rfl (fun _ h=>?_) fun _ h=>?_
      ·refine aS<|qkMove rfl<|qkAdd rfl ?_
       have⟨hc51,h⟩:=aN h
       refine aB (IQ rfl rfl hc51) rfl<|qkAsg rfl<|qkAsg rfl<|eD<|bV<|aI ?_
       exact jA ((Int.tmod (wI .i64 (a41.1+(1:Int))) (256:Int)),(-1:Int)) (()) h SF rfl
      refine aW<|bV<|aI ?_
      exact jA (a41.1,a41.2) (()) h SF rfl
     clear h
     intro a47 b48 h
     unfold jH at h
     refine aS<|qkMove rfl<|qkAdd rfl<|qkAsg rfl<|dtN ?_
     exact xG (a47.1,(wI .i64 (a47.2+(1:Int)))) (()) h SF rfl
    refine cE<|aY<|aY<|dJ<|aI ?_
    exact jA (a41.1) (()) h SF rfl
   clear h
   intro a32 b33 h
   unfold lV at h
   refine aS<|qkFld rfl<|qkLd 0 rfl<|qkMove rfl<|aL (cJ (e:=cA) ([a32]) [(0,Value.int .i64 (a32))] rfl rfl rfl rfl (nP (Value.int .i64 (a32)) rfl) rfl rfl rfl) rfl fun u34=>?_
   have⟨hc36,h⟩:=aN h
   refine aL (gH 6 cR rfl rfl rfl (aZ (aC.res 0 rfl) cR) rfl rfl rfl rfl hc36 rfl) rfl fun u35=>qkFld rfl<|b_ (Know.one ((aZ (aC.res 6 rfl) cR))) fun ho37=>fH 1 rfl rfl ho37 rfl rfl rfl<|eD<|bV<|aI<|aS<|qkMove rfl<|qkAdd rfl<|qkAsg rfl<|dtN ?_
   exact nC ((wI .i64 (a21.1+(1:Int))),(a21.2++[a32])) (u35) h SF (aP.ix [1,2,3,4,5,6] rfl rfl) (aA.refl _ _)
  refine cE<|aY<|aY<|dJ<|aI ?_
  exact cM (a21.2) (b22) h SF (aP.ix [0,1,2,3,5] rfl rfl) (aA.refl _ _)
 clear h
 intro a13 b14 h
 unfold lU at h
 refine sqR<|qkLdA 0 rfl<|b_ (Know.one ((aZ (aC.res 4 rfl) cR))) fun ho15=>b_ (Know.one (aC.sl (bH (i:=1) (j:=2) rfl rfl bO))) fun ho16=>bM 3 (vs:=[b14,u7]) rfl rfl (cQ ho15 (cQ ho16 rfl)) rfl rfl rfl<|dtN<|aX ?_
 cases h
 exact fO (b14,u7,(List.replicate (Int.toNat (wI .i64 ((1:Int)+r3))) (Value.slice none 0 0))) rfl rfl (RV.cell 3 rfl rfl rfl rfl) (aP.ix [4,1,2] rfl rfl) aA.nil
end Go.Proofs.YtigggfnchamobaaGreatDoor
end
section
namespace Go.Proofs.YtigggfnchamobaaGreatDoor
open Go.Sx
def sB  (a2:Unit):Option (Bool):=
 some (false)
def sC (p0:List (Int)×(List (List (Int×Int)))) (p1:Int) (p2:Int) (a6:Int) (ag5:(Int)->Option (Bool)):Option (Bool):=
 ck (0<=p1∧p1<(List.length p0.2:Int)) (if a6<(List.length (at' p0.2 p1):Int)then(ck (0<=p1∧p1<(List.length p0.2:Int)) (ck (0<=a6∧a6<(List.length (at' p0.2 p1):Int)) (if((at' (at' p0.2 p1) a6).1)=p2 then(some (true))else(ag5 (wI .i64 (a6+(1:Int)))))))else(sB  (())))
def lD (fuel:Nat) (p0:List (Int)×(List (List (Int×Int)))) (p1:Int) (p2:Int):Option (Bool):=
 bK (sC p0 p1 p2) fuel (0:Int)
theorem Ux:aV Tryz.prog 60:=Tryz.call60
theorem FC (fuel:Nat) {p0:List (Int)×(List (List (Int×Int)))} {p1:Int} {p2:Int} (v0:Value)  (v1:Value)  (z2:List (Value×List (Int×Int))) (r:Bool) (h:lD fuel p0 p1 p2=some r):
  bA Tryz.prog 60 #[Value.agg #[v0,v1],Value.int .i64 (p1),Value.int .i64 (p2)] [Sl aR v0 p0.1,S2 aK v1 z2 p0.2] (fun x:Unit=>Value.bool (r)) (fun x l=>l) (fun _ l=>l):=by
 refine bA.of (vs:=[Value.agg #[v0,v1],Value.int .i64 (p1),Value.int .i64 (p2)]) Tryz.func60 rfl Tryz.ntmps60 rfl fun c=>?_
 unfold lD at h
 refine sqR<|aL (aQ.box (cs:=[v0,v1]) rfl rfl) rfl fun b1=>qkAsg rfl<|dtN<|aO<|bL (A:=Unit) (B:=Unit) (fun a2=>sB  a2=some r) (fun a2 b3=>[]) (fun a2 b3=>[]) (fun a2 b3=>[Sl aR v0 p0.1,S2 aK v1 z2 p0.2]) ?_ ?_
 ·refine sqR<|qkAsg rfl<|dtN<|aU<|bY (A:=Int) (B:=Unit) (sC p0 p1 p2) (fun a6 b7=>[(1,Value.int .i64 (p1)),(2,Value.int .i64 (p2)),(3,Value.pointer (some ⟨b1,0,none⟩)),(7,Value.int .i64 (a6))]) (fun a6 b7=>[bR b1 [v0,v1] 28]) (fun a6 b7=>[Sl aR v0 p0.1,S2 aK v1 z2 p0.2]) (0:Int) (()) h SF (aP.refl _) (aA.refl _ _) ?_
  clear h
  intro k8 a6 b7 h
  unfold sC at h
  refine aO<|sqR<|qkMove rfl<|qkFld rfl<|qkLd 0 rfl<|qkMove rfl ?_
  have⟨hc9,h⟩:=aN h
  refine aB (cS rfl rfl (aC.fact 1 rfl) rfl rfl hc9) rfl<|aB (cT rfl (aC.fact 1 rfl) rfl rfl hc9) rfl<|aB (cB rfl (aC.el (aC.fact 1 rfl) hc9.1 hc9.2) rfl) rfl<|qkLss rfl<|dtN ?_
  refine eR h rfl (fun _ h=>?_) fun _ h=>?_
  ·refine aW<|aI<|aO<|aU<|sqR<|qkFld rfl<|qkLd 0 rfl<|qkMove rfl ?_
   have⟨hc11,h⟩:=aN h
   refine aB (cS rfl rfl (aC.fact 1 rfl) rfl rfl hc11) rfl<|aB (cT rfl (aC.fact 1 rfl) rfl rfl hc11) rfl<|qkMove rfl ?_
   have⟨hc12,h⟩:=aN h
   refine aB (bE rfl rfl (aC.el (aC.fact 1 rfl) hc11.1 hc11.2) rfl rfl hc12) rfl<|aB (nE rfl rfl rfl rfl rfl) rfl<|aB (pI rfl (aC.el (aC.fact 1 rfl) hc11.1 hc11.2) rfl rfl rfl yK hc12) rfl<|qkMove rfl<|qkEql rfl<|dtN ?_
   refine eR h rfl (fun _ h=>?_) fun _ h=>?_
   ·refine sqR<|qkAsg rfl<|dtN<|aX<|bP<|aM<|aM<|bP<|aM ?_
    cases h
    exact u_ rfl
   refine aW<|bV<|aI<|aS<|qkMove rfl<|qkAdd rfl<|qkAsg rfl<|dtN ?_
   exact xG (wI .i64 (a6+(1:Int))) (()) h SF rfl
  refine cE<|aY<|aY<|dJ<|aI ?_
  exact cM (()) (()) h SF .nil (aA.refl _ _)
 clear h
 intro a2 b3 h
 unfold sB at h
 refine sqR<|qkAsg rfl<|dtN<|aX ?_
 cases h
 exact lN rfl
end Go.Proofs.YtigggfnchamobaaGreatDoor
end
section
namespace Go.Proofs.YtigggfnchamobaaGreatDoor
open Go.Sx
def kD (p0:Int×List (Int)×List (Int)×List (Int)×Bool×Bool) (p1:List (Int)×(List (List (Int×Int)))) (p2:Int) (p3:Int) (p4:Int) (a4:Bool):Option ((List (List (Int×Int)))):=
 if a4=true then(some (p1.2))else(if p0.2.2.2.2.2=true then(ck (0<=p2∧p2<(List.length p1.2:Int)) (ck ((List.length ([(p3,p4)]):Int)+(List.length (at' p1.2 p2):Int)<=1099511627) (ck (0<=p2∧p2<(List.length p1.2:Int)) (ck (0<=p3∧p3<(List.length (List.set p1.2 (Int.toNat p2) (([(p3,p4)])++(at' p1.2 p2))):Int)) (ck ((List.length ([(p2,p4)]):Int)+(List.length (at' (List.set p1.2 (Int.toNat p2) (([(p3,p4)])++(at' p1.2 p2))) p3):Int)<=1099511627) (ck (0<=p3∧p3<(List.length (List.set p1.2 (Int.toNat p2) (([(p3,p4)])++(at' p1.2 p2))):Int)) (some (List.set (List.set p1.2 (Int.toNat p2) (([(p3,p4)])++(at' p1.2 p2))) (Int.toNat p3) (([(p2,p4)])++(at' (List.set p1.2 (Int.toNat p2) (([(p3,p4)])++(at' p1.2 p2))) p3))))))))))else(ck (0<=p2∧p2<(List.length p1.2:Int)) (ck (0<=p3∧p3<(List.length p1.2:Int)) (ck ((List.length (at' p1.2 p2):Int)+(List.length ([(p3,p4)]):Int)<=1099511627) (ck ((List.length (at' p1.2 p3):Int)+(List.length ([(p2,p4)]):Int)<=1099511627) (ck (Int.toNat p2≠Int.toNat p3) (ck (0<=p2∧p2<(List.length (List.set (List.set p1.2 (Int.toNat p2) ((at' p1.2 p2)++([(p3,p4)]))) (Int.toNat p3) ((at' p1.2 p3)++([(p2,p4)]))):Int)) (ck (0<=p3∧p3<(List.length (List.set (List.set p1.2 (Int.toNat p2) ((at' p1.2 p2)++([(p3,p4)]))) (Int.toNat p3) ((at' p1.2 p3)++([(p2,p4)]))):Int)) (some (List.set (List.set p1.2 (Int.toNat p2) ((at' p1.2 p2)++([(p3,p4)]))) (Int.toNat p3) ((at' p1.2 p3)++([(p2,p4)]))))))))))))
def iX (fuel:Nat) (p0:Int×List (Int)×List (Int)×List (Int)×Bool×Bool) (p1:List (Int)×(List (List (Int×Int)))) (p2:Int) (p3:Int) (p4:Int):Option ((List (List (Int×Int)))):=
 if p2=p3 then(kD p0 p1 p2 p3 p4 (true))else(Option.bind (lD fuel ((p1.1,p1.2)) p2 p3) fun r86=>(kD p0 p1 p2 p3 p4 (r86)))
theorem OX:aV Tryz.prog 44:=Tryz.call44
theorem wN (fuel:Nat) {p0:Int×List (Int)×List (Int)×List (Int)×Bool×Bool} {p1:List (Int)×(List (List (Int×Int)))} {p2:Int} {p3:Int} {p4:Int} (v0:Value)  (v1:Value)  (v2:Value)  (v3:Value)  (v4:Value)  (w5:List Value) (r:(List (List (Int×Int)))) (h:iX fuel p0 p1 p2 p3 p4=some r):
  Bu Tryz.prog 44 #[Value.agg #[Value.int .i64 (p0.1),v0,v1,v2,Value.bool (p0.2.2.2.2.1),Value.bool (p0.2.2.2.2.2)],Value.agg #[v3,v4],Value.int .i64 (p2),Value.int .i64 (p3),Value.int .i64 (p4)] [Ar dK.raw v4 w5,jP bU w5 p1.2] [Sl aR v0 p0.2.1,Sl aR v1 p0.2.2.1,Sl aR v2 p0.2.2.2.1,Sl aR v3 p1.1] (fun x:List Value=>Value.tuple #[]) (fun x l=>Ar dK.raw v4 x::jP bU x r::l):=by
 refine Bu.of (vs:=[Value.agg #[Value.int .i64 (p0.1),v0,v1,v2,Value.bool (p0.2.2.2.2.1),Value.bool (p0.2.2.2.2.2)],Value.agg #[v3,v4],Value.int .i64 (p2),Value.int .i64 (p3),Value.int .i64 (p4)]) Tryz.func44 rfl Tryz.ntmps44 rfl fun c=>?_
 unfold iX at h
 refine sqR<|aL (aQ.box (cs:=[Value.int .i64 (p0.1),v0,v1,v2,Value.bool (p0.2.2.2.2.1),Value.bool (p0.2.2.2.2.2)]) rfl rfl) rfl fun b1=>aL (aQ.box (cs:=[v3,v4]) rfl rfl) rfl fun b2=>dtN<|aO<|aO<|bL (A:=Bool) (B:=Unit) (fun a4=>kD p0 p1 p2 p3 p4 a4=some r) (fun a4 b5=>[(2,Value.int .i64 (p2)),(3,Value.int .i64 (p3)),(4,Value.int .i64 (p4)),(5,Value.pointer (some ⟨b1,0,none⟩)),(6,Value.pointer (some ⟨b2,0,none⟩)),(20,Value.bool (a4))]) (fun a4 b5=>[bR b2 [v3,v4] 28,bR b1 [Value.int .i64 (p0.1),v0,v1,v2,Value.bool (p0.2.2.2.2.1),Value.bool (p0.2.2.2.2.2)] 24,Ar dK.raw v4 w5,jP bU w5 p1.2]) (fun a4 b5=>[Sl aR v0 p0.2.1,Sl aR v1 p0.2.2.1,Sl aR v2 p0.2.2.2.1,Sl aR v3 p1.1]) ?_ ?_
 ·refine aS<|qkMove rfl<|qkMove rfl<|qkEql rfl<|qkMove rfl ?_
  refine Bg h rfl (fun _ h=>?_) fun _ h=>?_
  ·refine gdSkip rfl<|gdSkip rfl<|gdSkip rfl<|gdSkip rfl<|aB (cI rfl rfl) rfl<|dtN ?_
   exact jA (true) (()) h SF rfl
  refine a_ rfl (mG 0 rfl rfl rfl rfl) rfl<|gyMove rfl<|gyMove rfl ?_
  have⟨r86,hr87,h⟩:=fJ h
  refine rM rfl (aJ Ux (FC fuel v3 v4 (List.zip w5 p1.2) r86 hr87) rfl (aA.cons (aC.fact 3 rfl) (aA.cons (bH (i:=2) (j:=3) rfl rfl bO) .nil)) (fun _ _=>rfl)) rfl fun x88=>aB (cX rfl rfl) rfl<|dtN ?_
  exact jA (r86) (()) h SF rfl
 clear h
 intro a4 b5 h
 unfold kD at h
 refine zN h rfl (fun _ h=>?_) fun _ h=>?_
 ·refine aX<|aM ?_
  cases h
  exact AB (w5) rfl rfl .ret (.inl rfl) (aP.ix [2,3] rfl rfl) aA.nil
 refine aW<|aI<|sqR<|qkMove rfl<|qkMove rfl ?_
 refine aB (By (r:=Value.agg #[Value.int .i64 (p3),Value.int .i64 (p4)]) rfl rfl (by intro w;simp[Instr.build,Instr.fill,eK,dN,c_,eL,eM,dO,fQ])) rfl ?_
 refine qkMove rfl<|qkMove rfl ?_
 refine aB (By (r:=Value.agg #[Value.int .i64 (p2),Value.int .i64 (p4)]) rfl rfl (by intro w;simp[Instr.build,Instr.fill,eK,dN,c_,eL,eM,dO,fQ])) rfl ?_
 refine aL (aQ.alloc (cs:=[Value.int .i64 (0:Int),Value.int .i64 (0:Int)]) rfl rfl) rfl fun b7=>aL (aQ.alloc (cs:=[Value.int .i64 (0:Int),Value.int .i64 (0:Int)]) rfl rfl) rfl fun b8=>bM 1 (vs:=[Value.int .i64 (p3),Value.int .i64 (p4)]) rfl rfl rfl rfl rfl rfl<|bM 0 (vs:=[Value.int .i64 (p2),Value.int .i64 (p4)]) rfl rfl rfl rfl rfl rfl<|dtN<|aO<|sqR<|qkFld rfl<|qkLd 3 rfl<|dtN ?_
 refine zN h rfl (fun _ h=>?_) fun _ h=>?_
 ·refine aO ?_
  refine JR.start [0,1,0,0,8,0,32,0,224,480,1016,2047,4095] 11 mixedOrders (by decide +kernel) ?_
  refine JR.open (by exact rfl) ?_
  refine jkFld rfl<|jkLd 2 rfl<|jkMove rfl<|jkLdA 1 rfl<|JR.loud rfl rfl rfl (cJ (e:=bU) ([((p3,p4))]) [(0,Value.agg #[Value.int .i64 (p3),Value.int .i64 (p4)])] rfl rfl rfl rfl (uU (Value.int .i64 (p3)) (Value.int .i64 (p4))) rfl rfl rfl) rfl (fun u10=>(aE.b rfl (aE.h .nil .nil (aE.h (aP.ix [3] rfl rfl) .nil (aE.h .nil .nil aE.z))))) fun u10=>aT rfl .nil .nil (eF rfl rfl rfl rfl rfl) (aF.h .nil .nil aF.z)<|aT rfl (aP.cons 3 rfl .nil) .nil (eJ 0 rfl rfl rfl rfl rfl) (aF.h (aP.ix [2] rfl rfl) .nil aF.z)<|aT rfl .nil .nil (lP rfl) (aF.h .nil .nil aF.z) ?_
  have⟨hc11,h⟩:=aN h
  refine cH (cY 6 rfl) fun hl12=>?_
  refine aT rfl (aP.cons 5 rfl .nil) .nil (iO 0 rfl rfl rfl rfl rfl hc11.1 (by have q1:=hc11.2;have q2:=hl12;(try simp only[List.length_set]at q1);(try simp only[List.length_set]at q2);(try simp only[List.length_set]);omega)) (aF.h (aP.ix [4] rfl rfl) .nil aF.z) ?_
  refine cH (cY 6 rfl) fun hl13=>aT rfl (aP.cons 5 rfl .nil) .nil (nF 0 rfl rfl hl13 rfl rfl hc11) (aF.h (aP.ix [4] rfl rfl) .nil aF.z) ?_
  have⟨hc15,h⟩:=aN h
  refine JR.loud rfl rfl rfl (gH 0 bO rfl rfl rfl (aC.row (j:=6) rfl bO hc11.1 hc11.2) rfl rfl rfl rfl hc15 rfl) rfl (fun u14=>(aE.b rfl (aE.b rfl (aE.b rfl (aE.b rfl (aE.b rfl (aE.b rfl (aE.h .nil .nil (aE.h (aP.ix [3] rfl rfl) .nil (aE.h .nil .nil aE.z)))))))))) fun u14=>bS 11 rfl rfl ?_
  have⟨hc16,h⟩:=aN h
  refine aB (cS rfl rfl (bH (i:=5) (j:=6) rfl rfl bO) rfl rfl hc16) rfl<|b_ (Know.one ((aZ (aC.res 0 rfl) bO))) fun ho17=>jR (uB (k:=p2) 6 0 rfl rfl rfl hc16) ?_
  refine nY 4 5 ⟨hc16.1,by first|exact hc16.2|simpa using hc16.2⟩ rfl rfl rfl rfl rfl (by simp) ho17 rfl ?_
  refine dtN<|aO ?_
  refine JR.start [0,1,0,0,8,0,32,0,224,480,1016,2047,4095] 11 mixedOrders (by decide +kernel) ?_
  refine JR.open (by exact rfl) ?_
  refine jkFld rfl<|jkLd 2 rfl<|jkMove rfl<|jkLdA 0 rfl<|JR.loud rfl rfl rfl (cJ (e:=bU) ([((p2,p4))]) [(0,Value.agg #[Value.int .i64 (p2),Value.int .i64 (p4)])] rfl rfl rfl rfl (uU (Value.int .i64 (p2)) (Value.int .i64 (p4))) rfl rfl rfl) rfl (fun u18=>(aE.b rfl (aE.h .nil .nil (aE.h (aP.ix [3] rfl rfl) .nil (aE.h .nil .nil aE.z))))) fun u18=>aT rfl .nil .nil (eF rfl rfl rfl rfl rfl) (aF.h .nil .nil aF.z)<|aT rfl (aP.cons 3 rfl .nil) .nil (eJ 0 rfl rfl rfl rfl rfl) (aF.h (aP.ix [2] rfl rfl) .nil aF.z)<|aT rfl .nil .nil (lP rfl) (aF.h .nil .nil aF.z) ?_
  have⟨hc19,h⟩:=aN h
  refine cH (cY 6 rfl) fun hl20=>?_
  refine aT rfl (aP.cons 5 rfl .nil) .nil (iO 0 rfl rfl rfl rfl rfl hc19.1 (by have q1:=hc19.2;have q2:=hl20;(try simp only[List.length_set]at q1);(try simp only[List.length_set]at q2);(try simp only[List.length_set]);omega)) (aF.h (aP.ix [4] rfl rfl) .nil aF.z) ?_
  refine cH (cY 6 rfl) fun hl21=>aT rfl (aP.cons 5 rfl .nil) .nil (nF 0 rfl rfl hl21 rfl rfl hc19) (aF.h (aP.ix [4] rfl rfl) .nil aF.z) ?_
  have⟨hc23,h⟩:=aN h
  refine JR.loud rfl rfl rfl (gH 0 bO rfl rfl rfl (aC.row (j:=6) rfl bO hc19.1 (by first|exact hc19.2|simpa using hc19.2)) rfl rfl rfl rfl hc23 rfl) rfl (fun u22=>(aE.b rfl (aE.b rfl (aE.b rfl (aE.b rfl (aE.b rfl (aE.b rfl (aE.h .nil .nil (aE.h (aP.ix [3] rfl rfl) .nil (aE.h .nil .nil aE.z)))))))))) fun u22=>?_
  refine bS 11 rfl rfl ?_
  have⟨hc24,h⟩:=aN h
  refine aB (cS rfl rfl (bH (i:=5) (j:=6) rfl rfl bO) rfl rfl hc24) rfl<|b_ (Know.one ((aZ (aC.res 0 rfl) bO))) fun ho25=>jR (uB (k:=p3) 6 0 rfl rfl rfl hc24) ?_
  refine nY 4 5 ⟨hc24.1,by first|exact hc24.2|simpa using hc24.2⟩ rfl rfl rfl rfl rfl (by simp) ho25 rfl ?_
  refine dtN<|aX<|aM ?_
  cases h
  exact AB (List.set (List.set w5 (Int.toNat p2) u14) (Int.toNat p3) u22) rfl rfl .ret (.inl rfl) (aP.ix [4,5] rfl rfl) aA.nil
 refine aW<|aI ?_
 have⟨hc26,h⟩:=aN h
 have⟨hc29,h⟩:=aN h
 have⟨hc34,h⟩:=aN h
 have⟨hc37,h⟩:=aN h
 have⟨hc38,h⟩:=aN h
 have⟨hc39,h⟩:=aN h
 have⟨hc43,h⟩:=aN h
 refine FY [0,1,0,0,8,0,0,64,0,448,960,0,2048,8128,0,16384,0,114688,245760,0,524288,2097088,4194247,8388551,16777215,33554431] 24 [[0,1,2,3,4,5,6,7,8,9,10,11,14,15,16,17,18,19,12,13,20,21,22,23,24,25],[0,1,2,3,4,5,6,7,8,9,10,11,14,15,16,17,18,19,12,20,13,21,22,23,24,25],[0,1,2,3,4,5,6,7,8,9,10,11,14,15,16,17,18,19,20,12,13,21,22,23,24,25]] mixedOrders (by decide +kernel) (by decide +kernel) ?_
 intro o ho
 simp only[List.mem_cons,List.not_mem_nil,or_false]at ho
 rcases ho with rfl|rfl|rfl
 ·refine jkFld rfl<|jkLd 2 rfl<|jkMove rfl<|jkFld rfl<|jkLd 2 rfl<|jkMove rfl<|jkFld rfl<|jkLd 2 rfl<|jkMove rfl<|cH (cY 5 rfl) fun hl46=>?_
  refine aT rfl (aP.cons 4 rfl .nil) .nil (iO 0 rfl rfl rfl rfl rfl hc26.1 (by have q1:=hc26.2;have q2:=hl46;(try simp only[List.length_set]at q1);(try simp only[List.length_set]at q2);(try simp only[List.length_set]);omega)) aF.z ?_
  refine cH (cY 5 rfl) fun hl47=>aT rfl (aP.cons 4 rfl .nil) .nil (nF 0 rfl rfl hl47 rfl rfl hc26) aF.z<|jkLdA 1 rfl<|jkFld rfl<|jkLd 2 rfl<|jkMove rfl<|cH (cY 5 rfl) fun hl48=>?_
  refine aT rfl (aP.cons 4 rfl .nil) .nil (iO 0 rfl rfl rfl rfl rfl hc29.1 (by have q1:=hc29.2;have q2:=hl48;(try simp only[List.length_set]at q1);(try simp only[List.length_set]at q2);(try simp only[List.length_set]);omega)) aF.z ?_
  refine cH (cY 5 rfl) fun hl49=>aT rfl (aP.cons 4 rfl .nil) .nil (nF 0 rfl rfl hl49 rfl rfl hc29) aF.z<|jkLdA 0 rfl<|JR.loud rfl rfl rfl (cJ (e:=bU) ([((p3,p4))]) [(0,Value.agg #[Value.int .i64 (p3),Value.int .i64 (p4)])] rfl rfl rfl rfl (uU (Value.int .i64 (p3)) (Value.int .i64 (p4))) rfl rfl rfl) rfl (fun u50=>(aE.h (aP.ix [1] rfl rfl) .nil (aE.h (aP.ix [5] rfl rfl) .nil (aE.h (aP.ix [5] rfl rfl) .nil (aE.h .nil .nil (aE.h (aP.ix [3] rfl rfl) .nil (aE.h .nil .nil (aE.b rfl (aE.h (aP.ix [5] rfl rfl) .nil (aE.h (aP.ix [5] rfl rfl) .nil (aE.h .nil .nil (aE.h (aP.ix [3] rfl rfl) .nil (aE.h .nil .nil (aE.h .nil .nil (aE.h (aP.ix [3] rfl rfl) .nil (aE.h .nil .nil (aE.h .nil .nil (aE.h (aP.ix [3] rfl rfl) .nil (aE.h .nil .nil aE.z))))))))))))))))))) fun u50=>JR.loud rfl rfl rfl (oK 6 bO rfl rfl rfl (aZ (aC.res 0 rfl) bO) rfl rfl rfl rfl hc26 hc34 rfl) rfl (fun u51=>(aE.h (aP.ix [1] rfl rfl) .nil (aE.h (aP.ix [5] rfl rfl) .nil (aE.h (aP.ix [5] rfl rfl) .nil (aE.h .nil .nil (aE.h (aP.ix [3] rfl rfl) .nil (aE.h .nil .nil (aE.b rfl (aE.b rfl (aE.b rfl (aE.b rfl (aE.b rfl (aE.b rfl (aE.h .nil .nil (aE.h (aP.ix [3] rfl rfl) .nil (aE.h .nil .nil (aE.h .nil .nil (aE.h (aP.ix [3] rfl rfl) .nil (aE.h .nil .nil aE.z))))))))))))))))))) fun u51=>JR.loud rfl rfl rfl (cJ (e:=bU) ([((p2,p4))]) [(0,Value.agg #[Value.int .i64 (p2),Value.int .i64 (p4)])] rfl rfl rfl rfl (uU (Value.int .i64 (p2)) (Value.int .i64 (p4))) rfl rfl rfl) rfl (fun u52=>(aE.b rfl (aE.h (aP.ix [6] rfl rfl) .nil (aE.h (aP.ix [6] rfl rfl) .nil (aE.h .nil .nil (aE.h (aP.ix [4] rfl rfl) .nil (aE.h .nil .nil (aE.h (aP.ix [3] rfl rfl) .nil (aE.h (aP.ix [6] rfl rfl) .nil (aE.h (aP.ix [6] rfl rfl) .nil (aE.h .nil .nil (aE.h (aP.ix [4] rfl rfl) .nil (aE.h .nil .nil (aE.h .nil .nil (aE.h (aP.ix [4] rfl rfl) .nil (aE.h .nil .nil (aE.h .nil .nil (aE.h (aP.ix [4] rfl rfl) .nil (aE.h .nil .nil aE.z))))))))))))))))))) fun u52=>JR.loud rfl rfl rfl (vC (j:=p2) 7 bO rfl rfl rfl (aZ (aC.res 0 rfl) bO) rfl rfl rfl rfl hc29 hc37 rfl hc38) rfl (fun u53=>(aE.b rfl (aE.b rfl (aE.b rfl (aE.b rfl (aE.b rfl (aE.b rfl (aE.b rfl (aE.b rfl (aE.b rfl (aE.b rfl (aE.b rfl (aE.b rfl (aE.h .nil .nil (aE.h (aP.ix [4] rfl rfl) .nil (aE.h .nil .nil (aE.h .nil .nil (aE.h (aP.ix [4] rfl rfl) .nil (aE.h .nil .nil aE.z))))))))))))))))))) fun u53=>cH (cY 7 rfl) fun hl54=>?_
  refine aT rfl (aP.cons 6 rfl .nil) .nil (iO 0 rfl rfl rfl rfl rfl hc39.1 (by have q1:=hc39.2;have q2:=hl54;(try simp only[List.length_set]at q1);(try simp only[List.length_set]at q2);(try simp only[List.length_set]);omega)) (aF.b rfl (aF.b rfl (aF.b rfl (aF.b rfl aF.z)))) ?_
  refine cH (yI (k:=p2) (j:=p3) 7 rfl (by omega) ⟨hc39.1,by first|exact hc39.2|simpa using hc39.2⟩) fun ho55=>?_
  refine rB rfl rfl rfl (xF 6 7 ⟨hc39.1,by first|exact hc39.2|simpa using hc39.2⟩ rfl rfl rfl rfl (by simp) ho55 rfl) (fun x56=>(aE.b rfl (aE.b rfl (aE.b rfl (aE.b rfl (aE.b rfl (aE.b rfl (aE.b rfl (aE.b rfl (aE.b rfl (aE.b rfl (aE.b rfl (aE.b rfl (aE.b rfl (aE.h .nil .nil (aE.h (aP.ix [4] rfl rfl) .nil (aE.h .nil .nil (aE.b rfl (aE.b rfl (aE.b rfl aE.z)))))))))))))))))))) fun x56=>?_
  refine bS 24 rfl rfl<|b_ (cY 7 rfl) fun hl57=>?_
  refine aB (iO 6 rfl rfl rfl rfl rfl hc43.1 (by have q1:=hc43.2;have q2:=hl57;(try simp only[List.length_set]at q1);(try simp only[List.length_set]at q2);(try simp only[List.length_set]);omega)) rfl ?_
  refine b_ (wW 7 (k:=p3) rfl ⟨hc43.1,by first|exact hc43.2|simpa using hc43.2⟩) fun ho58=>?_
  refine nY 6 7 ⟨hc43.1,by first|exact hc43.2|simpa using hc43.2⟩ rfl rfl rfl rfl rfl (by simp) ho58 rfl ?_
  refine eD ?_
  cases h
  exact AB (List.set (List.set w5 (Int.toNat p2) u51) (Int.toNat p3) u53) rfl rfl .normal (.inr rfl) (aP.ix [6,7] rfl rfl) aA.nil
 ·refine jkFld rfl<|jkLd 2 rfl<|jkMove rfl<|jkFld rfl<|jkLd 2 rfl<|jkMove rfl<|jkFld rfl<|jkLd 2 rfl<|jkMove rfl<|cH (cY 5 rfl) fun hl59=>?_
  refine aT rfl (aP.cons 4 rfl .nil) .nil (iO 0 rfl rfl rfl rfl rfl hc26.1 (by have q1:=hc26.2;have q2:=hl59;(try simp only[List.length_set]at q1);(try simp only[List.length_set]at q2);(try simp only[List.length_set]);omega)) aF.z ?_
  refine cH (cY 5 rfl) fun hl60=>aT rfl (aP.cons 4 rfl .nil) .nil (nF 0 rfl rfl hl60 rfl rfl hc26) aF.z<|jkLdA 1 rfl<|jkFld rfl<|jkLd 2 rfl<|jkMove rfl<|cH (cY 5 rfl) fun hl61=>?_
  refine aT rfl (aP.cons 4 rfl .nil) .nil (iO 0 rfl rfl rfl rfl rfl hc29.1 (by have q1:=hc29.2;have q2:=hl61;(try simp only[List.length_set]at q1);(try simp only[List.length_set]at q2);(try simp only[List.length_set]);omega)) aF.z ?_
  refine cH (cY 5 rfl) fun hl62=>aT rfl (aP.cons 4 rfl .nil) .nil (nF 0 rfl rfl hl62 rfl rfl hc29) aF.z<|jkLdA 0 rfl<|JR.loud rfl rfl rfl (cJ (e:=bU) ([((p3,p4))]) [(0,Value.agg #[Value.int .i64 (p3),Value.int .i64 (p4)])] rfl rfl rfl rfl (uU (Value.int .i64 (p3)) (Value.int .i64 (p4))) rfl rfl rfl) rfl (fun u63=>(aE.h (aP.ix [1] rfl rfl) .nil (aE.h (aP.ix [5] rfl rfl) .nil (aE.h (aP.ix [5] rfl rfl) .nil (aE.h .nil .nil (aE.h (aP.ix [3] rfl rfl) .nil (aE.h .nil .nil (aE.b rfl (aE.h (aP.ix [5] rfl rfl) .nil (aE.h (aP.ix [5] rfl rfl) .nil (aE.h .nil .nil (aE.h (aP.ix [3] rfl rfl) .nil (aE.h .nil .nil (aE.h .nil .nil (aE.h (aP.ix [3] rfl rfl) .nil (aE.h .nil .nil (aE.h .nil .nil (aE.h (aP.ix [3] rfl rfl) .nil (aE.h .nil .nil aE.z))))))))))))))))))) fun u63=>JR.loud rfl rfl rfl (cJ (e:=bU) ([((p2,p4))]) [(0,Value.agg #[Value.int .i64 (p2),Value.int .i64 (p4)])] rfl rfl rfl rfl (uU (Value.int .i64 (p2)) (Value.int .i64 (p4))) rfl rfl rfl) rfl (fun u64=>(aE.b rfl (aE.h (aP.ix [6] rfl rfl) .nil (aE.h (aP.ix [6] rfl rfl) .nil (aE.h .nil .nil (aE.h (aP.ix [4] rfl rfl) .nil (aE.h .nil .nil (aE.h (aP.ix [3] rfl rfl) .nil (aE.h (aP.ix [6] rfl rfl) .nil (aE.h (aP.ix [6] rfl rfl) .nil (aE.h .nil .nil (aE.h (aP.ix [4] rfl rfl) .nil (aE.h .nil .nil (aE.h .nil .nil (aE.h (aP.ix [4] rfl rfl) .nil (aE.h .nil .nil (aE.h .nil .nil (aE.h (aP.ix [4] rfl rfl) .nil (aE.h .nil .nil aE.z))))))))))))))))))) fun u64=>JR.loud rfl rfl rfl (oK 7 bO rfl rfl rfl (aZ (aC.res 1 rfl) bO) rfl rfl rfl rfl hc26 hc34 rfl) rfl (fun u65=>(aE.h (aP.ix [2] rfl rfl) .nil (aE.h (aP.ix [6] rfl rfl) .nil (aE.h (aP.ix [6] rfl rfl) .nil (aE.h .nil .nil (aE.h (aP.ix [4] rfl rfl) .nil (aE.h .nil .nil (aE.b rfl (aE.b rfl (aE.b rfl (aE.b rfl (aE.b rfl (aE.b rfl (aE.h .nil .nil (aE.h (aP.ix [4] rfl rfl) .nil (aE.h .nil .nil (aE.h .nil .nil (aE.h (aP.ix [4] rfl rfl) .nil (aE.h .nil .nil aE.z))))))))))))))))))) fun u65=>JR.loud rfl rfl rfl (vC (j:=p2) 7 bO rfl rfl rfl (aZ (aC.res 0 rfl) bO) rfl rfl rfl rfl hc29 hc37 rfl hc38) rfl (fun u66=>(aE.b rfl (aE.b rfl (aE.b rfl (aE.b rfl (aE.b rfl (aE.b rfl (aE.b rfl (aE.b rfl (aE.b rfl (aE.b rfl (aE.b rfl (aE.b rfl (aE.h .nil .nil (aE.h (aP.ix [4] rfl rfl) .nil (aE.h .nil .nil (aE.h .nil .nil (aE.h (aP.ix [4] rfl rfl) .nil (aE.h .nil .nil aE.z))))))))))))))))))) fun u66=>cH (cY 7 rfl) fun hl67=>?_
  refine aT rfl (aP.cons 6 rfl .nil) .nil (iO 0 rfl rfl rfl rfl rfl hc39.1 (by have q1:=hc39.2;have q2:=hl67;(try simp only[List.length_set]at q1);(try simp only[List.length_set]at q2);(try simp only[List.length_set]);omega)) (aF.b rfl (aF.b rfl (aF.b rfl (aF.b rfl aF.z)))) ?_
  refine cH (yI (k:=p2) (j:=p3) 7 rfl (by omega) ⟨hc39.1,by first|exact hc39.2|simpa using hc39.2⟩) fun ho68=>?_
  refine rB rfl rfl rfl (xF 6 7 ⟨hc39.1,by first|exact hc39.2|simpa using hc39.2⟩ rfl rfl rfl rfl (by simp) ho68 rfl) (fun x69=>(aE.b rfl (aE.b rfl (aE.b rfl (aE.b rfl (aE.b rfl (aE.b rfl (aE.b rfl (aE.b rfl (aE.b rfl (aE.b rfl (aE.b rfl (aE.b rfl (aE.b rfl (aE.h .nil .nil (aE.h (aP.ix [4] rfl rfl) .nil (aE.h .nil .nil (aE.b rfl (aE.b rfl (aE.b rfl aE.z)))))))))))))))))))) fun x69=>?_
  refine bS 24 rfl rfl<|b_ (cY 7 rfl) fun hl70=>?_
  refine aB (iO 6 rfl rfl rfl rfl rfl hc43.1 (by have q1:=hc43.2;have q2:=hl70;(try simp only[List.length_set]at q1);(try simp only[List.length_set]at q2);(try simp only[List.length_set]);omega)) rfl ?_
  refine b_ (wW 7 (k:=p3) rfl ⟨hc43.1,by first|exact hc43.2|simpa using hc43.2⟩) fun ho71=>?_
  refine nY 6 7 ⟨hc43.1,by first|exact hc43.2|simpa using hc43.2⟩ rfl rfl rfl rfl rfl (by simp) ho71 rfl ?_
  refine eD ?_
  cases h
  exact AB (List.set (List.set w5 (Int.toNat p2) u65) (Int.toNat p3) u66) rfl rfl .normal (.inr rfl) (aP.ix [6,7] rfl rfl) aA.nil
 refine jkFld rfl<|jkLd 2 rfl<|jkMove rfl<|jkFld rfl<|jkLd 2 rfl<|jkMove rfl<|jkFld rfl<|jkLd 2 rfl<|jkMove rfl<|cH (cY 5 rfl) fun hl72=>?_
 refine aT rfl (aP.cons 4 rfl .nil) .nil (iO 0 rfl rfl rfl rfl rfl hc26.1 (by have q1:=hc26.2;have q2:=hl72;(try simp only[List.length_set]at q1);(try simp only[List.length_set]at q2);(try simp only[List.length_set]);omega)) aF.z ?_
 refine cH (cY 5 rfl) fun hl73=>aT rfl (aP.cons 4 rfl .nil) .nil (nF 0 rfl rfl hl73 rfl rfl hc26) aF.z<|jkLdA 1 rfl<|jkFld rfl<|jkLd 2 rfl<|jkMove rfl<|cH (cY 5 rfl) fun hl74=>?_
 refine aT rfl (aP.cons 4 rfl .nil) .nil (iO 0 rfl rfl rfl rfl rfl hc29.1 (by have q1:=hc29.2;have q2:=hl74;(try simp only[List.length_set]at q1);(try simp only[List.length_set]at q2);(try simp only[List.length_set]);omega)) aF.z ?_
 refine cH (cY 5 rfl) fun hl75=>aT rfl (aP.cons 4 rfl .nil) .nil (nF 0 rfl rfl hl75 rfl rfl hc29) aF.z<|jkLdA 0 rfl<|JR.loud rfl rfl rfl (cJ (e:=bU) ([((p2,p4))]) [(0,Value.agg #[Value.int .i64 (p2),Value.int .i64 (p4)])] rfl rfl rfl rfl (uU (Value.int .i64 (p2)) (Value.int .i64 (p4))) rfl rfl rfl) rfl (fun u76=>(aE.b rfl (aE.h (aP.ix [5] rfl rfl) .nil (aE.h (aP.ix [5] rfl rfl) .nil (aE.h .nil .nil (aE.h (aP.ix [3] rfl rfl) .nil (aE.h .nil .nil (aE.h (aP.ix [2] rfl rfl) .nil (aE.h (aP.ix [5] rfl rfl) .nil (aE.h (aP.ix [5] rfl rfl) .nil (aE.h .nil .nil (aE.h (aP.ix [3] rfl rfl) .nil (aE.h .nil .nil (aE.h .nil .nil (aE.h (aP.ix [3] rfl rfl) .nil (aE.h .nil .nil (aE.h .nil .nil (aE.h (aP.ix [3] rfl rfl) .nil (aE.h .nil .nil aE.z))))))))))))))))))) fun u76=>JR.loud rfl rfl rfl (cJ (e:=bU) ([((p3,p4))]) [(0,Value.agg #[Value.int .i64 (p3),Value.int .i64 (p4)])] rfl rfl rfl rfl (uU (Value.int .i64 (p3)) (Value.int .i64 (p4))) rfl rfl rfl) rfl (fun u77=>(aE.h (aP.ix [2] rfl rfl) .nil (aE.h (aP.ix [6] rfl rfl) .nil (aE.h (aP.ix [6] rfl rfl) .nil (aE.h .nil .nil (aE.h (aP.ix [4] rfl rfl) .nil (aE.h .nil .nil (aE.b rfl (aE.h (aP.ix [6] rfl rfl) .nil (aE.h (aP.ix [6] rfl rfl) .nil (aE.h .nil .nil (aE.h (aP.ix [4] rfl rfl) .nil (aE.h .nil .nil (aE.h .nil .nil (aE.h (aP.ix [4] rfl rfl) .nil (aE.h .nil .nil (aE.h .nil .nil (aE.h (aP.ix [4] rfl rfl) .nil (aE.h .nil .nil aE.z))))))))))))))))))) fun u77=>JR.loud rfl rfl rfl (oK 7 bO rfl rfl rfl (aZ (aC.res 0 rfl) bO) rfl rfl rfl rfl hc26 hc34 rfl) rfl (fun u78=>(aE.h (aP.ix [2] rfl rfl) .nil (aE.h (aP.ix [6] rfl rfl) .nil (aE.h (aP.ix [6] rfl rfl) .nil (aE.h .nil .nil (aE.h (aP.ix [4] rfl rfl) .nil (aE.h .nil .nil (aE.b rfl (aE.b rfl (aE.b rfl (aE.b rfl (aE.b rfl (aE.b rfl (aE.h .nil .nil (aE.h (aP.ix [4] rfl rfl) .nil (aE.h .nil .nil (aE.h .nil .nil (aE.h (aP.ix [4] rfl rfl) .nil (aE.h .nil .nil aE.z))))))))))))))))))) fun u78=>JR.loud rfl rfl rfl (vC (j:=p2) 7 bO rfl rfl rfl (aZ (aC.res 1 rfl) bO) rfl rfl rfl rfl hc29 hc37 rfl hc38) rfl (fun u79=>(aE.b rfl (aE.b rfl (aE.b rfl (aE.b rfl (aE.b rfl (aE.b rfl (aE.b rfl (aE.b rfl (aE.b rfl (aE.b rfl (aE.b rfl (aE.b rfl (aE.h .nil .nil (aE.h (aP.ix [4] rfl rfl) .nil (aE.h .nil .nil (aE.h .nil .nil (aE.h (aP.ix [4] rfl rfl) .nil (aE.h .nil .nil aE.z))))))))))))))))))) fun u79=>cH (cY 7 rfl) fun hl80=>?_
 refine aT rfl (aP.cons 6 rfl .nil) .nil (iO 0 rfl rfl rfl rfl rfl hc39.1 (by have q1:=hc39.2;have q2:=hl80;(try simp only[List.length_set]at q1);(try simp only[List.length_set]at q2);(try simp only[List.length_set]);omega)) (aF.b rfl (aF.b rfl (aF.b rfl (aF.b rfl aF.z)))) ?_
 refine cH (yI (k:=p2) (j:=p3) 7 rfl (by omega) ⟨hc39.1,by first|exact hc39.2|simpa using hc39.2⟩) fun ho81=>?_
 refine rB rfl rfl rfl (xF 6 7 ⟨hc39.1,by first|exact hc39.2|simpa using hc39.2⟩ rfl rfl rfl rfl (by simp) ho81 rfl) (fun x82=>(aE.b rfl (aE.b rfl (aE.b rfl (aE.b rfl (aE.b rfl (aE.b rfl (aE.b rfl (aE.b rfl (aE.b rfl (aE.b rfl (aE.b rfl (aE.b rfl (aE.b rfl (aE.h .nil .nil (aE.h (aP.ix [4] rfl rfl) .nil (aE.h .nil .nil (aE.b rfl (aE.b rfl (aE.b rfl aE.z)))))))))))))))))))) fun x82=>?_
 refine bS 24 rfl rfl<|b_ (cY 7 rfl) fun hl83=>?_
 refine aB (iO 6 rfl rfl rfl rfl rfl hc43.1 (by have q1:=hc43.2;have q2:=hl83;(try simp only[List.length_set]at q1);(try simp only[List.length_set]at q2);(try simp only[List.length_set]);omega)) rfl ?_
 refine b_ (wW 7 (k:=p3) rfl ⟨hc43.1,by first|exact hc43.2|simpa using hc43.2⟩) fun ho84=>?_
 refine nY 6 7 ⟨hc43.1,by first|exact hc43.2|simpa using hc43.2⟩ rfl rfl rfl rfl rfl (by simp) ho84 rfl ?_
 refine eD ?_
 cases h
 exact AB (List.set (List.set w5 (Int.toNat p2) u78) (Int.toNat p3) u79) rfl rfl .normal (.inr rfl) (aP.ix [6,7] rfl rfl) aA.nil
end Go.Proofs.YtigggfnchamobaaGreatDoor
end
section
namespace Go.Proofs.YtigggfnchamobaaGreatDoor
open Go.Sx
def mQ (r3:(List (Int)×(List (List (Int×Int))))) (a11:(List (List (Int×Int)))):Option ((List (Int)×(List (List (Int×Int))))):=
 some ((r3.1,a11))
def mR (fuel:Nat) (p0:Int×List (Int)×List (Int)×List (Int)×Bool×Bool) (r3:(List (Int)×(List (List (Int×Int))))) (a19:Int×(List (List (Int×Int)))) (ag18:(Int×(List (List (Int×Int))))->Option ((List (Int)×(List (List (Int×Int)))))):Option ((List (Int)×(List (List (Int×Int))))):=
 if a19.1<(List.length a19.2:Int)then(Option.bind (oH fuel p0.2.1 (wI .i64 (a19.1 - (1:Int)))) fun r23=>(Option.bind (eS fuel r23 a19.1) fun r26=>(Option.bind (oH fuel p0.2.2.1 (wI .i64 (a19.1 - (1:Int)))) fun r29=>(Option.bind (eS fuel r29 (15:Int)) fun r32=>(Option.bind (iX fuel ((p0.1,p0.2.1,p0.2.2.1,p0.2.2.2.1,p0.2.2.2.2.1,p0.2.2.2.2.2)) ((r3.1,a19.2)) r26 a19.1 (wI .i64 ((1:Int)+r32))) fun r35=>(ag18 ((wI .i64 (a19.1+(1:Int))),r35)))))))else(mQ r3 (a19.2))
def iW (fuel:Nat) (p0:Int×List (Int)×List (Int)×List (Int)×Bool×Bool) (p1:Int):Option ((List (Int)×(List (List (Int×Int))))):=
 Option.bind (iG fuel ((p0.1,p0.2.1,p0.2.2.1,p0.2.2.2.1,p0.2.2.2.2.1,p0.2.2.2.2.2)) p1) fun r3=>(bK (mR fuel p0 r3) fuel ((1:Int),r3.2))
theorem OU:aV Tryz.prog 27:=Tryz.call27
theorem wM (fuel:Nat) {p0:Int×List (Int)×List (Int)×List (Int)×Bool×Bool} {p1:Int} (v0:Value)  (v1:Value)  (v2:Value) (r:(List (Int)×(List (List (Int×Int))))) (h:iW fuel p0 p1=some r):
  bA Tryz.prog 27 #[Value.agg #[Value.int .i64 (p0.1),v0,v1,v2,Value.bool (p0.2.2.2.2.1),Value.bool (p0.2.2.2.2.2)],Value.int .i64 (p1)] [Sl aR v0 p0.2.1,Sl aR v1 p0.2.2.1,Sl aR v2 p0.2.2.2.1] (fun x:Value×Value×List Value=>Value.agg #[x.1,x.2.1]) (fun x l=>Ar cA x.1 r.1::Ar dK.raw x.2.1 x.2.2::jP bU x.2.2 r.2::l) (fun _ l=>l):=by
 refine bA.of (vs:=[Value.agg #[Value.int .i64 (p0.1),v0,v1,v2,Value.bool (p0.2.2.2.2.1),Value.bool (p0.2.2.2.2.2)],Value.int .i64 (p1)]) Tryz.func27 rfl Tryz.ntmps27 rfl fun c=>?_
 unfold iW at h
 refine sqR<|aL (aQ.box (cs:=[Value.int .i64 (p0.1),v0,v1,v2,Value.bool (p0.2.2.2.2.1),Value.bool (p0.2.2.2.2.2)]) rfl rfl) rfl fun b1=>aL (aQ.alloc (cs:=[Value.slice none 0 0,Value.slice none 0 0]) rfl rfl) rfl fun b2=>dtN<|sqR<|qkLdA 1 rfl<|qkMove rfl ?_
 have⟨r3,hr4,h⟩:=fJ h
 refine aL (aJ OW (vL fuel v0 v1 v2 r3 hr4) rfl (aA.cons (aC.fact 0 rfl) (aA.cons (aC.fact 1 rfl) (aA.cons (aC.fact 2 rfl) .nil))) (fun _ _=>rfl)) rfl fun x5=>aL (aQ.alloc (cs:=[Value.slice none 0 0,Value.slice none 0 0]) rfl rfl) rfl fun b6=>b_ (Know.one ((aZ (aC.res 1 rfl) cR))) fun ho7=>b_ (Know.one (aC.sl (bH (i:=2) (j:=3) rfl rfl bO))) fun ho8=>bM 0 (vs:=[x5.1,x5.2.1]) rfl rfl (cQ ho7 (cQ ho8 rfl)) rfl rfl rfl<|dtN<|aO<|bL (A:=(List (List (Int×Int)))) (B:=List Value) (fun a11=>mQ r3 a11=some r) (fun a11 b12=>[(4,Value.pointer (some ⟨b2,0,none⟩)),(5,Value.pointer (some ⟨b6,0,none⟩))]) (fun a11 b12=>[bR b6 [x5.1,x5.2.1] 28,Ar cA x5.1 r3.1,Ar dK.raw x5.2.1 b12,jP bU b12 a11,bR b2 [Value.slice none 0 0,Value.slice none 0 0] 28]) (fun a11 b12=>[Sl aR v0 p0.2.1,Sl aR v1 p0.2.2.1,Sl aR v2 p0.2.2.2.1]) ?_ ?_
 ·refine sqR<|qkAsg rfl<|dtN<|aU<|bY (A:=Int×(List (List (Int×Int)))) (B:=List Value) (mR fuel p0 r3) (fun a19 b20=>[(2,Value.pointer (some ⟨b1,0,none⟩)),(4,Value.pointer (some ⟨b2,0,none⟩)),(5,Value.pointer (some ⟨b6,0,none⟩)),(6,Value.int .i64 (a19.1))]) (fun a19 b20=>[bR b6 [x5.1,x5.2.1] 28,Ar cA x5.1 r3.1,Ar dK.raw x5.2.1 b20,jP bU b20 a19.2,bR b2 [Value.slice none 0 0,Value.slice none 0 0] 28,bR b1 [Value.int .i64 (p0.1),v0,v1,v2,Value.bool (p0.2.2.2.2.1),Value.bool (p0.2.2.2.2.2)] 24]) (fun a19 b20=>[Sl aR v0 p0.2.1,Sl aR v1 p0.2.2.1,Sl aR v2 p0.2.2.2.1]) ((1:Int),r3.2) (x5.2.2) h SF (aP.refl _) (aA.refl _ _) ?_
  clear h
  intro k21 a19 b20 h
  unfold mR at h
  refine aO<|sqR<|qkMove rfl<|qkFld rfl<|qkLd 0 rfl<|aB (jX rfl (bH (i:=2) (j:=3) rfl rfl bO) rfl) rfl<|qkLss rfl<|dtN ?_
  refine eR h rfl (fun _ h=>?_) fun _ h=>?_
  ·refine aW<|aI<|aO<|aU ?_
   refine JR.start [0,0,0,4,0,16,60,0,252,0,0,1024,0,4096,15868,32252,65020,131071] 17 mixedOrders (by decide +kernel) ?_
   refine JR.open (by exact rfl) ?_
   refine jkLdA 5 rfl<|jkLdA 0 rfl<|jkFld rfl<|jkLd 5 rfl<|jkMove rfl<|aT rfl .nil .nil (pV rfl rfl) aF.z ?_
   have⟨r23,hr24,h⟩:=fJ h
   refine JR.loud rfl rfl rfl (aJ EH (wR fuel v0 r23 hr24) rfl (aA.cons (aC.fact 0 rfl) .nil) (fun _ _=>rfl)) rfl (fun x25=>(aE.b rfl (aE.b rfl (aE.b rfl (aE.b rfl (aE.h (aP.ix [0] rfl rfl) .nil (aE.h (aP.ix [5] rfl rfl) .nil aE.z))))))) fun x25=>aT rfl .nil .nil (lP rfl) (aF.h .nil .nil aF.z) ?_
   have⟨r26,hr27,h⟩:=fJ h
   refine JR.loud rfl rfl rfl (aJ Ad (jN fuel  r26 hr27) rfl .nil (fun _ _=>rfl)) rfl (fun x28=>(aE.b rfl (aE.b rfl (aE.b rfl (aE.b rfl (aE.b rfl (aE.h (aP.ix [0] rfl rfl) .nil (aE.h (aP.ix [5] rfl rfl) .nil aE.z)))))))) fun x28=>aT rfl .nil .nil (lP rfl) (aF.h .nil .nil (aF.h .nil .nil aF.z))<|aT rfl .nil .nil (eF rfl rfl rfl rfl rfl) (aF.h .nil .nil (aF.h .nil .nil aF.z))<|aT rfl (aP.cons 5 rfl .nil) .nil (eJ 0 rfl rfl rfl rfl rfl) (aF.h (aP.ix [5] rfl rfl) .nil (aF.h (aP.ix [5] rfl rfl) .nil aF.z))<|aT rfl .nil .nil (lP rfl) (aF.h .nil .nil (aF.h .nil .nil aF.z))<|aT rfl .nil .nil (pV rfl rfl) (aF.h .nil .nil (aF.h .nil .nil aF.z)) ?_
   have⟨r29,hr30,h⟩:=fJ h
   refine JR.loud rfl rfl rfl (aJ EH (wR fuel v1 r29 hr30) rfl (aA.cons (aC.fact 1 rfl) .nil) (fun _ _=>rfl)) rfl (fun x31=>(aE.b rfl (aE.b rfl (aE.b rfl (aE.b rfl (aE.h .nil .nil (aE.b rfl (aE.b rfl (aE.b rfl (aE.b rfl (aE.b rfl (aE.h (aP.ix [0] rfl rfl) .nil (aE.h (aP.ix [5] rfl rfl) .nil aE.z))))))))))))) fun x31=>?_
   have⟨r32,hr33,h⟩:=fJ h
   refine JR.loud rfl rfl rfl (aJ Ad (jN fuel  r32 hr33) rfl .nil (fun _ _=>rfl)) rfl (fun x34=>(aE.b rfl (aE.b rfl (aE.b rfl (aE.b rfl (aE.h .nil .nil (aE.b rfl (aE.b rfl (aE.b rfl (aE.b rfl (aE.b rfl (aE.h (aP.ix [0] rfl rfl) .nil (aE.h (aP.ix [5] rfl rfl) .nil aE.z))))))))))))) fun x34=>aT rfl .nil .nil (pG rfl rfl) (aF.b rfl (aF.b rfl (aF.b rfl (aF.b rfl aF.z))))<|bS 17 rfl rfl ?_
   have⟨r35,hr36,h⟩:=fJ h
   refine aL (yJ (Min:=[Ar dK.raw x5.2.1 b20,jP bU b20 a19.2]) (Mr:=[bR b6 [x5.1,x5.2.1] 28,Ar cA x5.1 r3.1,bR b2 [Value.slice none 0 0,Value.slice none 0 0] 28,bR b1 [Value.int .i64 (p0.1),v0,v1,v2,Value.bool (p0.2.2.2.2.1),Value.bool (p0.2.2.2.2.2)] 24]) OX (wN fuel v0 v1 v2 x5.1 x5.2.1 b20 r35 hr36) rfl (aP.ix [2,3,0,1,4,5] rfl rfl) (aA.cons (aC.fact 0 rfl) (aA.cons (aC.fact 1 rfl) (aA.cons (aC.fact 2 rfl) (aA.cons (aZ (aC.res 1 rfl) cR) .nil)))) (fun _ _=>rfl)) rfl fun x37=>eD<|bV<|aI<|aS<|qkMove rfl<|qkAdd rfl<|qkAsg rfl<|dtN ?_
   exact nC ((wI .i64 (a19.1+(1:Int))),r35) (x37) h SF (aP.ix [2,3,0,1,4,5] rfl rfl) (aA.refl _ _)
  refine cE<|aY<|aY<|dJ<|aI ?_
  exact cM (a19.2) (b20) h SF (aP.ix [0,1,2,3,4] rfl rfl) (aA.refl _ _)
 clear h
 intro a11 b12 h
 unfold mQ at h
 refine sqR<|qkLdA 0 rfl<|b_ (Know.one ((aZ (aC.res 1 rfl) cR))) fun ho13=>b_ (Know.one (aC.sl (bH (i:=2) (j:=3) rfl rfl bO))) fun ho14=>bM 4 (vs:=[x5.1,x5.2.1]) rfl rfl (cQ ho13 (cQ ho14 rfl)) rfl rfl rfl<|dtN<|aX ?_
 cases h
 exact fO (x5.1,x5.2.1,b12) rfl rfl (RV.cell 4 rfl rfl rfl rfl) (aP.ix [1,2,3] rfl rfl) aA.nil
end Go.Proofs.YtigggfnchamobaaGreatDoor
end
section
namespace Go.Proofs.YtigggfnchamobaaGreatDoor
open Go.Sx
def lW  (a3:Unit):Option (Bool):=
 some (true)
def lX (a7:Int) (ag6:(Int)->Option (Bool)) (a11:Unit):Option (Bool):=
 ag6 (wI .i64 (a7+(1:Int)))
def jJ (a17:Int) (ag16:(Int)->Option (Bool)) (a28:Bool):Option (Bool):=
 if a28=true then(some (false))else(ag16 (wI .i64 (a17+(1:Int))))
def gS (p1:List (List (Int))) (a7:Int) (a17:Int) (ag16:(Int)->Option (Bool)) (a25:Int×Int):Option (Bool):=
 if(at' (at' p1 a7) a17)<a25.1 then(jJ a17 ag16 (true))else(jJ a17 ag16 (decide (a25.2<(at' (at' p1 a7) a17))))
def dB (p0:List (Int)×(List (List (Int×Int)))) (p1:List (List (Int))) (p2:List (Int)) (a7:Int) (ag6:(Int)->Option (Bool)) (a17:Int) (ag16:(Int)->Option (Bool)):Option (Bool):=
 if a17<(List.length (at' p1 a7):Int)then(ck (0<=a17∧a17<(List.length (at' p1 a7):Int)) (ck (0<=a17∧a17<(List.length p2:Int)) (if(at' p2 a17)=(-1:Int)then(ck (0<=a7∧a7<(List.length p0.2:Int)) (gS p1 a7 a17 ag16 ((-1:Int),(wI .i64 ((List.length (at' p0.2 a7):Int) - (1:Int))))))else(gS p1 a7 a17 ag16 ((0:Int),(at' p2 a17))))))else(lX a7 ag6 (()))
def cP (fuel:Nat) (p0:List (Int)×(List (List (Int×Int)))) (p1:List (List (Int))) (p2:List (Int)) (a7:Int) (ag6:(Int)->Option (Bool)):Option (Bool):=
 if a7<(List.length p1:Int)then(ck (0<=a7∧a7<(List.length p1:Int)) (if(List.length (at' p1 a7):Int)≠(List.length p2:Int)then(some (false))else(bK (dB p0 p1 p2 a7 ag6) fuel (0:Int))))else(lW  (()))
def fX (fuel:Nat) (p0:List (Int)×(List (List (Int×Int)))) (p1:List (List (Int))) (p2:List (Int)):Option (Bool):=
 if(List.length p1:Int)≠(List.length p0.1:Int)then(some (false))else(bK (cP fuel p0 p1 p2) fuel (0:Int))
theorem OV:aV Tryz.prog 34:=Tryz.call34
theorem vM (fuel:Nat) {p0:List (Int)×(List (List (Int×Int)))} {p1:List (List (Int))} {p2:List (Int)} (v0:Value)  (v1:Value)  (z2:List (Value×List (Int×Int)))  (v3:Value)  (z4:List (Value×List (Int)))  (v5:Value) (r:Bool) (h:fX fuel p0 p1 p2=some r):
  bA Tryz.prog 34 #[Value.agg #[v0,v1],v3,v5] [Sl aR v0 p0.1,S2 aK v1 z2 p0.2,S2 aR v3 z4 p1,Sl aR v5 p2] (fun x:Unit=>Value.bool (r)) (fun x l=>l) (fun _ l=>l):=by
 refine bA.of (vs:=[Value.agg #[v0,v1],v3,v5]) Tryz.func34 rfl Tryz.ntmps34 rfl fun c=>?_
 unfold fX at h
 refine sqR<|aL (aQ.box (cs:=[v0,v1]) rfl rfl) rfl fun b1=>qkAsg rfl<|dtN<|aO<|sqR<|qkMove rfl<|aB (jX rfl (aC.fact 2 rfl) rfl) rfl<|qkFld rfl<|qkLd 0 rfl<|aB (cB rfl (aC.fact 0 rfl) rfl) rfl<|aB (mM rfl rfl) rfl<|dtN ?_
 refine eR h rfl (fun _ h=>?_) fun _ h=>?_
 ·refine sqR<|qkAsg rfl<|dtN<|aX<|aM ?_
  cases h
  exact u_ rfl
 refine aW<|aI<|aO<|bL (A:=Unit) (B:=Unit) (fun a3=>lW  a3=some r) (fun a3 b4=>[]) (fun a3 b4=>[]) (fun a3 b4=>[Sl aR v0 p0.1,S2 aK v1 z2 p0.2,S2 aR v3 z4 p1,Sl aR v5 p2]) ?_ ?_
 ·refine sqR<|qkMove rfl<|aB (jX rfl (aC.fact 2 rfl) rfl) rfl<|qkMove rfl<|dtN<|aU<|bY (A:=Int) (B:=Unit) (cP fuel p0 p1 p2) (fun a7 b8=>[(2,v5),(3,Value.pointer (some ⟨b1,0,none⟩)),(19,v3),(20,Value.int .i64 (List.length p1:Int)),(21,Value.int .i64 (a7))]) (fun a7 b8=>[bR b1 [v0,v1] 28]) (fun a7 b8=>[Sl aR v0 p0.1,S2 aK v1 z2 p0.2,S2 aR v3 z4 p1,Sl aR v5 p2]) (0:Int) (()) h SF (aP.refl _) (aA.refl _ _) ?_
  clear h
  intro k9 a7 b8 h
  unfold cP at h
  refine sqR<|qkLss rfl<|dtN<|aO ?_
  refine eR h rfl (fun _ h=>?_) fun _ h=>?_
  ·refine aW<|aI<|aO<|bL (A:=Unit) (B:=Unit) (fun a11=>lX a7 (bK (cP fuel p0 p1 p2) k9) a11=some r) (fun a11 b12=>[(2,v5),(3,Value.pointer (some ⟨b1,0,none⟩)),(19,v3),(20,Value.int .i64 (List.length p1:Int)),(21,Value.int .i64 (a7))]) (fun a11 b12=>[bR b1 [v0,v1] 28]) (fun a11 b12=>[Sl aR v0 p0.1,S2 aK v1 z2 p0.2,S2 aR v3 z4 p1,Sl aR v5 p2]) ?_ ?_
   ·refine aU<|sqR<|qkMove rfl ?_
    have⟨hc13,h⟩:=aN h
    refine aB (cS rfl rfl (aC.fact 2 rfl) rfl rfl hc13) rfl<|aB (cT rfl (aC.fact 2 rfl) rfl rfl hc13) rfl<|qkAsg rfl<|qkAsg rfl<|dtN<|aO<|sqR<|qkMove rfl<|aB (cB rfl (aC.el (aC.fact 2 rfl) hc13.1 hc13.2) rfl) rfl<|qkMove rfl<|aB (cB rfl (aC.fact 3 rfl) rfl) rfl<|aB (mM rfl rfl) rfl<|dtN ?_
    refine eR h rfl (fun _ h=>?_) fun _ h=>?_
    ·refine sqR<|qkAsg rfl<|dtN<|aX<|aM<|bP<|aM<|aM<|bP<|aM ?_
     cases h
     exact u_ rfl
    refine aW<|aI<|sqR<|qkMove rfl<|aB (cB rfl (aC.el (aC.fact 2 rfl) hc13.1 hc13.2) rfl) rfl<|qkMove rfl<|dtN<|aU<|bY (A:=Int) (B:=Unit) (dB p0 p1 p2 a7 (bK (cP fuel p0 p1 p2) k9)) (fun a17 b18=>[(2,v5),(3,Value.pointer (some ⟨b1,0,none⟩)),(7,Value.int .i64 (a7)),(19,v3),(20,Value.int .i64 (List.length p1:Int)),(21,Value.int .i64 (a7)),(31,(at' z4 a7).1),(32,Value.int .i64 (List.length (at' p1 a7):Int)),(33,Value.int .i64 (a17))]) (fun a17 b18=>[bR b1 [v0,v1] 28]) (fun a17 b18=>[Sl aR v0 p0.1,S2 aK v1 z2 p0.2,S2 aR v3 z4 p1,Sl aR v5 p2]) (0:Int) (()) h SF (aP.refl _) (aA.refl _ _) ?_
    clear h
    intro k19 a17 b18 h
    unfold dB at h
    refine sqR<|qkLss rfl<|dtN<|aO ?_
    refine eR h rfl (fun _ h=>?_) fun _ h=>?_
    ·refine aW<|aI<|aO<|aU<|sqR<|qkMove rfl ?_
     have⟨hc21,h⟩:=aN h
     refine aB (bE rfl rfl (aC.el (aC.fact 2 rfl) hc13.1 hc13.2) rfl rfl hc21) rfl<|aB (bZ rfl (aC.el (aC.fact 2 rfl) hc13.1 hc13.2) rfl rfl rfl dU hc21) rfl<|qkAsg rfl<|qkAsg rfl<|dtN<|aO ?_
     refine JR.start [0,0,3,7,0,31] 5 mixedOrders (by decide +kernel) ?_
     refine JR.open (by exact rfl) ?_
     refine jkMove rfl<|jkMove rfl ?_
     have⟨hc22,h⟩:=aN h
     refine aT rfl .nil (cW.cons (List.mem_of_getElem? (i:=3) rfl) .nil) (bE rfl rfl (aC.fact 0 rfl) rfl rfl hc22) aF.z<|aT rfl .nil (cW.cons (List.mem_of_getElem? (i:=3) rfl) .nil) (bZ rfl (aC.fact 0 rfl) rfl rfl rfl dU hc22) aF.z<|aT rfl .nil .nil (tB rfl) aF.z<|bS 5 rfl rfl<|qkAsg rfl<|dtN<|aO<|bL (A:=Int×Int) (B:=Unit) (fun a25=>gS p1 a7 a17 (bK (dB p0 p1 p2 a7 (bK (cP fuel p0 p1 p2) k9)) k19) a25=some r) (fun a25 b26=>[(2,v5),(3,Value.pointer (some ⟨b1,0,none⟩)),(7,Value.int .i64 (a7)),(10,Value.int .i64 (at' (at' p1 a7) a17)),(11,Value.int .i64 (a25.1)),(12,Value.int .i64 (a25.2)),(19,v3),(20,Value.int .i64 (List.length p1:Int)),(21,Value.int .i64 (a7)),(31,(at' z4 a7).1),(32,Value.int .i64 (List.length (at' p1 a7):Int)),(33,Value.int .i64 (a17))]) (fun a25 b26=>[bR b1 [v0,v1] 28]) (fun a25 b26=>[Sl aR v0 p0.1,S2 aK v1 z2 p0.2,S2 aR v3 z4 p1,Sl aR v5 p2]) ?_ ?_
     ·refine sqR<|qkMove rfl<|qkEql rfl<|dtN ?_
      refine eR h rfl (fun _ h=>?_) fun _ h=>?_
      ·refine JR.start [0,1,0,7,15,31,63,0,255] 8 mixedOrders (by decide +kernel) ?_
       refine JR.open (by exact rfl) ?_
       refine jkFld rfl<|jkLd 0 rfl<|jkMove rfl ?_
       have⟨hc33,h⟩:=aN h
       refine aT rfl .nil (cW.cons (List.mem_of_getElem? (i:=1) rfl) .nil) (cS rfl rfl (aC.fact 0 rfl) rfl rfl hc33) aF.z<|aT rfl .nil (cW.cons (List.mem_of_getElem? (i:=1) rfl) .nil) (cT rfl (aC.fact 0 rfl) rfl rfl hc33) aF.z<|aT rfl .nil (cW.cons (List.mem_of_getElem? (i:=1) rfl) .nil) (cB rfl (aC.el (aC.fact 0 rfl) hc33.1 hc33.2) rfl) aF.z<|aT rfl .nil .nil (pV rfl rfl) aF.z<|aT rfl .nil .nil (tB rfl) aF.z<|bS 8 rfl rfl<|qkAsg rfl<|dtN ?_
       exact jA ((-1:Int),(wI .i64 ((List.length (at' p0.2 a7):Int) - (1:Int)))) (()) h SF rfl
      refine aW<|aI ?_
      exact jA ((0:Int),(at' p2 a17)) (()) h SF rfl
     clear h
     intro a25 b26 h
     unfold gS at h
     refine aO<|bL (A:=Bool) (B:=Unit) (fun a28=>jJ a17 (bK (dB p0 p1 p2 a7 (bK (cP fuel p0 p1 p2) k9)) k19) a28=some r) (fun a28 b29=>[(2,v5),(3,Value.pointer (some ⟨b1,0,none⟩)),(7,Value.int .i64 (a7)),(19,v3),(20,Value.int .i64 (List.length p1:Int)),(21,Value.int .i64 (a7)),(31,(at' z4 a7).1),(32,Value.int .i64 (List.length (at' p1 a7):Int)),(33,Value.int .i64 (a17)),(58,Value.bool (a28))]) (fun a28 b29=>[bR b1 [v0,v1] 28]) (fun a28 b29=>[Sl aR v0 p0.1,S2 aK v1 z2 p0.2,S2 aR v3 z4 p1,Sl aR v5 p2]) ?_ ?_
     ·refine aS<|qkMove rfl<|qkMove rfl<|qkLss rfl<|qkMove rfl ?_
      refine Bg h rfl (fun _ h=>?_) fun _ h=>?_
      ·refine gdSkip rfl<|gdSkip rfl<|gdSkip rfl<|aB (cI rfl rfl) rfl<|dtN ?_
       exact jA (true) (()) h SF rfl
      refine gyMove rfl<|gyMove rfl<|a_ rfl (tC rfl rfl) rfl<|aB (cX rfl rfl) rfl<|dtN ?_
      exact jA (decide (a25.2<(at' (at' p1 a7) a17))) (()) h SF rfl
     clear h
     intro a28 b29 h
     unfold jJ at h
     refine zN h rfl (fun _ h=>?_) fun _ h=>?_
     ·refine sqR<|qkAsg rfl<|dtN<|aX<|bP<|aM<|aM<|bP<|bP<|aM<|aM<|bP<|aM ?_
      cases h
      exact u_ rfl
     refine aW<|bV<|aI<|aS<|qkAdd rfl<|qkMove rfl<|dtN ?_
     exact xG (wI .i64 (a17+(1:Int))) (()) h SF rfl
    refine cE<|aY<|aY<|dJ<|bV<|aI ?_
    exact jA (()) (()) h SF rfl
   clear h
   intro a11 b12 h
   unfold lX at h
   refine aS<|qkAdd rfl<|qkMove rfl<|dtN ?_
   exact xG (wI .i64 (a7+(1:Int))) (()) h SF rfl
  refine cE<|aY<|aY<|dJ<|aI ?_
  exact cM (()) (()) h SF .nil (aA.refl _ _)
 clear h
 intro a3 b4 h
 unfold lW at h
 refine sqR<|qkAsg rfl<|dtN<|aX ?_
 cases h
 exact lN rfl
end Go.Proofs.YtigggfnchamobaaGreatDoor
end
section
namespace Go.Proofs.YtigggfnchamobaaGreatDoor
open Go.Sx
def pJ  (a12:Unit):Option (Bool):=
 some (true)
def pL (a23:Int) (ag22:(Int)->Option (Bool)) (a27:Unit):Option (Bool):=
 ag22 (wI .i64 (a23+(1:Int)))
def lZ (a32:Int) (ag31:(Int)->Option (Bool)) (a40:Bool):Option (Bool):=
 if a40=true then(some (false))else(ag31 (wI .i64 (a32+(1:Int))))
def fC (p0:List (Int)×(List (List (Int×Int)))) (p1:List (List (Int))) (p2:Int) (a23:Int) (ag22:(Int)->Option (Bool)) (a32:Int) (ag31:(Int)->Option (Bool)):Option (Bool):=
 if a32<(List.length (at' p0.2 a23):Int)then(ck (0<=a32∧a32<(List.length (at' p0.2 a23):Int)) (ck (0<=a23) (if(dD .u32 (pH .u32 p2 a23) (1:Int))=(0:Int)then(ck (0<=a23∧a23<(List.length p1:Int)) (ck (0<=(0:Int)∧(0:Int)<(List.length (at' p1 a23):Int)) (ck (0<=((at' (at' p0.2 a23) a32).1)∧((at' (at' p0.2 a23) a32).1)<(List.length p1:Int)) (ck (0<=(0:Int)∧(0:Int)<(List.length (at' p1 ((at' (at' p0.2 a23) a32).1)):Int)) (lZ a32 ag31 (decide ((at' (at' p1 a23) (0:Int))=(at' (at' p1 ((at' (at' p0.2 a23) a32).1)) (0:Int)))))))))else(lZ a32 ag31 (false)))))else(pL a23 ag22 (()))
def eG (fuel:Nat) (p0:List (Int)×(List (List (Int×Int)))) (p1:List (List (Int))) (p2:Int) (a23:Int) (ag22:(Int)->Option (Bool)):Option (Bool):=
 if a23<(List.length p0.2:Int)then(ck (0<=a23∧a23<(List.length p0.2:Int)) (bK (fC p0 p1 p2 a23 ag22) fuel (0:Int)))else(pJ  (()))
def pK (fuel:Nat) (p0:List (Int)×(List (List (Int×Int)))) (p1:List (List (Int))) (p2:Int) (a15:Unit):Option (Bool):=
 bK (eG fuel p0 p1 p2) fuel (0:Int)
def lY (fuel:Nat) (p0:List (Int)×(List (List (Int×Int)))) (p1:List (List (Int))) (p2:Int) (a8:Bool):Option (Bool):=
 if a8=true then(some (false))else(pK fuel p0 p1 p2 (()))
def gX (fuel:Nat) (p0:List (Int)×(List (List (Int×Int)))) (p1:List (List (Int))) (p2:Int):Option (Bool):=
 Option.bind (eV fuel ((p0.1,p0.2))) fun r50=>(if(!r50)=true then(lY fuel p0 p1 p2 (true))else(Option.bind (fX fuel ((p0.1,p0.2)) p1 ([(List.length p0.1:Int)])) fun r55=>(lY fuel p0 p1 p2 ((!r55)))))
theorem OS:aV Tryz.prog 22:=Tryz.call22
theorem yB (fuel:Nat) {p0:List (Int)×(List (List (Int×Int)))} {p1:List (List (Int))} {p2:Int} (v0:Value)  (v1:Value)  (z2:List (Value×List (Int×Int)))  (v3:Value)  (z4:List (Value×List (Int))) (r:Bool) (h:gX fuel p0 p1 p2=some r):
  bA Tryz.prog 22 #[Value.agg #[v0,v1],v3,Value.int .u32 (p2)] [Sl aR v0 p0.1,S2 aK v1 z2 p0.2,S2 aR v3 z4 p1] (fun x:Unit=>Value.bool (r)) (fun x l=>l) (fun _ l=>l):=by
 refine bA.of (vs:=[Value.agg #[v0,v1],v3,Value.int .u32 (p2)]) Tryz.func22 rfl Tryz.ntmps22 rfl fun c=>?_
 unfold gX at h
 refine jR BY<|sqR<|aL (aQ.box (cs:=[v0,v1]) rfl rfl) rfl fun b2=>b_ (Know.one (aC.sl (aC.fact 2 rfl))) fun ho4=>?_
 refine aL (aQ.box (cs:=[v3]) rfl (by rw[jB ho4])) rfl fun b3=>?_
 refine aL (aQ.box (cs:=[Value.int .u32 (p2)]) rfl rfl) rfl fun b5=>aL (aQ.alloc (cs:=[Value.bool (false)]) rfl rfl) rfl fun b6=>dtN<|aO<|aO<|xE (A:=Bool) (B:=Unit) (fun a8 b9=>⟨47,vK ([]:List Nat)⟩) (fun a8=>lY fuel p0 p1 p2 a8=some r) (fun a8 b9=>[(3,Value.pointer (some ⟨b2,0,none⟩)),(4,Value.pointer (some ⟨b3,0,none⟩)),(5,Value.pointer (some ⟨b5,0,none⟩)),(6,Value.pointer (some ⟨b6,0,none⟩)),(21,Value.bool (a8))]) (fun a8 b9=>[bR b6 [Value.bool (false)] 4,bR b5 [Value.int .u32 (p2)] 25,bR b3 [v3] 36,bR b2 [v0,v1] 28,zK ([]:List Nat)]) (fun a8 b9=>[Sl aR v0 p0.1,S2 aK v1 z2 p0.2,S2 aR v3 z4 p1]) ?_ ?_
 ·refine aS<|qkLdA 3 rfl ?_
  have⟨r50,hr51,h⟩:=fJ h
  refine aL (aJ Hs (uR fuel v0 v1 z2 r50 hr51) rfl (aA.cons (aC.fact 0 rfl) (aA.cons (aC.fact 1 rfl) .nil)) (fun _ _=>rfl)) rfl fun x52=>aB (qR rfl) rfl<|qkMove rfl ?_
  refine BT (by exact rfl) (by exact rfl) (fun hp53=>?_) (fun hp53=>?_)
  ·have h:=Q_ hp53 h
   refine gdSkip rfl<|gdSkip rfl<|gdSkip rfl<|gdSkip rfl<|gdSkip rfl<|gdSkip rfl<|gdSkip rfl<|gdSkip rfl<|aB (cI rfl rfl) rfl<|dtN ?_
   exact nX (true) (()) rfl h SF (aP.refl _) (aA.refl _ _)
  have h:=PO hp53 h
  refine a_ rfl (mG 3 rfl rfl rfl rfl) rfl<|a_ rfl (eJ 2 rfl rfl rfl rfl rfl) rfl<|a_ rfl (eF rfl rfl rfl rfl rfl) rfl<|a_ rfl (eJ 3 rfl rfl rfl rfl rfl) rfl<|a_ rfl (cB rfl (aC.fact 0 rfl) rfl) rfl<|rM rfl (cJ (e:=cA) ([(List.length p0.1:Int)]) [(0,Value.int .i64 (List.length p0.1:Int))] rfl rfl rfl rfl (nP (Value.int .i64 (List.length p0.1:Int)) rfl) rfl rfl rfl) rfl fun u54=>?_
  have⟨r55,hr56,h⟩:=fJ h
  refine rM rfl (aJ OV (vM fuel v0 v1 z2 v3 z4 u54 r55 hr56) rfl (aA.cons (aC.fact 0 rfl) (aA.cons (aC.fact 1 rfl) (aA.cons (aC.fact 2 rfl) (aA.cons (aZ (aC.res 0 rfl) cR) .nil)))) (fun _ _=>rfl)) rfl fun x57=>a_ rfl (qR rfl) rfl<|aB (cX rfl rfl) rfl<|dtN ?_
  exact nX ((!r55)) (()) rfl h SF (aP.ix [1,2,3,4,5] rfl rfl) (aA.refl _ _)
 clear h
 intro a8 b9 h
 unfold lY at h
 refine zN h rfl (fun _ h=>?_) fun _ h=>?_
 ·refine sqR<|fH 0 rfl rfl rfl rfl rfl rfl<|dtN<|aX<|aM<|iI (i:=4) (Ds:=([]:List Nat)) (.inl rfl) rfl ?_
  cases h
  exact fO (()) rfl rfl (z_ 0 rfl rfl rfl rfl) .nil aA.nil
 refine aW<|aI<|aO<|xE (A:=Unit) (B:=List Nat) (fun a12 b13=>⟨47,vK b13⟩) (fun a12=>pJ  a12=some r) (fun a12 b13=>[(6,Value.pointer (some ⟨b6,0,none⟩))]) (fun a12 b13=>[bR b6 [Value.bool (false)] 4,zK b13]) (fun a12 b13=>[Sl aR v0 p0.1,S2 aK v1 z2 p0.2,S2 aR v3 z4 p1]) ?_ ?_
 ·refine sqR<|qkLdA 3 rfl<|yH (A:=Unit) (B:=Nat) (vs:=[Value.agg #[v0,v1]]) (fun a15=>pK fuel p0 p1 p2 a15=some r) (fun a15 b16=>Value.func (.func 50) #[] #[Value.pointer (some ⟨b16,0,none⟩)]) (fun a15 b16=>[bR b16 [v0,v1] 28,bR b6 [Value.bool (false)] 4,bR b5 [Value.int .u32 (p2)] 25,bR b3 [v3] 36,zK ([]:List Nat)]) (fun a15 b16=>[Sl aR v0 p0.1,S2 aK v1 z2 p0.2,S2 aR v3 z4 p1]) (tV.fn (show aV Tryz.prog 35 from Tryz.call35) rfl) Tryz.func35 rfl Tryz.ntmps35 rfl rfl ?_ ?_
  ·refine sqR<|aL (aQ.box (cs:=[v0,v1]) rfl rfl) rfl fun b49=>qkAsg rfl<|dtN<|sqR<|aB (uD (cs:=[.tmp 1]) (vs:=[Value.pointer (some ⟨b49,0,none⟩)]) rfl) rfl<|qkAsg rfl<|dtN<|aX ?_
   exact vA (()) (b49) h (.inl rfl) (CR.r1 rfl (RV.tmp rfl)) rfl (aP.ix [0,1,2,3,5] rfl rfl) (aA.refl _ _)
  clear h
  intro a15 b16 h
  unfold pK at h
  refine dtN<|aU<|vN (i:=4) (cs:=[Value.pointer (some ⟨b16,0,none⟩)]) ([]:List Nat) rfl (show aV Tryz.prog 50 from Tryz.call50) rfl Tryz.func50 rfl Tryz.ntmps50 rfl fun Mf D18 R19 hR20=>sqR<|qkFld rfl<|qkLd 1 rfl<|aB (jX rfl (aC.fact 1 rfl) rfl) rfl<|qkMove rfl<|dtN<|aU<|bY (A:=Int) (B:=Unit) (eG fuel p0 p1 p2) (fun a23 b24=>[(0,mL Mf),(8,v1),(9,Value.int .i64 (List.length p0.2:Int)),(10,Value.int .i64 (a23))]) (fun a23 b24=>[Lp Mf R19 LoopState.ready none,bR b16 [v0,v1] 28,bR b6 [Value.bool (false)] 4,bR b5 [Value.int .u32 (p2)] 25,bR b3 [v3] 36,zK (List.cons D18 ([]:List Nat))]) (fun a23 b24=>[Sl aR v0 p0.1,S2 aK v1 z2 p0.2,S2 aR v3 z4 p1]) (0:Int) (()) h SF (aP.refl _) (aA.refl _ _) ?_
  clear h
  intro k25 a23 b24 h
  unfold eG at h
  refine sqR<|qkLss rfl<|dtN<|aO ?_
  refine eR h rfl (fun _ h=>?_) fun _ h=>?_
  ·refine aW<|aI<|aO<|bL (A:=Unit) (B:=Unit) (fun a27=>pL a23 (bK (eG fuel p0 p1 p2) k25) a27=some r) (fun a27 b28=>[(0,mL Mf),(8,v1),(9,Value.int .i64 (List.length p0.2:Int)),(10,Value.int .i64 (a23))]) (fun a27 b28=>[Lp Mf R19 LoopState.ready none,bR b16 [v0,v1] 28,bR b6 [Value.bool (false)] 4,bR b5 [Value.int .u32 (p2)] 25,bR b3 [v3] 36,zK (List.cons D18 ([]:List Nat))]) (fun a27 b28=>[Sl aR v0 p0.1,S2 aK v1 z2 p0.2,S2 aR v3 z4 p1]) ?_ ?_
   ·refine aU<|sqR<|qkMove rfl ?_
    have⟨hc29,h⟩:=aN h
    refine aB (cS rfl rfl (aC.fact 1 rfl) rfl rfl hc29) rfl<|aB (cT rfl (aC.fact 1 rfl) rfl rfl hc29) rfl<|qkAsg rfl<|qkAsg rfl<|dtN<|sqR<|qkMove rfl<|aB (cB rfl (aC.el (aC.fact 1 rfl) hc29.1 hc29.2) rfl) rfl<|qkMove rfl<|dtN<|aU<|bY (A:=Int) (B:=Unit) (fC p0 p1 p2 a23 (bK (eG fuel p0 p1 p2) k25)) (fun a32 b33=>[(0,mL Mf),(3,Value.int .i64 (a23)),(8,v1),(9,Value.int .i64 (List.length p0.2:Int)),(10,Value.int .i64 (a23)),(15,(at' z2 a23).1),(16,Value.int .i64 (List.length (at' p0.2 a23):Int)),(17,Value.int .i64 (a32))]) (fun a32 b33=>[Lp Mf R19 LoopState.ready none,bR b16 [v0,v1] 28,bR b6 [Value.bool (false)] 4,bR b5 [Value.int .u32 (p2)] 25,bR b3 [v3] 36,zK (List.cons D18 ([]:List Nat))]) (fun a32 b33=>[Sl aR v0 p0.1,S2 aK v1 z2 p0.2,S2 aR v3 z4 p1]) (0:Int) (()) h SF (aP.refl _) (aA.refl _ _) ?_
    clear h
    intro k34 a32 b33 h
    unfold fC at h
    refine sqR<|qkLss rfl<|dtN<|aO ?_
    refine eR h rfl (fun _ h=>?_) fun _ h=>?_
    ·refine aW<|aI<|aO<|aU<|sqR ?_
     have⟨hc36,h⟩:=aN h
     refine aB (bE rfl rfl (aC.el (aC.fact 1 rfl) hc29.1 hc29.2) rfl rfl hc36) rfl<|aB (gM (cs:=[Value.int .i64 ((at' (at' p0.2 a23) a32).1),Value.int .i64 ((at' (at' p0.2 a23) a32).2)]) rfl (aC.el (aC.fact 1 rfl) hc29.1 hc29.2) bO rfl rfl rfl rfl hc36) rfl<|aL (aQ.alloc (cs:=[Value.int .i64 (0:Int),Value.int .i64 (0:Int)]) rfl rfl) rfl fun b37=>bM 0 (vs:=[Value.int .i64 ((at' (at' p0.2 a23) a32).1),Value.int .i64 ((at' (at' p0.2 a23) a32).2)]) rfl rfl rfl rfl rfl rfl<|dtN<|sqR<|qkMove rfl<|qkMove rfl<|qkLdA 0 rfl<|BU (us:=[Value.int .i64 (a23),Value.agg #[Value.int .i64 ((at' (at' p0.2 a23) a32).1),Value.int .i64 ((at' (at' p0.2 a23) a32).2)]]) (i:=1) hR20 rfl rfl rfl rfl rfl rfl<|sqR<|qkAsg rfl<|dtN<|aS<|aL (aQ.alloc (cs:=[Value.int .i64 (0:Int),Value.int .i64 (0:Int)]) rfl rfl) rfl fun b38=>bM 0 (vs:=[Value.int .i64 ((at' (at' p0.2 a23) a32).1),Value.int .i64 ((at' (at' p0.2 a23) a32).2)]) rfl rfl rfl rfl rfl rfl<|dtN<|DV (i:=2) rfl<|aU<|aO<|bL (A:=Bool) (B:=Unit) (fun a40=>lZ a32 (bK (fC p0 p1 p2 a23 (bK (eG fuel p0 p1 p2) k25)) k34) a40=some r) (fun a40 b41=>[(6,Value.pointer (some ⟨b6,0,none⟩)),(46,Value.bool (a40))]) (fun a40 b41=>[Lp Mf R19 LoopState.busy none,bR b16 [v0,v1] 28,bR b6 [Value.bool (false)] 4,bR b5 [Value.int .u32 (p2)] 25,bR b3 [v3] 36,zK (List.cons D18 ([]:List Nat))]) (fun a40 b41=>[Sl aR v0 p0.1,S2 aK v1 z2 p0.2,S2 aR v3 z4 p1]) ?_ ?_
     ·refine JR.start [0,0,3,7,15,31,63,63,255,511,1023,2047,63,63,8255,28735,61503,127039,258111,524287,1048575] 19 mixedOrders (by decide +kernel) ?_
      refine JR.open (by exact rfl) ?_
      refine jkLd 5 rfl<|jkMove rfl ?_
      have⟨hc43,h⟩:=aN h
      refine aT rfl .nil .nil (Bd rfl rfl hc43) aF.z<|aT rfl .nil .nil (pU rfl rfl) aF.z<|aT rfl .nil .nil (IK rfl rfl) aF.z<|jkMove rfl ?_
      refine MW (by exact rfl) (by exact rfl) (by exact rfl) (fun hp44=>?_) (fun hp44=>?_)
      ·have h:=Q_ hp44 h
       refine t_ rfl (aP.cons 6 rfl .nil) .nil (eJ 0 rfl rfl rfl rfl rfl) aF.z<|t_ rfl .nil .nil (lP rfl) aF.z ?_
       have⟨hc45,h⟩:=aN h
       refine t_ rfl .nil (cW.cons (List.mem_of_getElem? (i:=2) rfl) .nil) (cS rfl rfl (aC.fact 0 rfl) rfl rfl hc45) aF.z<|t_ rfl .nil (cW.cons (List.mem_of_getElem? (i:=2) rfl) .nil) (cT rfl (aC.fact 0 rfl) rfl rfl hc45) aF.z ?_
       have⟨hc46,h⟩:=aN h
       refine t_ rfl .nil (cW.cons (List.mem_of_getElem? (i:=2) rfl) .nil) (bE rfl rfl (aC.el (aC.fact 0 rfl) hc45.1 hc45.2) rfl rfl hc46) aF.z<|t_ rfl .nil (cW.cons (List.mem_of_getElem? (i:=2) rfl) .nil) (bZ rfl (aC.el (aC.fact 0 rfl) hc45.1 hc45.2) rfl rfl rfl dU hc46) aF.z<|t_ rfl (aP.cons 6 rfl .nil) .nil (eJ 0 rfl rfl rfl rfl rfl) aF.z<|t_ rfl .nil .nil (eF rfl rfl rfl rfl rfl) aF.z<|t_ rfl (aP.cons 0 rfl .nil) .nil (eJ 0 rfl rfl rfl rfl rfl) aF.z ?_
       have⟨hc47,h⟩:=aN h
       refine t_ rfl .nil (cW.cons (List.mem_of_getElem? (i:=2) rfl) .nil) (cS rfl rfl (aC.fact 0 rfl) rfl rfl hc47) aF.z<|t_ rfl .nil (cW.cons (List.mem_of_getElem? (i:=2) rfl) .nil) (cT rfl (aC.fact 0 rfl) rfl rfl hc47) aF.z ?_
       have⟨hc48,h⟩:=aN h
       refine t_ rfl .nil (cW.cons (List.mem_of_getElem? (i:=2) rfl) .nil) (bE rfl rfl (aC.el (aC.fact 0 rfl) hc47.1 hc47.2) rfl rfl hc48) aF.z<|t_ rfl .nil (cW.cons (List.mem_of_getElem? (i:=2) rfl) .nil) (bZ rfl (aC.el (aC.fact 0 rfl) hc47.1 hc47.2) rfl rfl rfl dU hc48) aF.z<|bS 19 rfl rfl<|a_ rfl (IK rfl rfl) rfl<|aB (cI rfl rfl) rfl<|dtN ?_
       exact cM (decide ((at' (at' p1 a23) (0:Int))=(at' (at' p1 ((at' (at' p0.2 a23) a32).1)) (0:Int)))) (()) h SF (aP.ix [2,3,4,5,6,7] rfl rfl) (aA.refl _ _)
      have h:=WG hp44 h
      refine kN rfl rfl rfl rfl<|kN rfl rfl rfl rfl<|kN rfl rfl rfl rfl<|kN rfl rfl rfl rfl<|kN rfl rfl rfl rfl<|kN rfl rfl rfl rfl<|kN rfl rfl rfl rfl<|kN rfl rfl rfl rfl<|kN rfl rfl rfl rfl<|kN rfl rfl rfl rfl<|kN rfl rfl rfl rfl<|kN rfl rfl rfl rfl<|kN rfl rfl rfl rfl<|bS 19 rfl rfl<|gdSkip rfl<|aB (cX rfl rfl) rfl<|dtN ?_
      exact cM (false) (()) h SF (aP.ix [2,3,4,5,6,7] rfl rfl) (aA.refl _ _)
     clear h
     intro a40 b41 h
     unfold lZ at h
     refine zN h rfl (fun _ h=>?_) fun _ h=>?_
     ·refine sqR<|fH 2 rfl rfl rfl rfl rfl rfl<|dtN<|aX<|bP<|Io (i:=0) rfl<|aB (qR rfl) rfl<|dtN<|Hb rfl<|aX<|bP<|aM<|aM<|bP<|bP<|aM<|aM<|bP<|Lv (i:=0) (.inl rfl) rfl (CR.r0 rfl)<|bP<|aM<|iI (i:=5) (Ds:=(List.cons D18 ([]:List Nat))) (.inl rfl) rfl ?_
      cases h
      exact fO (()) rfl rfl (z_ 2 rfl rfl rfl rfl) .nil aA.nil
     refine aW<|bV<|xN (i:=0) rfl<|aB (qR rfl) rfl<|dtN<|yG rfl<|aW<|bV<|aI<|aS<|qkAdd rfl<|qkMove rfl<|dtN ?_
     exact xG (wI .i64 (a32+(1:Int))) (()) h SF rfl
    refine cE<|aY<|aY<|dJ<|bV<|aI ?_
    exact jA (()) (()) h SF rfl
   clear h
   intro a27 b28 h
   unfold pL at h
   refine aS<|qkAdd rfl<|qkMove rfl<|dtN ?_
   exact xG (wI .i64 (a23+(1:Int))) (()) h SF rfl
  refine cE<|aY<|aY<|dJ<|He (i:=0) (.inr rfl) rfl (CR.r0 rfl)<|bV<|aI ?_
  exact nX (()) (List.cons D18 ([]:List Nat)) rfl h SF (aP.ix [2,5] rfl rfl) (aA.refl _ _)
 clear h
 intro a12 b13 h
 unfold pJ at h
 refine sqR<|fH 0 rfl rfl rfl rfl rfl rfl<|dtN<|aX<|iI (i:=1) (Ds:=(b13)) (.inl rfl) rfl ?_
 cases h
 exact fO (()) rfl rfl (z_ 0 rfl rfl rfl rfl) .nil aA.nil
end Go.Proofs.YtigggfnchamobaaGreatDoor
end
section
namespace Go.Proofs.YtigggfnchamobaaGreatDoor
open Go.Sx
def vF  (a10:List (Int)):Option (List (Int)):=
 some (a10)
def rT (a29:Int×List (Int)×List (Int)) (ag28:(Int×List (Int)×List (Int))->Option (List (Int))) (a36:List (Int)×List (Int)):Option (List (Int)):=
 ag28 ((wI .i64 (a29.1+(1:Int))),a36.1,a36.2)
def rU (p0:List (Int)×(List (List (Int×Int)))) (a16:List (Int)×List (Int)) (ag15:(List (Int)×List (Int))->Option (List (Int))) (a29:Int×List (Int)×List (Int)) (ag28:(Int×List (Int)×List (Int))->Option (List (Int))):Option (List (Int)):=
 if a29.1<(List.length (at' p0.2 (at' a16.1 (0:Int))):Int)then(ck (0<=a29.1∧a29.1<(List.length (at' p0.2 (at' a16.1 (0:Int))):Int)) (ck (0<=((at' (at' p0.2 (at' a16.1 (0:Int))) a29.1).1)∧((at' (at' p0.2 (at' a16.1 (0:Int))) a29.1).1)<(List.length a29.2.2:Int)) (if(at' a29.2.2 ((at' (at' p0.2 (at' a16.1 (0:Int))) a29.1).1))<(0:Int)then(ck (0<=(at' a16.1 (0:Int))∧(at' a16.1 (0:Int))<(List.length a29.2.2:Int)) (ck (0<=((at' (at' p0.2 (at' a16.1 (0:Int))) a29.1).1)∧((at' (at' p0.2 (at' a16.1 (0:Int))) a29.1).1)<(List.length a29.2.2:Int)) (ck ((List.length a29.2.1:Int)+(List.length ([((at' (at' p0.2 (at' a16.1 (0:Int))) a29.1).1)]):Int)<=1099511627) (rT a29 ag28 ((a29.2.1++([((at' (at' p0.2 (at' a16.1 (0:Int))) a29.1).1)])),(List.set a29.2.2 (Int.toNat ((at' (at' p0.2 (at' a16.1 (0:Int))) a29.1).1)) (wI .i64 ((at' a29.2.2 (at' a16.1 (0:Int)))+(1:Int)))))))))else(rT a29 ag28 (a29.2.1,a29.2.2)))))else(ag15 (a29.2.1,a29.2.2))
def oQ (fuel:Nat) (p0:List (Int)×(List (List (Int×Int)))) (a16:List (Int)×List (Int)) (ag15:(List (Int)×List (Int))->Option (List (Int))):Option (List (Int)):=
 if(0:Int)<(List.length a16.1:Int)then(ck (0<=(0:Int)∧(0:Int)<(List.length a16.1:Int)) (ck (0<=(1:Int)∧(1:Int)<=(List.length a16.1:Int)) (ck (0<=(at' a16.1 (0:Int))∧(at' a16.1 (0:Int))<(List.length p0.2:Int)) (bK (rU p0 a16 ag15) fuel ((0:Int),(List.drop (Int.toNat (1:Int)) a16.1),a16.2)))))else(vF  (a16.2))
def vE (fuel:Nat) (p0:List (Int)×(List (List (Int×Int)))) (p1:Int) (a5:List (Int)):Option (List (Int)):=
 ck (0<=p1∧p1<(List.length a5:Int)) (bK (oQ fuel p0) fuel (([p1]),(List.set a5 (Int.toNat p1) (0:Int))))
def vG (fuel:Nat) (p0:List (Int)×(List (List (Int×Int)))) (p1:Int) (a50:Int×List (Int)) (ag49:(Int×List (Int))->Option (List (Int))):Option (List (Int)):=
 if a50.1<(List.length (List.replicate (Int.toNat (List.length p0.2:Int)) (0:Int)):Int)then(ck (0<=a50.1∧a50.1<(List.length a50.2:Int)) (ag49 ((wI .i64 (a50.1+(1:Int))),(List.set a50.2 (Int.toNat a50.1) (-1:Int)))))else(vE fuel p0 p1 (a50.2))
def wD (fuel:Nat) (p0:List (Int)×(List (List (Int×Int)))) (p1:Int):Option (List (Int)):=
 ck (0<=(List.length p0.2:Int)∧(List.length p0.2:Int)<=1099511627) (bK (vG fuel p0 p1) fuel ((0:Int),(List.replicate (Int.toNat (List.length p0.2:Int)) (0:Int))))
theorem Uy:aV Tryz.prog 77:=Tryz.call77
theorem Fw (fuel:Nat) {p0:List (Int)×(List (List (Int×Int)))} {p1:Int} (v0:Value)  (v1:Value)  (z2:List (Value×List (Int×Int))) (r:List (Int)) (h:wD fuel p0 p1=some r):
  bA Tryz.prog 77 #[Value.agg #[v0,v1],Value.int .i64 (p1)] [Sl aR v0 p0.1,S2 aK v1 z2 p0.2] (fun x:Value=>x) (fun x l=>Ar cA x r::l) (fun _ l=>l):=by
 refine bA.of (vs:=[Value.agg #[v0,v1],Value.int .i64 (p1)]) Tryz.func77 rfl Tryz.ntmps77 rfl fun c=>?_
 unfold wD at h
 refine sqR<|aL (aQ.box (cs:=[v0,v1]) rfl rfl) rfl fun b1=>qkAsg rfl<|dtN<|sqR<|qkFld rfl<|qkLd 0 rfl<|aB (jX rfl (aC.fact 1 rfl) rfl) rfl ?_
 have⟨hc2,h⟩:=aN h
 refine aL (nZ (e:=cA) (0:Int) rfl rfl rfl rfl hc2 rfl rfl rfl) rfl fun u3=>qkAsg rfl<|dtN<|aO<|bL (A:=List (Int)) (B:=Unit) (fun a5=>vE fuel p0 p1 a5=some r) (fun a5 b6=>[(1,Value.int .i64 (p1)),(2,Value.pointer (some ⟨b1,0,none⟩)),(5,u3)]) (fun a5 b6=>[Ar cA u3 a5,bR b1 [v0,v1] 28]) (fun a5 b6=>[Sl aR v0 p0.1,S2 aK v1 z2 p0.2]) ?_ ?_
 ·refine sqR<|qkMove rfl<|aB (cB rfl (aZ (aC.res 0 rfl) cR) rfl) rfl<|qkMove rfl<|dtN<|aU<|bY (A:=Int×List (Int)) (B:=Unit) (vG fuel p0 p1) (fun a50 b51=>[(1,Value.int .i64 (p1)),(2,Value.pointer (some ⟨b1,0,none⟩)),(5,u3),(16,Value.int .i64 (List.length (List.replicate (Int.toNat (List.length p0.2:Int)) (0:Int)):Int)),(17,Value.int .i64 (a50.1))]) (fun a50 b51=>[Ar cA u3 a50.2,bR b1 [v0,v1] 28]) (fun a50 b51=>[Sl aR v0 p0.1,S2 aK v1 z2 p0.2]) ((0:Int),(List.replicate (Int.toNat (List.length p0.2:Int)) (0:Int))) (()) h SF (aP.refl _) (aA.refl _ _) ?_
  clear h
  intro k52 a50 b51 h
  unfold vG at h
  refine sqR<|qkLss rfl<|dtN<|aO ?_
  refine eR h rfl (fun _ h=>?_) fun _ h=>?_
  ·refine aW<|aI<|aO<|aU<|sqR<|qkMove rfl<|qkAsg rfl<|dtN<|aS<|qkMove rfl<|qkMove rfl ?_
   have⟨hc54,h⟩:=aN h
   refine aB (bE rfl rfl (aZ (aC.res 0 rfl) cR) rfl rfl hc54) rfl<|s_ 0 (-1:Int) hc54 rfl rfl rfl rfl rfl rfl rfl<|eD<|bV<|aI<|aS<|qkAdd rfl<|qkMove rfl<|dtN ?_
   exact xG ((wI .i64 (a50.1+(1:Int))),(List.set a50.2 (Int.toNat a50.1) (-1:Int))) (()) h SF rfl
  refine cE<|aY<|aY<|dJ<|aI ?_
  exact jA (a50.2) (()) h SF rfl
 clear h
 intro a5 b6 h
 unfold vE at h
 refine sqR<|qkMove rfl<|qkMove rfl ?_
 have⟨hc7,h⟩:=aN h
 refine aB (bE rfl rfl (aZ (aC.res 0 rfl) cR) rfl rfl hc7) rfl<|s_ 0 (0:Int) hc7 rfl rfl rfl rfl rfl rfl rfl<|dtN<|sqR<|qkMove rfl<|aL (cJ (e:=cA) ([p1]) [(0,Value.int .i64 (p1))] rfl rfl rfl rfl (nP (Value.int .i64 (p1)) rfl) rfl rfl rfl) rfl fun u8=>qkAsg rfl<|dtN<|aO<|bL (A:=List (Int)) (B:=Unit) (fun a10=>vF  a10=some r) (fun a10 b11=>[(5,u3)]) (fun a10 b11=>[Ar cA u3 a10]) (fun a10 b11=>[Sl aR v0 p0.1,S2 aK v1 z2 p0.2]) ?_ ?_
 ·refine aU<|bY (A:=List (Int)×List (Int)) (B:=Value) (oQ fuel p0) (fun a16 b17=>[(2,Value.pointer (some ⟨b1,0,none⟩)),(5,u3),(7,b17)]) (fun a16 b17=>[Ar cA b17 a16.1,Ar cA u3 a16.2,bR b1 [v0,v1] 28]) (fun a16 b17=>[Sl aR v0 p0.1,S2 aK v1 z2 p0.2]) (([p1]),(List.set a5 (Int.toNat p1) (0:Int))) (u8) h SF (aP.refl _) (aA.refl _ _) ?_
  clear h
  intro k18 a16 b17 h
  unfold oQ at h
  refine aO<|sqR<|qkMove rfl<|aB (cB rfl (aZ (aC.res 0 rfl) cR) rfl) rfl<|aB (tC rfl rfl) rfl<|dtN ?_
  refine eR h rfl (fun _ h=>?_) fun _ h=>?_
  ·refine aW<|aI<|aU<|sqR<|qkMove rfl ?_
   have⟨hc20,h⟩:=aN h
   refine aB (bE rfl rfl (aZ (aC.res 0 rfl) cR) rfl rfl hc20) rfl<|aB (bZ rfl (aZ (aC.res 0 rfl) cR) rfl rfl rfl dU hc20) rfl<|qkAsg rfl<|dtN<|sqR<|qkMove rfl ?_
   have⟨hc21,h⟩:=aN h
   refine aL (Iq 0 hc21 rfl rfl rfl rfl rfl rfl) rfl fun u22=>qkAsg rfl<|dtN<|sqR<|qkFld rfl<|qkLd 2 rfl<|qkMove rfl ?_
   have⟨hc23,h⟩:=aN h
   refine aB (cS rfl rfl (aC.fact 1 rfl) rfl rfl hc23) rfl<|aB (cT rfl (aC.fact 1 rfl) rfl rfl hc23) rfl<|aB (cB rfl (aC.el (aC.fact 1 rfl) hc23.1 hc23.2) rfl) rfl<|qkMove rfl<|dtN<|aU<|bY (A:=Int×List (Int)×List (Int)) (B:=Value) (rU p0 a16 (bK (oQ fuel p0) k18)) (fun a29 b30=>[(2,Value.pointer (some ⟨b1,0,none⟩)),(5,u3),(7,b30),(8,Value.int .i64 (at' a16.1 (0:Int))),(41,(at' z2 (at' a16.1 (0:Int))).1),(42,Value.int .i64 (List.length (at' p0.2 (at' a16.1 (0:Int))):Int)),(43,Value.int .i64 (a29.1))]) (fun a29 b30=>[Ar cA b30 a29.2.1,Ar cA u3 a29.2.2,bR b1 [v0,v1] 28]) (fun a29 b30=>[Sl aR v0 p0.1,S2 aK v1 z2 p0.2]) ((0:Int),(List.drop (Int.toNat (1:Int)) a16.1),a16.2) (u22) h SF (aP.refl _) (aA.refl _ _) ?_
   clear h
   intro k31 a29 b30 h
   unfold rU at h
   refine sqR<|qkLss rfl<|dtN<|aO ?_
   refine eR h rfl (fun _ h=>?_) fun _ h=>?_
   ·refine aW<|aI<|aO<|bL (A:=List (Int)×List (Int)) (B:=Value) (fun a36=>rT a29 (bK (rU p0 a16 (bK (oQ fuel p0) k18)) k31) a36=some r) (fun a36 b37=>[(2,Value.pointer (some ⟨b1,0,none⟩)),(5,u3),(7,b37),(8,Value.int .i64 (at' a16.1 (0:Int))),(41,(at' z2 (at' a16.1 (0:Int))).1),(42,Value.int .i64 (List.length (at' p0.2 (at' a16.1 (0:Int))):Int)),(43,Value.int .i64 (a29.1))]) (fun a36 b37=>[Ar cA b37 a36.1,Ar cA u3 a36.2,bR b1 [v0,v1] 28]) (fun a36 b37=>[Sl aR v0 p0.1,S2 aK v1 z2 p0.2]) ?_ ?_
    ·refine aU<|sqR ?_
     have⟨hc38,h⟩:=aN h
     refine aB (bE rfl rfl (aC.el (aC.fact 1 rfl) hc23.1 hc23.2) rfl rfl hc38) rfl<|aB (gM (cs:=[Value.int .i64 ((at' (at' p0.2 (at' a16.1 (0:Int))) a29.1).1),Value.int .i64 ((at' (at' p0.2 (at' a16.1 (0:Int))) a29.1).2)]) rfl (aC.el (aC.fact 1 rfl) hc23.1 hc23.2) bO rfl rfl rfl rfl hc38) rfl<|aL (aQ.alloc (cs:=[Value.int .i64 (0:Int),Value.int .i64 (0:Int)]) rfl rfl) rfl fun b39=>bM 0 (vs:=[Value.int .i64 ((at' (at' p0.2 (at' a16.1 (0:Int))) a29.1).1),Value.int .i64 ((at' (at' p0.2 (at' a16.1 (0:Int))) a29.1).2)]) rfl rfl rfl rfl rfl rfl<|dtN<|sqR<|qkMove rfl<|qkFld rfl<|qkLd 0 rfl ?_
     have⟨hc40,h⟩:=aN h
     refine aB (bE rfl rfl (aZ (aC.res 2 rfl) cR) rfl rfl hc40) rfl<|aB (bZ rfl (aZ (aC.res 2 rfl) cR) rfl rfl rfl dU hc40) rfl<|qkLss rfl<|dtN ?_
     refine eR h rfl (fun _ h=>?_) fun _ h=>?_
     ·refine aO ?_
      refine JR.start [0,0,2,0,0,24,56,120,255,511] 8 mixedOrders (by decide +kernel) ?_
      refine JR.open (by exact rfl) ?_
      refine jkMove rfl<|jkFld rfl<|jkLd 0 rfl<|jkMove rfl<|jkMove rfl ?_
      have⟨hc42,h⟩:=aN h
      refine aT rfl (aP.cons 2 rfl .nil) .nil (bE rfl rfl (aZ (aC.res 0 rfl) cR) rfl rfl hc42) aF.z<|aT rfl (aP.cons 2 rfl .nil) .nil (bZ rfl (aZ (aC.res 0 rfl) cR) rfl rfl rfl dU hc42) aF.z<|aT rfl .nil .nil (pG rfl rfl) aF.z<|bS 8 rfl rfl ?_
      have⟨hc43,h⟩:=aN h
      refine aB (bE rfl rfl (aZ (aC.res 2 rfl) cR) rfl rfl hc43) rfl<|s_ 2 (wI .i64 ((at' a29.2.2 (at' a16.1 (0:Int)))+(1:Int))) hc43 rfl rfl rfl rfl rfl rfl rfl<|dtN<|aS<|qkMove rfl<|qkFld rfl<|qkLd 0 rfl<|aL (cJ (e:=cA) ([((at' (at' p0.2 (at' a16.1 (0:Int))) a29.1).1)]) [(0,Value.int .i64 ((at' (at' p0.2 (at' a16.1 (0:Int))) a29.1).1))] rfl rfl rfl rfl (nP (Value.int .i64 ((at' (at' p0.2 (at' a16.1 (0:Int))) a29.1).1)) rfl) rfl rfl rfl) rfl fun u44=>?_
      have⟨hc46,h⟩:=aN h
      refine aL (gH 2 cR rfl rfl rfl (aZ (aC.res 0 rfl) cR) rfl rfl rfl rfl hc46 rfl) rfl fun u45=>qkAsg rfl<|eD<|bV<|aI ?_
      exact cM ((a29.2.1++([((at' (at' p0.2 (at' a16.1 (0:Int))) a29.1).1)])),(List.set a29.2.2 (Int.toNat ((at' (at' p0.2 (at' a16.1 (0:Int))) a29.1).1)) (wI .i64 ((at' a29.2.2 (at' a16.1 (0:Int)))+(1:Int))))) (u45) h SF (aP.ix [2,3,4] rfl rfl) (aA.refl _ _)
     refine aW<|bV<|aI ?_
     exact cM (a29.2.1,a29.2.2) (b30) h SF (aP.ix [1,2,3] rfl rfl) (aA.refl _ _)
    clear h
    intro a36 b37 h
    unfold rT at h
    refine aS<|qkAdd rfl<|qkMove rfl<|dtN ?_
    exact xG ((wI .i64 (a29.1+(1:Int))),a36.1,a36.2) (b37) h SF rfl
   refine cE<|aY<|aY<|dJ<|bV<|aI ?_
   exact xG (a29.2.1,a29.2.2) (b30) h SF rfl
  refine cE<|aY<|aY<|dJ<|aI ?_
  exact cM (a16.2) (()) h SF (aP.ix [1] rfl rfl) (aA.refl _ _)
 clear h
 intro a10 b11 h
 unfold vF at h
 refine sqR<|qkMove rfl<|qkAsg rfl<|dtN<|aX ?_
 cases h
 exact fO (u3) rfl rfl (RV.tmp rfl) (aP.refl _) aA.nil
end Go.Proofs.YtigggfnchamobaaGreatDoor
end
section
namespace Go.Proofs.YtigggfnchamobaaGreatDoor
open Go.Sx
def sJ  (a6:Unit):Option (Bool):=
 some (true)
def sK (r8:List (Int)) (a13:Int) (ag12:(Int)->Option (Bool)):Option (Bool):=
 if a13<(List.length r8:Int)then(ck (0<=a13∧a13<(List.length r8:Int)) (if(at' r8 a13)<(0:Int)then(some (false))else(ag12 (wI .i64 (a13+(1:Int))))))else(sJ  (()))
def tP (fuel:Nat) (p0:List (Int)×(List (List (Int×Int)))):Option (Bool):=
 Option.bind (eV fuel ((p0.1,p0.2))) fun r2=>(if(!r2)=true then(some (false))else(Option.bind (wD fuel ((p0.1,p0.2)) (0:Int)) fun r8=>(bK (sK r8) fuel (0:Int))))
theorem Ut:aV Tryz.prog 49:=Tryz.call49
theorem CI (fuel:Nat) {p0:List (Int)×(List (List (Int×Int)))} (v0:Value)  (v1:Value)  (z2:List (Value×List (Int×Int))) (r:Bool) (h:tP fuel p0=some r):
  bA Tryz.prog 49 #[Value.agg #[v0,v1]] [Sl aR v0 p0.1,S2 aK v1 z2 p0.2] (fun x:Unit=>Value.bool (r)) (fun x l=>l) (fun _ l=>l):=by
 refine bA.of (vs:=[Value.agg #[v0,v1]]) Tryz.func49 rfl Tryz.ntmps49 rfl fun c=>?_
 unfold tP at h
 refine sqR<|aL (aQ.box (cs:=[v0,v1]) rfl rfl) rfl fun b1=>qkAsg rfl<|dtN<|aO<|sqR<|qkLdA 0 rfl ?_
 have⟨r2,hr3,h⟩:=fJ h
 refine aL (aJ Hs (uR fuel v0 v1 z2 r2 hr3) rfl (aA.cons (aC.fact 0 rfl) (aA.cons (aC.fact 1 rfl) .nil)) (fun _ _=>rfl)) rfl fun x4=>aB (qR rfl) rfl<|dtN ?_
 refine zN h rfl (fun _ h=>?_) fun _ h=>?_
 ·refine sqR<|qkAsg rfl<|dtN<|aX<|aM ?_
  cases h
  exact u_ rfl
 refine aW<|aI<|aO<|bL (A:=Unit) (B:=Unit) (fun a6=>sJ  a6=some r) (fun a6 b7=>[]) (fun a6 b7=>[]) (fun a6 b7=>[Sl aR v0 p0.1,S2 aK v1 z2 p0.2]) ?_ ?_
 ·refine sqR<|qkLdA 0 rfl ?_
  have⟨r8,hr9,h⟩:=fJ h
  refine aL (aJ Uy (Fw fuel v0 v1 z2 r8 hr9) rfl (aA.cons (aC.fact 0 rfl) (aA.cons (aC.fact 1 rfl) .nil)) (fun _ _=>rfl)) rfl fun x10=>aB (cB rfl (aZ (aC.res 0 rfl) cR) rfl) rfl<|qkMove rfl<|dtN<|aU<|bY (A:=Int) (B:=Unit) (sK r8) (fun a13 b14=>[(9,x10),(10,Value.int .i64 (List.length r8:Int)),(11,Value.int .i64 (a13))]) (fun a13 b14=>[Ar cA x10 r8]) (fun a13 b14=>[Sl aR v0 p0.1,S2 aK v1 z2 p0.2]) (0:Int) (()) h SF (aP.ix [0] rfl rfl) (aA.refl _ _) ?_
  clear h
  intro k15 a13 b14 h
  unfold sK at h
  refine sqR<|qkLss rfl<|dtN<|aO ?_
  refine eR h rfl (fun _ h=>?_) fun _ h=>?_
  ·refine aW<|aI<|aO<|aU<|sqR ?_
   have⟨hc17,h⟩:=aN h
   refine aB (bE rfl rfl (aZ (aC.res 0 rfl) cR) rfl rfl hc17) rfl<|aB (bZ rfl (aZ (aC.res 0 rfl) cR) rfl rfl rfl dU hc17) rfl<|qkAsg rfl<|dtN<|sqR<|qkMove rfl<|qkLss rfl<|dtN ?_
   refine eR h rfl (fun _ h=>?_) fun _ h=>?_
   ·refine sqR<|qkAsg rfl<|dtN<|aX<|bP<|aM<|aM<|bP<|aM ?_
    cases h
    exact u_ rfl
   refine aW<|bV<|aI<|aS<|qkAdd rfl<|qkMove rfl<|dtN ?_
   exact xG (wI .i64 (a13+(1:Int))) (()) h SF rfl
  refine cE<|aY<|aY<|dJ<|aI ?_
  exact cM (()) (()) h SF .nil (aA.refl _ _)
 clear h
 intro a6 b7 h
 unfold sJ at h
 refine sqR<|qkAsg rfl<|dtN<|aX ?_
 cases h
 exact lN rfl
end Go.Proofs.YtigggfnchamobaaGreatDoor
end
section
namespace Go.Proofs.YtigggfnchamobaaGreatDoor
open Go.Sx
def Dh (fuel:Nat) (p0:List (Int)×(List (List (Int×Int)))):Option (Bool):=
 Option.bind (tP fuel ((p0.1,p0.2))) fun r2=>(some (r2))
theorem Uq:aV Tryz.prog 33:=Tryz.call33
theorem NQ (fuel:Nat) {p0:List (Int)×(List (List (Int×Int)))} (v0:Value)  (v1:Value)  (z2:List (Value×List (Int×Int))) (r:Bool) (h:Dh fuel p0=some r):
  bA Tryz.prog 33 #[Value.agg #[v0,v1]] [Sl aR v0 p0.1,S2 aK v1 z2 p0.2] (fun x:Unit=>Value.bool (r)) (fun x l=>l) (fun _ l=>l):=by
 refine bA.of (vs:=[Value.agg #[v0,v1]]) Tryz.func33 rfl Tryz.ntmps33 rfl fun c=>?_
 unfold Dh at h
 refine sqR<|aL (aQ.box (cs:=[v0,v1]) rfl rfl) rfl fun b1=>qkAsg rfl<|dtN<|sqR<|qkLdA 0 rfl ?_
 have⟨r2,hr3,h⟩:=fJ h
 refine aL (aJ Ut (CI fuel v0 v1 z2 r2 hr3) rfl (aA.cons (aC.fact 0 rfl) (aA.cons (aC.fact 1 rfl) .nil)) (fun _ _=>rfl)) rfl fun x4=>qkAsg rfl<|dtN<|aX ?_
 cases h
 exact u_ rfl
end Go.Proofs.YtigggfnchamobaaGreatDoor
end
section
namespace Go.Proofs.YtigggfnchamobaaGreatDoor
open Go.Sx
def sF  (a17:List (Int)):Option (List (Int)):=
 some (a17)
def sG (a23:Int×List (Int)) (ag22:(Int×List (Int))->Option (List (Int))) (a29:List (Int)):Option (List (Int)):=
 ag22 ((wI .i64 (a23.1+(1:Int))),a29)
def sI (a41:Int×List (Int)) (ag40:(Int×List (Int))->Option (List (Int))) (a46:List (Int)):Option (List (Int)):=
 ag40 ((wI .i64 (a41.1+(1:Int))),a46)
def oA (a52:Int×List (Int)) (ag51:(Int×List (Int))->Option (List (Int))) (a57:List (Int)):Option (List (Int)):=
 ag51 ((wI .i64 (a52.1+(1:Int))),a57)
def oB (p0:List (Int)×(List (List (Int×Int)))) (p2:Int) (a41:Int×List (Int)) (ag40:(Int×List (Int))->Option (List (Int))) (a52:Int×List (Int)) (ag51:(Int×List (Int))->Option (List (Int))):Option (List (Int)):=
 if a52.1<(List.length (at' p0.2 a41.1):Int)then(ck (0<=a52.1∧a52.1<(List.length (at' p0.2 a41.1):Int)) (ck (0<=a41.1) (if(dD .u32 (pH .u32 p2 a41.1) (1:Int))=(0:Int)then(ck (0<=a41.1∧a41.1<(List.length a52.2:Int)) (ck (0<=((at' (at' p0.2 a41.1) a52.1).1)∧((at' (at' p0.2 a41.1) a52.1).1)<(List.length a52.2:Int)) (ck (0<=a41.1∧a41.1<(List.length a52.2:Int)) (oA a52 ag51 (List.set a52.2 (Int.toNat a41.1) (min (at' a52.2 a41.1) (wI .i64 ((at' a52.2 ((at' (at' p0.2 a41.1) a52.1).1))+(1:Int)))))))))else(oA a52 ag51 (a52.2)))))else(sI a41 ag40 (a52.2))
def iV (fuel:Nat) (p0:List (Int)×(List (List (Int×Int)))) (p2:Int) (a23:Int×List (Int)) (ag22:(Int×List (Int))->Option (List (Int))) (a41:Int×List (Int)) (ag40:(Int×List (Int))->Option (List (Int))):Option (List (Int)):=
 if a41.1<(List.length p0.2:Int)then(ck (0<=a41.1∧a41.1<(List.length p0.2:Int)) (bK (oB p0 p2 a41 ag40) fuel ((0:Int),a41.2)))else(sG a23 ag22 (a41.2))
def sH (fuel:Nat) (p0:List (Int)×(List (List (Int×Int)))) (p2:Int) (a23:Int×List (Int)) (ag22:(Int×List (Int))->Option (List (Int))) (a32:Unit):Option (List (Int)):=
 bK (iV fuel p0 p2 a23 ag22) fuel ((0:Int),a23.2)
def eN (fuel:Nat) (p0:List (Int)×(List (List (Int×Int)))) (p2:Int) (a23:Int×List (Int)) (ag22:(Int×List (Int))->Option (List (Int))):Option (List (Int)):=
 if a23.1<(List.length p0.1:Int)then(sH fuel p0 p2 a23 ag22 (()))else(sF  (a23.2))
def sE (fuel:Nat) (p0:List (Int)×(List (List (Int×Int)))) (p2:Int) (a13:List (Int)):Option (List (Int)):=
 bK (eN fuel p0 p2) fuel ((0:Int),a13)
def kV (a71:Int×List (Int)) (ag70:(Int×List (Int))->Option (List (Int))) (a76:List (Int)):Option (List (Int)):=
 ag70 ((wI .i64 (a71.1+(1:Int))),a76)
def oC (fuel:Nat) (p0:List (Int)×(List (List (Int×Int)))) (p1:List (List (Int))) (p2:Int) (a71:Int×List (Int)) (ag70:(Int×List (Int))->Option (List (Int))):Option (List (Int)):=
 if a71.1<(List.length (List.replicate (Int.toNat (List.length p0.1:Int)) (0:Int)):Int)then(ck (0<=a71.1) (if(dD .u32 (pH .u32 p2 a71.1) (1:Int))=(1:Int)then(ck (0<=a71.1∧a71.1<(List.length p1:Int)) (ck (0<=(0:Int)∧(0:Int)<(List.length (at' p1 a71.1):Int)) (ck (0<=a71.1∧a71.1<(List.length a71.2:Int)) (kV a71 ag70 (List.set a71.2 (Int.toNat a71.1) (at' (at' p1 a71.1) (0:Int)))))))else(if(0:Int)<a71.1 then(ck (0<=a71.1∧a71.1<(List.length a71.2:Int)) (kV a71 ag70 (List.set a71.2 (Int.toNat a71.1) (List.length p0.1:Int))))else(kV a71 ag70 (a71.2)))))else(sE fuel p0 p2 (a71.2))
def n_ (fuel:Nat) (p0:List (Int)×(List (List (Int×Int)))) (p1:List (List (Int))) (p2:Int) (a5:Bool):Option (List (Int)):=
 if a5=true then(some ([]:List Int))else(ck (0<=(List.length p0.1:Int)∧(List.length p0.1:Int)<=1099511627) (bK (oC fuel p0 p1 p2) fuel ((0:Int),(List.replicate (Int.toNat (List.length p0.1:Int)) (0:Int)))))
def tM (fuel:Nat) (p0:List (Int)×(List (List (Int×Int)))) (p1:List (List (Int))) (p2:Int):Option (List (Int)):=
 Option.bind (Dh fuel ((p0.1,p0.2))) fun r85=>(if(!r85)=true then(n_ fuel p0 p1 p2 (true))else(Option.bind (fX fuel ((p0.1,p0.2)) p1 ([(List.length p0.1:Int),(-1:Int)])) fun r90=>(n_ fuel p0 p1 p2 ((!r90)))))
theorem Ul:aV Tryz.prog 12:=Tryz.call12
theorem CD (fuel:Nat) {p0:List (Int)×(List (List (Int×Int)))} {p1:List (List (Int))} {p2:Int} (v0:Value)  (v1:Value)  (z2:List (Value×List (Int×Int)))  (v3:Value)  (z4:List (Value×List (Int))) (r:List (Int)) (h:tM fuel p0 p1 p2=some r):
  bA Tryz.prog 12 #[Value.agg #[v0,v1],v3,Value.int .u32 (p2)] [Sl aR v0 p0.1,S2 aK v1 z2 p0.2,S2 aR v3 z4 p1] (fun x:Value=>x) (fun x l=>Ar cA x r::l) (fun _ l=>l):=by
 refine bA.of (vs:=[Value.agg #[v0,v1],v3,Value.int .u32 (p2)]) Tryz.func12 rfl Tryz.ntmps12 rfl fun c=>?_
 unfold tM at h
 refine jR BY<|sqR<|aL (aQ.box (cs:=[v0,v1]) rfl rfl) rfl fun b2=>aL (aQ.box (cs:=[Value.int .u32 (p2)]) rfl rfl) rfl fun b3=>qkAsg rfl<|dtN<|sqR<|qkFld rfl<|qkLd 1 rfl<|aB (cB rfl (aC.fact 0 rfl) rfl) rfl<|qkAsg rfl<|dtN<|aO<|aO<|xE (A:=Bool) (B:=Unit) (fun a5 b6=>⟨84,vK ([]:List Nat)⟩) (fun a5=>n_ fuel p0 p1 p2 a5=some r) (fun a5 b6=>[(1,v3),(3,Value.pointer (some ⟨b2,0,none⟩)),(5,Value.pointer (some ⟨b3,0,none⟩)),(6,Value.slice none 0 0),(7,Value.int .i64 (List.length p0.1:Int)),(25,Value.bool (a5))]) (fun a5 b6=>[bR b3 [Value.int .u32 (p2)] 25,bR b2 [v0,v1] 28,zK ([]:List Nat)]) (fun a5 b6=>[Sl aR v0 p0.1,S2 aK v1 z2 p0.2,S2 aR v3 z4 p1]) ?_ ?_
 ·refine aS<|qkLdA 1 rfl ?_
  have⟨r85,hr86,h⟩:=fJ h
  refine aL (aJ Uq (NQ fuel v0 v1 z2 r85 hr86) rfl (aA.cons (aC.fact 0 rfl) (aA.cons (aC.fact 1 rfl) .nil)) (fun _ _=>rfl)) rfl fun x87=>aB (qR rfl) rfl<|qkMove rfl ?_
  refine BT (by exact rfl) (by exact rfl) (fun hp88=>?_) (fun hp88=>?_)
  ·have h:=Q_ hp88 h
   refine gdSkip rfl<|gdSkip rfl<|gdSkip rfl<|gdSkip rfl<|gdSkip rfl<|gdSkip rfl<|aB (cI rfl rfl) rfl<|dtN ?_
   exact nX (true) (()) rfl h SF (aP.refl _) (aA.refl _ _)
  have h:=PO hp88 h
  refine a_ rfl (mG 1 rfl rfl rfl rfl) rfl<|gyMove rfl<|gyMove rfl<|rM rfl (cJ (e:=cA) ([(List.length p0.1:Int),(-1:Int)]) [(0,Value.int .i64 (List.length p0.1:Int)),(1,Value.int .i64 (-1:Int))] rfl rfl rfl rfl (Jf (Value.int .i64 (List.length p0.1:Int)) (Value.int .i64 (-1:Int)) rfl rfl) rfl rfl rfl) rfl fun u89=>?_
  have⟨r90,hr91,h⟩:=fJ h
  refine rM rfl (aJ OV (vM fuel v0 v1 z2 v3 z4 u89 r90 hr91) rfl (aA.cons (aC.fact 0 rfl) (aA.cons (aC.fact 1 rfl) (aA.cons (aC.fact 2 rfl) (aA.cons (aZ (aC.res 0 rfl) cR) .nil)))) (fun _ _=>rfl)) rfl fun x92=>a_ rfl (qR rfl) rfl<|aB (cX rfl rfl) rfl<|dtN ?_
  exact nX ((!r90)) (()) rfl h SF (aP.ix [1,2,3] rfl rfl) (aA.refl _ _)
 clear h
 intro a5 b6 h
 unfold n_ at h
 refine zN h rfl (fun _ h=>?_) fun _ h=>?_
 ·refine sqR<|qkAsg rfl<|dtN<|aX<|aM<|iI (i:=2) (Ds:=([]:List Nat)) (.inl rfl) rfl<|jR (iU cA) ?_
  cases h
  exact fO (Value.slice none 0 0) rfl rfl (RV.tmp rfl) (aP.ix [0] rfl rfl) aA.nil
 refine aW<|aI<|sqR<|qkMove rfl ?_
 have⟨hc8,h⟩:=aN h
 refine aL (nZ (e:=cA) (0:Int) rfl rfl rfl rfl hc8 rfl rfl rfl) rfl fun u9=>aL (aQ.alloc (cs:=[Value.slice none 0 0]) rfl rfl) rfl fun b10=>b_ (Know.one ((aZ (aC.res 1 rfl) cR))) fun ho11=>fH 0 rfl rfl ho11 rfl rfl rfl<|dtN<|aO<|xE (A:=List (Int)) (B:=Unit) (fun a13 b14=>⟨84,vK ([]:List Nat)⟩) (fun a13=>sE fuel p0 p2 a13=some r) (fun a13 b14=>[(3,Value.pointer (some ⟨b2,0,none⟩)),(5,Value.pointer (some ⟨b3,0,none⟩)),(6,Value.slice none 0 0),(7,Value.int .i64 (List.length p0.1:Int)),(8,Value.pointer (some ⟨b10,0,none⟩))]) (fun a13 b14=>[bR b10 [u9] 22,Ar cA u9 a13,bR b3 [Value.int .u32 (p2)] 25,bR b2 [v0,v1] 28,zK ([]:List Nat)]) (fun a13 b14=>[Sl aR v0 p0.1,S2 aK v1 z2 p0.2,S2 aR v3 z4 p1]) ?_ ?_
 ·refine sqR<|qkLd 0 rfl<|aB (cB rfl (aZ (aC.res 1 rfl) cR) rfl) rfl<|qkMove rfl<|dtN<|aU<|Lt (A:=Int×List (Int)) (B:=Unit) (fun a71 b72=>⟨84,vK ([]:List Nat)⟩) (oC fuel p0 p1 p2) (fun a71 b72=>[(1,v3),(3,Value.pointer (some ⟨b2,0,none⟩)),(5,Value.pointer (some ⟨b3,0,none⟩)),(6,Value.slice none 0 0),(7,Value.int .i64 (List.length p0.1:Int)),(8,Value.pointer (some ⟨b10,0,none⟩)),(29,Value.int .i64 (List.length (List.replicate (Int.toNat (List.length p0.1:Int)) (0:Int)):Int)),(30,Value.int .i64 (a71.1))]) (fun a71 b72=>[bR b10 [u9] 22,Ar cA u9 a71.2,bR b3 [Value.int .u32 (p2)] 25,bR b2 [v0,v1] 28,zK ([]:List Nat)]) (fun a71 b72=>[Sl aR v0 p0.1,S2 aK v1 z2 p0.2,S2 aR v3 z4 p1]) ((0:Int),(List.replicate (Int.toNat (List.length p0.1:Int)) (0:Int))) (()) rfl h SF (aP.refl _) (aA.refl _ _) ?_
  clear h
  intro k73 a71 b72 h
  unfold oC at h
  refine sqR<|qkLss rfl<|dtN<|aO ?_
  refine eR h rfl (fun _ h=>?_) fun _ h=>?_
  ·refine aW<|aI<|aO<|xE (A:=List (Int)) (B:=Unit) (fun a76 b77=>⟨84,vK ([]:List Nat)⟩) (fun a76=>kV a71 (bK (oC fuel p0 p1 p2) k73) a76=some r) (fun a76 b77=>[(1,v3),(3,Value.pointer (some ⟨b2,0,none⟩)),(5,Value.pointer (some ⟨b3,0,none⟩)),(6,Value.slice none 0 0),(7,Value.int .i64 (List.length p0.1:Int)),(8,Value.pointer (some ⟨b10,0,none⟩)),(29,Value.int .i64 (List.length (List.replicate (Int.toNat (List.length p0.1:Int)) (0:Int)):Int)),(30,Value.int .i64 (a71.1))]) (fun a76 b77=>[bR b10 [u9] 22,Ar cA u9 a76,bR b3 [Value.int .u32 (p2)] 25,bR b2 [v0,v1] 28,zK ([]:List Nat)]) (fun a76 b77=>[Sl aR v0 p0.1,S2 aK v1 z2 p0.2,S2 aR v3 z4 p1]) ?_ ?_
   ·refine aU<|sqR<|qkMove rfl<|qkAsg rfl<|dtN<|aU<|sqR<|qkLd 2 rfl<|qkMove rfl ?_
    have⟨hc78,h⟩:=aN h
    refine aB (Bd rfl rfl hc78) rfl<|aB (pU rfl rfl) rfl<|qkEql rfl<|qkAsg rfl<|dtN ?_
    refine eR h rfl (fun _ h=>?_) fun _ h=>?_
    ·refine JR.start [0,0,0,0,12,28,60,124,255,511] 8 mixedOrders (by decide +kernel) ?_
     refine JR.open (by exact rfl) ?_
     refine jkLd 0 rfl<|jkMove rfl<|jkMove rfl<|jkMove rfl ?_
     have⟨hc80,h⟩:=aN h
     refine aT rfl .nil (cW.cons (List.mem_of_getElem? (i:=2) rfl) .nil) (cS rfl rfl (aC.fact 0 rfl) rfl rfl hc80) aF.z<|aT rfl .nil (cW.cons (List.mem_of_getElem? (i:=2) rfl) .nil) (cT rfl (aC.fact 0 rfl) rfl rfl hc80) aF.z ?_
     have⟨hc81,h⟩:=aN h
     refine aT rfl .nil (cW.cons (List.mem_of_getElem? (i:=2) rfl) .nil) (bE rfl rfl (aC.el (aC.fact 0 rfl) hc80.1 hc80.2) rfl rfl hc81) aF.z<|aT rfl .nil (cW.cons (List.mem_of_getElem? (i:=2) rfl) .nil) (bZ rfl (aC.el (aC.fact 0 rfl) hc80.1 hc80.2) rfl rfl rfl dU hc81) aF.z<|bS 8 rfl rfl ?_
     have⟨hc82,h⟩:=aN h
     refine aB (bE rfl rfl (aZ (aC.res 1 rfl) cR) rfl rfl hc82) rfl<|s_ 1 (at' (at' p1 a71.1) (0:Int)) hc82 rfl rfl rfl rfl rfl rfl rfl<|eD<|bV<|bV<|aI ?_
     exact nX (List.set a71.2 (Int.toNat a71.1) (at' (at' p1 a71.1) (0:Int))) (()) rfl h SF (aP.refl _) (aA.refl _ _)
    refine sqR<|qkMove rfl<|aB (tC rfl rfl) rfl<|qkAsg rfl<|dtN ?_
    refine eR h rfl (fun _ h=>?_) fun _ h=>?_
    ·refine aS<|qkLd 0 rfl<|qkMove rfl<|qkMove rfl ?_
     have⟨hc84,h⟩:=aN h
     refine aB (bE rfl rfl (aZ (aC.res 1 rfl) cR) rfl rfl hc84) rfl<|s_ 1 (List.length p0.1:Int) hc84 rfl rfl rfl rfl rfl rfl rfl<|eD<|bV<|bV<|aI ?_
     exact nX (List.set a71.2 (Int.toNat a71.1) (List.length p0.1:Int)) (()) rfl h SF (aP.refl _) (aA.refl _ _)
    refine aW<|bV<|bV<|aI ?_
    exact nX (a71.2) (()) rfl h SF (aP.refl _) (aA.refl _ _)
   clear h
   intro a76 b77 h
   unfold kV at h
   refine aS<|qkAdd rfl<|qkMove rfl<|dtN ?_
   exact Il ((wI .i64 (a71.1+(1:Int))),a76) (()) rfl h SF (aP.refl _) (aA.refl _ _)
  refine cE<|aY<|aY<|dJ<|aI ?_
  exact nX (a71.2) (()) rfl h SF (aP.refl _) (aA.refl _ _)
 clear h
 intro a13 b14 h
 unfold sE at h
 refine aO<|xE (A:=List (Int)) (B:=List Nat) (fun a17 b18=>⟨84,vK b18⟩) (fun a17=>sF  a17=some r) (fun a17 b18=>[(8,Value.pointer (some ⟨b10,0,none⟩))]) (fun a17 b18=>[bR b10 [u9] 22,Ar cA u9 a17,zK b18]) (fun a17 b18=>[Sl aR v0 p0.1,S2 aK v1 z2 p0.2,S2 aR v3 z4 p1]) ?_ ?_
 ·refine sqR<|qkMove rfl<|qkMove rfl<|dtN<|aU<|Lt (A:=Int×List (Int)) (B:=List Nat) (fun a23 b24=>⟨84,vK b24⟩) (eN fuel p0 p2) (fun a23 b24=>[(3,Value.pointer (some ⟨b2,0,none⟩)),(5,Value.pointer (some ⟨b3,0,none⟩)),(6,Value.slice none 0 0),(8,Value.pointer (some ⟨b10,0,none⟩)),(56,Value.int .i64 (List.length p0.1:Int)),(57,Value.int .i64 (a23.1))]) (fun a23 b24=>[bR b10 [u9] 22,Ar cA u9 a23.2,bR b3 [Value.int .u32 (p2)] 25,bR b2 [v0,v1] 28,zK b24]) (fun a23 b24=>[Sl aR v0 p0.1,S2 aK v1 z2 p0.2,S2 aR v3 z4 p1]) ((0:Int),a13) ([]:List Nat) rfl h SF (aP.refl _) (aA.refl _ _) ?_
  clear h
  intro k25 a23 b24 h
  unfold eN at h
  refine sqR<|qkLss rfl<|dtN<|aO ?_
  refine eR h rfl (fun _ h=>?_) fun _ h=>?_
  ·refine aW<|aI<|aO<|xE (A:=List (Int)) (B:=List Nat) (fun a29 b30=>⟨84,vK b30⟩) (fun a29=>sG a23 (bK (eN fuel p0 p2) k25) a29=some r) (fun a29 b30=>[(3,Value.pointer (some ⟨b2,0,none⟩)),(5,Value.pointer (some ⟨b3,0,none⟩)),(6,Value.slice none 0 0),(8,Value.pointer (some ⟨b10,0,none⟩)),(56,Value.int .i64 (List.length p0.1:Int)),(57,Value.int .i64 (a23.1))]) (fun a29 b30=>[bR b10 [u9] 22,Ar cA u9 a29,bR b3 [Value.int .u32 (p2)] 25,bR b2 [v0,v1] 28,zK b30]) (fun a29 b30=>[Sl aR v0 p0.1,S2 aK v1 z2 p0.2,S2 aR v3 z4 p1]) ?_ ?_
   ·refine aU<|sqR<|qkLdA 3 rfl<|yH (A:=Unit) (B:=Nat) (vs:=[Value.agg #[v0,v1]]) (fun a32=>sH fuel p0 p2 a23 (bK (eN fuel p0 p2) k25) a32=some r) (fun a32 b33=>Value.func (.func 50) #[] #[Value.pointer (some ⟨b33,0,none⟩)]) (fun a32 b33=>[bR b33 [v0,v1] 28,bR b10 [u9] 22,Ar cA u9 a23.2,bR b3 [Value.int .u32 (p2)] 25,bR b2 [v0,v1] 28,zK b24]) (fun a32 b33=>[Sl aR v0 p0.1,S2 aK v1 z2 p0.2,S2 aR v3 z4 p1]) (tV.fn (show aV Tryz.prog 35 from Tryz.call35) rfl) Tryz.func35 rfl Tryz.ntmps35 rfl rfl ?_ ?_
    ·refine sqR<|aL (aQ.box (cs:=[v0,v1]) rfl rfl) rfl fun b67=>qkAsg rfl<|dtN<|sqR<|aB (uD (cs:=[.tmp 1]) (vs:=[Value.pointer (some ⟨b67,0,none⟩)]) rfl) rfl<|qkAsg rfl<|dtN<|aX ?_
     exact vA (()) (b67) h (.inl rfl) (CR.r1 rfl (RV.tmp rfl)) rfl (aP.refl _) (aA.refl _ _)
    clear h
    intro a32 b33 h
    unfold sH at h
    refine dtN<|aU<|vN (i:=5) (cs:=[Value.pointer (some ⟨b33,0,none⟩)]) b24 rfl (show aV Tryz.prog 50 from Tryz.call50) rfl Tryz.func50 rfl Tryz.ntmps50 rfl fun Ra D35 R36 hR37=>sqR<|qkFld rfl<|qkLd 1 rfl<|aB (jX rfl (aC.fact 1 rfl) rfl) rfl<|qkMove rfl<|dtN<|aU<|bY (A:=Int×List (Int)) (B:=Unit) (iV fuel p0 p2 a23 (bK (eN fuel p0 p2) k25)) (fun a41 b42=>[(0,mL Ra),(8,v1),(9,Value.int .i64 (List.length p0.2:Int)),(10,Value.int .i64 (a41.1))]) (fun a41 b42=>[Lp Ra R36 LoopState.ready none,bR b33 [v0,v1] 28,bR b10 [u9] 22,Ar cA u9 a41.2,bR b3 [Value.int .u32 (p2)] 25,bR b2 [v0,v1] 28,zK (List.cons D35 b24)]) (fun a41 b42=>[Sl aR v0 p0.1,S2 aK v1 z2 p0.2,S2 aR v3 z4 p1]) ((0:Int),a23.2) (()) h SF (aP.refl _) (aA.refl _ _) ?_
    clear h
    intro k43 a41 b42 h
    unfold iV at h
    refine sqR<|qkLss rfl<|dtN<|aO ?_
    refine eR h rfl (fun _ h=>?_) fun _ h=>?_
    ·refine aW<|aI<|aO<|bL (A:=List (Int)) (B:=Unit) (fun a46=>sI a41 (bK (iV fuel p0 p2 a23 (bK (eN fuel p0 p2) k25)) k43) a46=some r) (fun a46 b47=>[(0,mL Ra),(8,v1),(9,Value.int .i64 (List.length p0.2:Int)),(10,Value.int .i64 (a41.1))]) (fun a46 b47=>[Lp Ra R36 LoopState.ready none,bR b33 [v0,v1] 28,bR b10 [u9] 22,Ar cA u9 a46,bR b3 [Value.int .u32 (p2)] 25,bR b2 [v0,v1] 28,zK (List.cons D35 b24)]) (fun a46 b47=>[Sl aR v0 p0.1,S2 aK v1 z2 p0.2,S2 aR v3 z4 p1]) ?_ ?_
     ·refine aU<|sqR<|qkMove rfl ?_
      have⟨hc48,h⟩:=aN h
      refine aB (cS rfl rfl (aC.fact 1 rfl) rfl rfl hc48) rfl<|aB (cT rfl (aC.fact 1 rfl) rfl rfl hc48) rfl<|qkAsg rfl<|qkAsg rfl<|dtN<|sqR<|qkMove rfl<|aB (cB rfl (aC.el (aC.fact 1 rfl) hc48.1 hc48.2) rfl) rfl<|qkMove rfl<|dtN<|aU<|bY (A:=Int×List (Int)) (B:=Unit) (oB p0 p2 a41 (bK (iV fuel p0 p2 a23 (bK (eN fuel p0 p2) k25)) k43)) (fun a52 b53=>[(0,mL Ra),(3,Value.int .i64 (a41.1)),(8,v1),(9,Value.int .i64 (List.length p0.2:Int)),(10,Value.int .i64 (a41.1)),(15,(at' z2 a41.1).1),(16,Value.int .i64 (List.length (at' p0.2 a41.1):Int)),(17,Value.int .i64 (a52.1))]) (fun a52 b53=>[Lp Ra R36 LoopState.ready none,bR b33 [v0,v1] 28,bR b10 [u9] 22,Ar cA u9 a52.2,bR b3 [Value.int .u32 (p2)] 25,bR b2 [v0,v1] 28,zK (List.cons D35 b24)]) (fun a52 b53=>[Sl aR v0 p0.1,S2 aK v1 z2 p0.2,S2 aR v3 z4 p1]) ((0:Int),a41.2) (()) h SF (aP.refl _) (aA.refl _ _) ?_
      clear h
      intro k54 a52 b53 h
      unfold oB at h
      refine sqR<|qkLss rfl<|dtN<|aO ?_
      refine eR h rfl (fun _ h=>?_) fun _ h=>?_
      ·refine aW<|aI<|aO<|bL (A:=List (Int)) (B:=Unit) (fun a57=>oA a52 (bK (oB p0 p2 a41 (bK (iV fuel p0 p2 a23 (bK (eN fuel p0 p2) k25)) k43)) k54) a57=some r) (fun a57 b58=>[(0,mL Ra),(3,Value.int .i64 (a41.1)),(8,v1),(9,Value.int .i64 (List.length p0.2:Int)),(10,Value.int .i64 (a41.1)),(15,(at' z2 a41.1).1),(16,Value.int .i64 (List.length (at' p0.2 a41.1):Int)),(17,Value.int .i64 (a52.1))]) (fun a57 b58=>[Lp Ra R36 LoopState.ready none,bR b33 [v0,v1] 28,bR b10 [u9] 22,Ar cA u9 a57,bR b3 [Value.int .u32 (p2)] 25,bR b2 [v0,v1] 28,zK (List.cons D35 b24)]) (fun a57 b58=>[Sl aR v0 p0.1,S2 aK v1 z2 p0.2,S2 aR v3 z4 p1]) ?_ ?_
       ·refine aU<|sqR ?_
        have⟨hc59,h⟩:=aN h
        refine aB (bE rfl rfl (aC.el (aC.fact 1 rfl) hc48.1 hc48.2) rfl rfl hc59) rfl<|aB (gM (cs:=[Value.int .i64 ((at' (at' p0.2 a41.1) a52.1).1),Value.int .i64 ((at' (at' p0.2 a41.1) a52.1).2)]) rfl (aC.el (aC.fact 1 rfl) hc48.1 hc48.2) bO rfl rfl rfl rfl hc59) rfl<|aL (aQ.alloc (cs:=[Value.int .i64 (0:Int),Value.int .i64 (0:Int)]) rfl rfl) rfl fun b60=>bM 0 (vs:=[Value.int .i64 ((at' (at' p0.2 a41.1) a52.1).1),Value.int .i64 ((at' (at' p0.2 a41.1) a52.1).2)]) rfl rfl rfl rfl rfl rfl<|dtN<|sqR<|qkMove rfl<|qkMove rfl<|qkLdA 0 rfl<|BU (us:=[Value.int .i64 (a41.1),Value.agg #[Value.int .i64 ((at' (at' p0.2 a41.1) a52.1).1),Value.int .i64 ((at' (at' p0.2 a41.1) a52.1).2)]]) (i:=1) hR37 rfl rfl rfl rfl rfl rfl<|sqR<|qkAsg rfl<|dtN<|aS<|aL (aQ.alloc (cs:=[Value.int .i64 (0:Int),Value.int .i64 (0:Int)]) rfl rfl) rfl fun b61=>bM 0 (vs:=[Value.int .i64 ((at' (at' p0.2 a41.1) a52.1).1),Value.int .i64 ((at' (at' p0.2 a41.1) a52.1).2)]) rfl rfl rfl rfl rfl rfl<|dtN<|DV (i:=2) rfl<|aU<|sqR<|qkLd 6 rfl<|qkMove rfl ?_
        have⟨hc62,h⟩:=aN h
        refine aB (Bd rfl rfl hc62) rfl<|aB (pU rfl rfl) rfl<|qkEql rfl<|dtN ?_
        refine eR h rfl (fun _ h=>?_) fun _ h=>?_
        ·refine JR.start [0,0,0,0,12,28,0,0,128,448,960,1984,4092,8191,16383] 13 mixedOrders (by decide +kernel) ?_
         refine JR.open (by exact rfl) ?_
         refine jkLd 4 rfl<|jkMove rfl<|jkLd 4 rfl<|jkMove rfl ?_
         have⟨hc64,h⟩:=aN h
         refine aT rfl (aP.cons 5 rfl .nil) .nil (bE rfl rfl (aZ (aC.res 0 rfl) cR) rfl rfl hc64) aF.z<|aT rfl (aP.cons 5 rfl .nil) .nil (bZ rfl (aZ (aC.res 0 rfl) cR) rfl rfl rfl dU hc64) aF.z<|jkLd 4 rfl<|jkFld rfl<|jkLd 0 rfl ?_
         have⟨hc65,h⟩:=aN h
         refine aT rfl (aP.cons 5 rfl .nil) .nil (bE rfl rfl (aZ (aC.res 0 rfl) cR) rfl rfl hc65) aF.z<|aT rfl (aP.cons 5 rfl .nil) .nil (bZ rfl (aZ (aC.res 0 rfl) cR) rfl rfl rfl dU hc65) aF.z<|aT rfl .nil .nil (pG rfl rfl) aF.z<|aT rfl .nil .nil (OD rfl rfl) aF.z<|bS 13 rfl rfl ?_
         have⟨hc66,h⟩:=aN h
         refine aB (bE rfl rfl (aZ (aC.res 5 rfl) cR) rfl rfl hc66) rfl<|s_ 5 (min (at' a52.2 a41.1) (wI .i64 ((at' a52.2 ((at' (at' p0.2 a41.1) a52.1).1))+(1:Int)))) hc66 rfl rfl rfl rfl rfl rfl rfl<|eD<|bV<|xN (i:=2) rfl<|aB (qR rfl) rfl<|dtN<|yG rfl<|aW<|bV<|aI ?_
         exact cM (List.set a52.2 (Int.toNat a41.1) (min (at' a52.2 a41.1) (wI .i64 ((at' a52.2 ((at' (at' p0.2 a41.1) a52.1).1))+(1:Int))))) (()) h SF (aP.ix [2,3,4,5,6,7,8] rfl rfl) (aA.refl _ _)
        refine aW<|bV<|xN (i:=2) rfl<|aB (qR rfl) rfl<|dtN<|yG rfl<|aW<|bV<|aI ?_
        exact cM (a52.2) (()) h SF (aP.ix [2,3,4,5,6,7,8] rfl rfl) (aA.refl _ _)
       clear h
       intro a57 b58 h
       unfold oA at h
       refine aS<|qkAdd rfl<|qkMove rfl<|dtN ?_
       exact xG ((wI .i64 (a52.1+(1:Int))),a57) (()) h SF rfl
      refine cE<|aY<|aY<|dJ<|bV<|aI ?_
      exact jA (a52.2) (()) h SF rfl
     clear h
     intro a46 b47 h
     unfold sI at h
     refine aS<|qkAdd rfl<|qkMove rfl<|dtN ?_
     exact xG ((wI .i64 (a41.1+(1:Int))),a46) (()) h SF rfl
    refine cE<|aY<|aY<|dJ<|He (i:=0) (.inr rfl) rfl (CR.r0 rfl)<|bV<|bV<|aI ?_
    exact nX (a41.2) (List.cons D35 b24) rfl h SF (aP.ix [2,3,4,5,6] rfl rfl) (aA.refl _ _)
   clear h
   intro a29 b30 h
   unfold sG at h
   refine aS<|qkAdd rfl<|qkMove rfl<|dtN ?_
   exact Il ((wI .i64 (a23.1+(1:Int))),a29) (b30) rfl h SF (aP.refl _) (aA.refl _ _)
  refine cE<|aY<|aY<|dJ<|aI ?_
  exact nX (a23.2) (b24) rfl h SF (aP.ix [0,1,4] rfl rfl) (aA.refl _ _)
 clear h
 intro a17 b18 h
 unfold sF at h
 refine sqR<|qkLd 0 rfl<|qkAsg rfl<|dtN<|aX<|iI (i:=2) (Ds:=(b18)) (.inl rfl) rfl ?_
 cases h
 exact fO (u9) rfl rfl (RV.tmp rfl) (aP.ix [1] rfl rfl) aA.nil
end Go.Proofs.YtigggfnchamobaaGreatDoor
end
section
set_option maxRecDepth 100000
namespace Go.Gx
open Go Go.Sx Go.Proofs Go.Proofs.YtigggfnchamobaaGreatDoor
noncomputable section
def WF (us:List GV) (H:GH):OR:=a1 us fun x0=>ob (Hx H x0) fun p0=>ob (eV 1000 p0) fun r=>Qh r H
def WE (us:List GV) (H:GH):OR:=a2 us fun x0 x1=>ob (Wt H x0) fun p0=>ob (Wu .i64 x1) fun p1=>ob (iW 1000 p0 p1) fun r=>KV r H
def WD (us:List GV) (H:GH):OR:=a3 us fun x0 x1 x2=>ob (Hx H x0) fun p0=>ob (Po H x1) fun p1=>ob (Wu .u32 x2) fun p2=>ob (gX 1000 p0 p1 p2) fun r=>Qh r H
def WC (us:List GV) (H:GH):OR:=a3 us fun x0 x1 x2=>ob (Hx H x0) fun p0=>ob (Po H x1) fun p1=>ob (Wu .u32 x2) fun p2=>ob (tM 1000 p0 p1 p2) fun r=>Qi r H
def PI (f:Nat) (us:List GV) (H:GH):Option (GV×GH):=bif Nat.beq f 40 then WF us H else bif Nat.beq f 27 then WE us H else bif Nat.beq f 22 then WD us H else bif Nat.beq f 12 then WC us H else none
abbrev gl:Nat->uS:=glb 0 (cellsOf yF mP)
def gp:GP:=⟨sW,46,PI,PH 162⟩
section
variable {T:Nat} {w0:dL (gl T)} {w:World} {ρ:cZ} {H H':GH} {g:GV} {us:List GV} {vs:List Value}
theorem SN (h:WF us H=some (g,H')) (R:eH w0 ρ H w) (hr:mO ρ us vs):iM Tryz.prog w0 ρ 40 vs w g H':=by
 obtain⟨x0,rfl,h⟩:=LA h
 obtain⟨p0,hp0,h⟩:=aD.1 h
 obtain⟨r,hm,h⟩:=aD.1 h
 obtain⟨V0,rfl,hv0⟩:=hr.one
 obtain⟨w0a,w0b,z0,rfl,f0a,f0b⟩:=C_ R hv0 hp0
 obtain⟨rfl,rfl⟩:=Fm h
 exact EZ Hs (uR 1000 (p0:=p0) w0a w0b z0 r hm) R (List.forall_mem_cons.2 ⟨f0a,List.forall_mem_cons.2 ⟨f0b,fun f hf=>absurd hf List.not_mem_nil⟩⟩) fun ρ=> .bool _
theorem SM (h:WE us H=some (g,H')) (R:eH w0 ρ H w) (hr:mO ρ us vs):iM Tryz.prog w0 ρ 27 vs w g H':=by
 obtain⟨x0,x1,rfl,h⟩:=LB h
 obtain⟨p0,hp0,h⟩:=aD.1 h
 obtain⟨p1,hp1,h⟩:=aD.1 h
 obtain⟨r,hm,h⟩:=aD.1 h
 obtain⟨V0,vs,rfl,hv0,hr⟩:=hr.of_cons
 obtain⟨V1,rfl,hv1⟩:=hr.one
 obtain⟨w0a,w0b,w0c,rfl,f0a,f0b,f0c⟩:=Ss R hv0 hp0
 obtain rfl:=Hy hv1 hp1
 obtain⟨h1,h2,h3,rfl,rfl⟩:=Ju h
 exact KM TA Wx h1 h2 h3 OU (wM 1000 (p0:=p0) (p1:=p1) w0a w0b w0c r hm) R (List.forall_mem_cons.2 ⟨f0a,List.forall_mem_cons.2 ⟨f0b,List.forall_mem_cons.2 ⟨f0c,fun f hf=>absurd hf List.not_mem_nil⟩⟩⟩)
theorem SL (h:WD us H=some (g,H')) (R:eH w0 ρ H w) (hr:mO ρ us vs):iM Tryz.prog w0 ρ 22 vs w g H':=by
 obtain⟨x0,x1,x2,rfl,h⟩:=Hk h
 obtain⟨p0,hp0,h⟩:=aD.1 h
 obtain⟨p1,hp1,h⟩:=aD.1 h
 obtain⟨p2,hp2,h⟩:=aD.1 h
 obtain⟨r,hm,h⟩:=aD.1 h
 obtain⟨V0,vs,rfl,hv0,hr⟩:=hr.of_cons
 obtain⟨V1,vs,rfl,hv1,hr⟩:=hr.of_cons
 obtain⟨V2,rfl,hv2⟩:=hr.one
 obtain⟨w0a,w0b,z0,rfl,f0a,f0b⟩:=C_ R hv0 hp0
 obtain⟨z1,f1⟩:=Ja R hv1 hp1
 obtain rfl:=Hy hv2 hp2
 obtain⟨rfl,rfl⟩:=Fm h
 exact EZ OS (yB 1000 (p0:=p0) (p1:=p1) (p2:=p2) w0a w0b z0 V1 z1 r hm) R (List.forall_mem_cons.2 ⟨f0a,List.forall_mem_cons.2 ⟨f0b,List.forall_mem_cons.2 ⟨f1,fun f hf=>absurd hf List.not_mem_nil⟩⟩⟩) fun ρ=> .bool _
theorem SK (h:WC us H=some (g,H')) (R:eH w0 ρ H w) (hr:mO ρ us vs):iM Tryz.prog w0 ρ 12 vs w g H':=by
 obtain⟨x0,x1,x2,rfl,h⟩:=Hk h
 obtain⟨p0,hp0,h⟩:=aD.1 h
 obtain⟨p1,hp1,h⟩:=aD.1 h
 obtain⟨p2,hp2,h⟩:=aD.1 h
 obtain⟨r,hm,h⟩:=aD.1 h
 obtain⟨V0,vs,rfl,hv0,hr⟩:=hr.of_cons
 obtain⟨V1,vs,rfl,hv1,hr⟩:=hr.of_cons
 obtain⟨V2,rfl,hv2⟩:=hr.one
 obtain⟨w0a,w0b,z0,rfl,f0a,f0b⟩:=C_ R hv0 hp0
 obtain⟨z1,f1⟩:=Ja R hv1 hp1
 obtain rfl:=Hy hv2 hp2
 obtain⟨h1,rfl,rfl⟩:=KW h
 exact SO TA h1 Ul (CD 1000 (p0:=p0) (p1:=p1) (p2:=p2) w0a w0b z0 V1 z1 r hm) R (List.forall_mem_cons.2 ⟨f0a,List.forall_mem_cons.2 ⟨f0b,List.forall_mem_cons.2 ⟨f1,fun f hf=>absurd hf List.not_mem_nil⟩⟩⟩)
theorem HC {f:Nat} (h:PI f us H=some (g,H')) (R:eH w0 ρ H w) (hr:mO ρ us vs):iM Tryz.prog w0 ρ f vs w g H':=by
 unfold PI at h
 cases e0:Nat.beq f 40 with
 |true=>rw[e0]at h;rw[Nat.eq_of_beq_eq_true e0];exact SN h R hr
 |false=>
 rw[e0]at h
 cases e1:Nat.beq f 27 with
 |true=>rw[e1]at h;rw[Nat.eq_of_beq_eq_true e1];exact SM h R hr
 |false=>
 rw[e1]at h
 cases e2:Nat.beq f 22 with
 |true=>rw[e2]at h;rw[Nat.eq_of_beq_eq_true e2];exact SL h R hr
 |false=>
 rw[e2]at h
 cases e3:Nat.beq f 12 with
 |true=>rw[e3]at h;rw[Nat.eq_of_beq_eq_true e3];exact SK h R hr
 |false=>
 rw[e3]at h
 cases h
end
theorem UT:Ww Tryz.prog sW=true:=by kernel_rfl
theorem En:dY Tryz.prog sW:=⟨JT,US UT⟩
theorem Vn {gs:uS} (w0:dL gs):pO Tryz.prog w0 (Gi sW 64 Tryz.f64):=Pd En mixedOrders Tryz.func64 Tryz.call64 (by kernel_rfl)
theorem UM (args:Array Value) (w:World) (hs:args.size=2):CallsDIn (FR none) 0 Tryz.prog 63 args .returning w fun e u' w'=>∃v,e = .returned v∧u' = .returning∧G_ w w':=by
 obtain⟨out,h,he⟩:=Qj (r:=Bf sW (Gi sW 64 Tryz.f64) (Ht Tryz.f63) (Sy sW (Gi sW 64 Tryz.f64) (fun _ _ _ _=>none) (Pb Tryz.f63) 0 ⟨[],0,[]⟩ (Cu [])) (Ht Tryz.f63).tail ⟨[(Sq Tryz.f63,.inil)],H0⟩) (by kernel_rfl)
 exact Nj (ch:=Gi sW 64 Tryz.f64) (lp:=fun _ _ _ _=>none) En mixedOrders Vn DF Tryz.func63 rfl rfl rfl (by decide +kernel) (fun ρ w=>by simp[execOp,resolve,invoke,builtin]) (by kernel_rfl) (by kernel_rfl) rfl (by rw[hs];decide +kernel) h he
theorem Wy {gs:uS} {ext:FuncId->List GV->GH->Option (GV×GH)} (hx:∀(w0:dL gs) {f us H g H'},ext f us H=some (g,H')->∀ρ w vs,eH w0 ρ H w->mO ρ us vs->iM Tryz.prog w0 ρ f vs w g H') (w0:dL gs):MU Tryz.prog ⟨sW,46,ext,PH 162⟩ Dn.fns w0:=by
 refine⟨En,mixedOrders,fun h=> ?_,hx w0,fun h ρ w vs H R hr=>SG Tryz.func162 rfl rfl rfl rfl h ρ w vs H R hr,fun R hc h1 h2=> ?_⟩
 ·obtain⟨e,he,h⟩:=aD.1 (show ob (My _) _=some _ from h)
  cases h
  obtain⟨q1,q2,q3⟩:=Qw he
  exact⟨q1,q2,Jv q3⟩
 ·exact UG (tb:=sW) (T1:=3) (T2:=45) (cc:=63) En Tryz.func46 Tryz.call46 Tryz.call63 rfl rfl rfl (LC (by kernel_rfl)) (LC (by kernel_rfl)) (ME rfl rfl) (ME rfl rfl) (PX rfl rfl) (PX rfl rfl) UM R hc h1 h2
theorem PK {T:Nat} (w0:dL (gl T)):MU Tryz.prog gp Dn.fns w0:=Wy (fun w0 f us H g H' h ρ w vs R hr=>HC h R hr) w0
def YY:GP:=⟨sW,46,fun _ _ _=>none,PH 162⟩
theorem YW (w0:dL Vl):MU Tryz.prog YY Dn.fns w0:=Wy (fun w0 f us H g H' h=>by cases h) w0
end
end Go.Gx
end
section
namespace Go.Gx
open Go Go.Sx Go.RowKit
mutual
def CA (k:Nat):GV->GV
 | .ptr h o=> .ptr (k+h) o
 | .sl h o l s=> .sl (k+h) o l s
 | .map h=> .map (k+h)
 | .fn f a b=> .fn f (NY k a) (NY k b)
 | .agg cs=> .agg (NY k cs)
 | .tup vs=> .tup (NY k vs)
 | .int a b=> .int a b
 | .bool b=> .bool b
 | .str a b=> .str a b
 | .pnil=> .pnil
 | .snil=> .snil
 | .fnil=> .fnil
 | .inil=> .inil
 | .un=> .un
 | .bad=> .bad
 | .opn h=> .opn (k+h)
def NY (k:Nat):List GV->List GV
 | []=>[]
 |v::r=>CA k v::NY k r
end
theorem HV (k:Nat):∀(l:List GV) (i:Nat),(NY k l)[i]? = (l[i]?).map (CA k)
 | [],i=>rfl
 |v::r,0=>rfl
 |v::r,i+1=>by simpa [NY]using HV k r i
theorem AR (k:Nat):∀(l:List GV),(NY k l).length=l.length
 | []=>rfl
 |v::r=>by simp[NY,AR k r]
def Rb (k:Nat):GO->GO
 | .cells cs=> .cells (NY k cs)
 | .mp es=> .mp (es.map fun e=>(CA k e.1,CA k e.2))
def wJ (k:Nat) (l:F_):F_:={l with o:=Rb k l.o}
theorem Rl.shift {ρ ρ':cZ} {k:Nat} (hρ:∀h l,ρ h=some l->ρ' (k+h)=some (wJ k l)) {g:GV} {v:Value} (h:Rl ρ g v):Rl ρ' (CA k g) v:=by
 have lst:∀{us:List GV} {us':List Value},(∀(i:Nat) g v,us[i]? = some g->us'[i]? = some v->Rl ρ' (CA k g) v)->∀(i:Nat) g v,(NY k us)[i]? = some g->us'[i]? = some v->Rl ρ' g v:=by
  intro us us' hh i g v hg hv
  rw[HV]at hg
  obtain⟨g0,h0,rfl⟩:=Option.map_eq_some_iff.1 hg
  exact hh i g0 v h0 hv
 induction h with
 |int a n=>simp only[CA];exact .int a n
 |bool b=>simp only[CA];exact .bool b
 |str s=>simp only[CA];exact .str s
 |ptr off h=>simp only[CA];exact .ptr (l:=wJ k _) off (hρ _ _ h)
 |pnil=>simp only[CA];exact .pnil
 |sl h hc ha=>simp only[CA];exact .sl (l:=wJ k _) (hρ _ _ h) hc ha
 |snil=>simp only[CA];exact .snil
 |map h=>simp only[CA];exact .map (l:=wJ k _) (hρ _ _ h)
 |fn f h1 h2 h3 h4 ih2 ih4=>simp only[CA];exact .fn f (by rw[AR];exact h1) (lst ih2) (by rw[AR];exact h3) (lst ih4)
 |fnil=>simp only[CA];exact .fnil
 |inil=>simp only[CA];exact .inil
 |agg h1 h2 h3 ih=>simp only[CA];exact .agg (by rw[AR];exact h1) (lst ih) h3
 |tup h1 h2 ih=>simp only[CA];exact .tup (by rw[AR];exact h1) (lst ih)
 |un=>simp only[CA];exact .un
 |bad v=>simp only[CA];exact .bad v
 |opn v h hx=>simp only[CA];exact .opn (l:=wJ k _) v (hρ _ _ h) hx

abbrev OL:=List (Nat×Nat×GO)
def NX:OL->Nat->Option (Nat×GO)
 | [],_=>none
 |x::r,h=>if h=x.1 then some x.2 else NX r h
theorem HK {os:OL} {h:Nat} {p:Nat×GO} (hl:NX os h=some p):(h,p)∈os:=by
 induction os with
 |nil=>cases hl
 |cons x r ih=>
  simp only[NX]at hl
  split at hl
  ·rename_i e;cases hl;subst e;exact List.mem_cons_self
  ·exact List.mem_cons_of_mem _ (ih hl)
noncomputable def JB (k:Nat) (t:Tr (Nat×GO)):OL->Tr (Nat×GO)
 | []=>t
 |x::r=>(JB k t r).set (some (k+x.2.1,Rb k x.2.2)) (k+x.1)
noncomputable def Tb:OL->Tr (Nat×GO)
 | []=> .lf
 |x::r=>(Tb r).set (some x.2) x.1
theorem An:∀(os:OL) (h:Nat),(Tb os).get h=NX os h
 | [],h=>rfl
 |x::r,h=>by
  show((Tb r).set (some x.2) x.1).get h=_
  rw[pS]
  simp only[NX]
  split
  ·rfl
  ·exact An r h
theorem Fp (k:Nat) (t:Tr (Nat×GO)):∀(os:OL) (h:Nat),(JB k t os).get h=if k<=h then(match NX os (h - k)with|some p=>some (k+p.1,Rb k p.2)|none=>t.get h)else t.get h
 | [],h=>by simp[JB,NX]
 | x :: r, h => by
  show((JB k t r).set (some (k+x.2.1,Rb k x.2.2)) (k+x.1)).get h=_
  rw[pS,Fp k t r h]
  by_cases e:h=k+x.1
  ·subst e
   rw[if_pos rfl,if_pos (by omega)]
   simp[NX]
  ·rw[if_neg e]
   by_cases hk:k<=h
   ·rw[if_pos hk,if_pos hk]
    simp only[NX]
    rw[if_neg (show¬h - k=x.1 by omega)]
   ·rw[if_neg hk,if_neg hk]
noncomputable def Ej (n:Nat) (os:OL):GH:=⟨n,Tb os⟩
noncomputable def GH.load (H:GH) (n:Nat) (os:OL):GH:=⟨H.n+n,JB H.n H.t os⟩
section
variable {gs:uS} {w0:dL gs} {w w':World} {ρ ρ2:cZ} {H:GH} {n:Nat} {os:OL}
theorem fG {H:GH} {h:Nat} {o:GO}:H.get h=some o↔∃v,H.t.get h=some (v,o):=by
 unfold GH.get
 cases hh:H.t.get h with
 |none=>simp[ob]
 |some p=>obtain⟨a,b⟩:=p;simp[ob]
theorem pQ {H:GH} {h v:Nat}:H.ver h=some v↔∃o,H.t.get h=some (v,o):=by
 unfold GH.ver
 cases hh:H.t.get h with
 |none=>simp[ob]
 |some p=>obtain⟨a,b⟩:=p;simp[ob]
theorem eH.sub {H2:GH} (R:eH w0 ρ H w) (hn:H2.n=H.n) (hs:∀h p,H2.t.get h=some p->H.t.get h=some p):eH w0 ρ H2 w:=by
 have g:∀h o,H2.get h=some o->H.get h=some o:=fun h o hg=>by
  obtain⟨v,hv⟩:=fG.1 hg
  exact fG.2 ⟨v,hs _ _ hv⟩
 refine⟨R.ext,fun h o hg=>R.live h o (g h o hg),fun h h' o o' l l' h1 h2=>R.inj h h' o o' l l' (g _ _ h1) (g _ _ h2),fun h hh=>R.fresh h (by omega),fun h hh=>R.dense h (by omega),fun h v l hv hl=> ?_,R.env⟩
 obtain⟨o,ho⟩:=pQ.1 hv
 obtain⟨lv,a,b,c⟩:=R.vers h v l (pQ.2 ⟨o,hs _ _ ho⟩) hl
 refine⟨lv,a,b,?_⟩
 have h1:=fG.2 ⟨v,ho⟩
 have h2:=g _ _ h1
 rw[c]at h2;cases h2;exact h1
theorem tW.shift {l:F_} {o:GO} {ρ':cZ} {k:Nat} (hρ:∀h l,ρ2 h=some l->ρ' (k+h)=some (wJ k l)) (h:tW ρ2 w l o):tW ρ' w (wJ k l) (Rb k o):=by
 cases o with
 |cells cs=>
  obtain⟨cur,T,h1,h2,h3,h4⟩:=h
  refine⟨cur,T,h1,h2,by rw[AR];exact h3,fun i g hg=> ?_⟩
  rw[HV]at hg
  obtain⟨g0,h0,rfl⟩:=Option.map_eq_some_iff.1 hg
  obtain⟨v,a,b,c⟩:=h4 i g0 h0
  exact⟨v,a,b.shift hρ,c⟩
 |mp es=>
  obtain⟨en,cl,h1,h2,h3⟩:=h
  refine⟨en,cl,h1,by simpa [Rb]using h2,fun i g hg=> ?_⟩
  rw[List.getElem?_map]at hg
  obtain⟨g0,h0,rfl⟩:=Option.map_eq_some_iff.1 hg
  obtain⟨m,a,b,c⟩:=h3 i g0 h0
  exact⟨m,a,b.shift hρ,c.shift hρ⟩
theorem eH.join {gs2:uS} {hb:Dx gs2 w fun _=>False} (R:eH w0 ρ H w) (R2:eH (dL.of w hb) ρ2 (Ej n os) w'):
  ∃ρ':cZ,ρ.le ρ'∧eH w0 ρ' (H.load n os) w'∧∀g v,Rl ρ2 g v->Rl ρ' (CA H.n g) v:=by
 let ρ':cZ:=fun h=>if h<H.n then ρ h else(ρ2 (h - H.n)).map (wJ H.n)
 have hle:ρ.le ρ':=fun h l hl=>by
  have hlt:h<H.n:=by
   rcases Nat.lt_or_ge h H.n with q|q
   ·exact q
   ·rw[R.fresh h q]at hl;cases hl
  show(if h<H.n then ρ h else _)=_
  rw[if_pos hlt];exact hl
 have hsh:∀h l,ρ2 h=some l->ρ' (H.n+h)=some (wJ H.n l):=fun h l hl=>by
  show(if H.n+h<H.n then _ else _)=_
  rw[if_neg (by omega),show H.n+h - H.n=h by omega,hl];rfl
 have hlow:∀h,h<H.n->ρ' h=ρ h:=fun h hh=>by show(if h<H.n then ρ h else _)=_;rw[if_pos hh]
 have hhigh:∀h,H.n<=h->ρ' h=(ρ2 (h - H.n)).map (wJ H.n):=fun h hh=>by show(if h<H.n then ρ h else _)=_;rw[if_neg (by omega)]
 have hnone:∀h,H.n<=h->H.t.get h=none:=fun h hh=>by
  cases hg:H.t.get h with
  |none=>rfl
  |some p=>exact absurd (R.lt (fG.2 ⟨p.1,hg⟩)) (by omega)
 have gl:∀h,h<H.n->(H.load n os).t.get h=H.t.get h:=fun h hh=>by
  show(JB H.n H.t os).get h=_
  rw[Fp,if_neg (by omega)]
 have gh:∀h p,H.n<=h->(H.load n os).t.get h=some p->∃p2,(Ej n os).t.get (h - H.n)=some p2∧p=(H.n+p2.1,Rb H.n p2.2):=fun h p hh hp=>by
  have hp':(JB H.n H.t os).get h=some p:=hp
  rw[Fp,if_pos hh,hnone h hh]at hp'
  cases hk:NX os (h - H.n)with
  |none=>rw[hk]at hp';cases hp'
  |some p2=>rw[hk]at hp';cases hp';exact⟨p2,(An os _).trans hk,rfl⟩
 have e2:G_ w w':=R2.ext.ext
 have mine2:∀l:F_,(dL.of w hb).mine l.b->w.heap.size<=l.b:=fun l h=>by
  rcases h with h|h
  ·exact h
  ·exact h.elim
 have liveL:∀h o,h<H.n->(H.load n os).get h=some o->∃l,ρ h=some l∧w0.mine l.b∧tW ρ w l o∧H.get h=some o:=fun h o hh hg=>by
  obtain⟨v,hv⟩:=fG.1 hg
  rw[gl h hh]at hv
  have hg':=fG.2 ⟨v,hv⟩
  obtain⟨l,a,b,c⟩:=R.live h o hg'
  exact⟨l,a,b,c,hg'⟩
 have liveH:∀h o,H.n<=h->(H.load n os).get h=some o->∃l o2,ρ2 (h - H.n)=some l∧w.heap.size<=l.b∧tW ρ2 w' l o2∧o=Rb H.n o2∧(Ej n os).get (h - H.n)=some o2:=fun h o hh hg=>by
  obtain⟨v,hv⟩:=fG.1 hg
  obtain⟨p2,h2,e⟩:=gh h _ hh hv
  cases e
  have hg':(Ej n os).get (h - H.n)=some p2.2:=fG.2 ⟨p2.1,h2⟩
  obtain⟨l,a,b,c⟩:=R2.live _ _ hg'
  exact⟨l,p2.2,a,mine2 l b,c,rfl,hg'⟩
 refine⟨ρ',hle,⟨R.ext.trans e2,fun h o hg=> ?_,fun h h' o o' l l' h1 h2 hl hl' hbb=> ?_,fun h hh=> ?_,fun h hh=> ?_,fun h v l hv hl=> ?_,fun i v e=>let ⟨l,a,b⟩:=R.env i v e;⟨l,hle _ _ a,b⟩⟩,fun g v hg=>hg.shift hsh⟩
 ·rcases Nat.lt_or_ge h H.n with q|q
  ·obtain⟨l,a,b,c,_⟩:=liveL h o q hg
   exact⟨l,by rw[hlow h q];exact a,b,c.move hle (e2.block _ c.lt)⟩
  ·obtain⟨l,o2,a,b,c,rfl,_⟩:=liveH h o q hg
   exact⟨wJ H.n l,by rw[hhigh h q,a];rfl,.inl (Nat.le_trans R.ext.size b),c.shift hsh⟩
 ·rcases Nat.lt_or_ge h H.n with q|q<;>rcases Nat.lt_or_ge h' H.n with q'|q'
  ·obtain⟨l1,a1,_,_,g1⟩:=liveL h o q h1
   obtain⟨l2,a2,_,_,g2⟩:=liveL h' o' q' h2
   rw[hlow h q,a1]at hl;rw[hlow h' q',a2]at hl'
   cases hl;cases hl'
   exact R.inj h h' o o' _ _ g1 g2 a1 a2 hbb
  ·obtain⟨l1,a1,_,c1,g1⟩:=liveL h o q h1
   obtain⟨l2,o2,a2,b2,_,rfl,g2⟩:=liveH h' o' q' h2
   rw[hlow h q,a1]at hl;rw[hhigh h' q',a2]at hl'
   cases hl;cases hl'
   have:=c1.lt
   simp only[wJ]at hbb
   omega
  ·obtain⟨l1,o1,a1,b1,_,rfl,g1⟩:=liveH h o q h1
   obtain⟨l2,a2,_,c2,g2⟩:=liveL h' o' q' h2
   rw[hhigh h q,a1]at hl;rw[hlow h' q',a2]at hl'
   cases hl;cases hl'
   have:=c2.lt
   simp only[wJ]at hbb
   omega
  ·obtain⟨l1,o1,a1,b1,_,rfl,g1⟩:=liveH h o q h1
   obtain⟨l2,o2,a2,b2,_,rfl,g2⟩:=liveH h' o' q' h2
   rw[hhigh h q,a1]at hl;rw[hhigh h' q',a2]at hl'
   cases hl;cases hl'
   have:=R2.inj _ _ _ _ _ _ g1 g2 a1 a2 hbb
   omega
 ·have hh':H.n+n<=h:=hh
  rw[hhigh h (by omega),R2.fresh (h - H.n) (by show n<=_;omega)];rfl
 ·have hh':h<H.n+n:=hh
  rcases Nat.lt_or_ge h H.n with q|q
  ·obtain⟨l,hl⟩:=R.dense h q
   exact⟨l,by rw[hlow h q];exact hl⟩
  ·obtain⟨l,hl⟩:=R2.dense (h - H.n) (by show _<n;omega)
   exact⟨wJ H.n l,by rw[hhigh h q,hl];rfl⟩
 ·obtain⟨o,ho⟩:=pQ.1 hv
  rcases Nat.lt_or_ge h H.n with q|q
  ·rw[gl h q]at ho
   rw[hlow h q]at hl
   obtain⟨lv,a,b,c⟩:=R.vers h v l (pQ.2 ⟨o,ho⟩) hl
   have hg:=fG.2 ⟨v,ho⟩
   obtain⟨l',hl',_,ck⟩:=R.live h o hg
   rw[hl]at hl';cases hl'
   refine⟨lv,hle _ _ a,by rw[e2.block _ ck.lt];exact b,?_⟩
   obtain⟨v2,hv2⟩:=fG.1 c
   exact fG.2 ⟨v2,by rw[gl h q];exact hv2⟩
  ·obtain⟨p2,h2,e⟩:=gh h _ q ho
   cases e
   rw[hhigh h q]at hl
   obtain⟨l2,hl2,rfl⟩:=Option.map_eq_some_iff.1 hl
   obtain⟨lv,a,b,c⟩:=R2.vers (h - H.n) p2.1 l2 (pQ.2 ⟨p2.2,h2⟩) hl2
   refine⟨wJ H.n lv,hsh _ _ a,b,?_⟩
   have h3:(Ej n os).get (h - H.n)=some p2.2:=fG.2 ⟨p2.1,h2⟩
   rw[c]at h3
   have h4:=Option.some.inj h3
   exact fG.2 ⟨_,by rw[ho,<-h4];rfl⟩
end

theorem Pw {a b:Nat×Nat} (h:Kg a b=true):a=b:=by
 obtain⟨a1,a2⟩:=a
 obtain⟨b1,b2⟩:=b
 unfold Kg at h
 cases h2:Nat.beq a2 b2 with
 |false=>simp[h2]at h
 |true=>
  simp only[h2,cond_true]at h
  rw[Nat.eq_of_beq_eq_true h,Nat.eq_of_beq_eq_true h2]
theorem Lb {ρ:cZ} {n l:Nat} {x:ByteArray} (e1:n=jQ (bG x)) (e2:l=(bG x).length):Rl ρ (.str n l) (.string x):=by
 rw[e1,e2];exact .str x
def UY (us:List GV) (p:Nat×Nat):Bool:=List.casesOn (motive:=fun _=>Bool) us false fun u r=>List.casesOn (motive:=fun _=>Bool) r (Option.casesOn (motive:=fun _=>Bool) (GV.asStr u) false fun s=>Kg s p) fun _ _=>false
theorem PP {us:List GV} {p:Nat×Nat} (h:UY us p=true):us=[.str p.1 p.2]:=by
 cases us with
 |nil=>cases h
 | cons u r =>
  cases r with
  |cons _ _=>cases h
  | nil =>
   cases hu:GV.asStr u with
   |none=>simp[UY,hu]at h
   |some s=>
    have:Kg s p=true:=by simpa [UY,hu]using h
    rw[nJ hu,Pw this]
noncomputable section
def Qo (H:GH) (hs:List Nat):Option OL:=List.rec (motive:=fun _=>Option OL) (some []) (fun h _ ih=>ob (H.t.get h) fun p=>ob ih fun r=>some ((h,p.1,p.2)::r)) hs
theorem Dl {H:GH}:∀{hs:List Nat} {os:OL},Qo H hs=some os->∀x∈os,H.t.get x.1=some x.2
 | [],os,h,x,hx=>by cases h;cases hx
 |h0::hs,os,h,x,hx=>by
  obtain⟨p,hp,h⟩:=aD.1 (show ob (H.t.get h0) (fun p=>ob (Qo H hs) fun r=>some ((h0,p.1,p.2)::r))=some os from h)
  obtain⟨r,hr,h⟩:=aD.1 h
  cases h
  rcases List.mem_cons.1 hx with rfl|hx
  ·exact hp
  ·exact Dl hr x hx
def Mj (T:BZ) (G:GP) (fuel f:Nat) (us:List GV) (hs:List Nat):Option (GV×Nat×OL):=ob (EK T G fuel f us H0) fun r=>ob (Qo r.2 hs) fun os=>some (r.1,r.2.n,os)
def WW {R:Type} (k:Nat) (v:GV) (f:GV->R):R:=GV.casesOn (motive_1:=fun _=>R) v (fun a b=>f (.int a b)) (fun b=>f (.bool b)) (fun a b=>f (.str a b)) (fun h o=>sn (Nat.add k h) fun h=>f (.ptr h o)) (f .pnil) (fun h o l s=>sn (Nat.add k h) fun h=>f (.sl h o l s)) (f .snil) (fun h=>sn (Nat.add k h) fun h=>f (.map h)) (fun a b c=>f (CA k (.fn a b c))) (f .fnil) (f .inil) (fun cs=>f (CA k (.agg cs))) (fun vs=>f (CA k (.tup vs))) (f .un) (f .bad) (fun h=>sn (Nat.add k h) fun h=>f (.opn h))
theorem QB {R:Type} (k:Nat) (v:GV) (f:GV->R):WW k v f=f (CA k v):=by
 cases v<;>simp[WW,rH,CA]
def Vs {R:Type} (k:Nat) (l:List GV):(List GV->R)->R:=List.rec (motive:=fun _=>(List GV->R)->R) (fun f=>f []) (fun x _ ih f=>WW k x fun y=>ih fun r=>f (y::r)) l
theorem MC {R:Type} (k:Nat):∀(l:List GV) (f:List GV->R),Vs k l f=f (NY k l)
 | [],f=>rfl
 |x::l,f=>by
  show WW k x (fun y=>Vs k l fun r=>f (y::r))=_
  rw[QB,MC k l];rfl
def Vt {R:Type} (k:Nat) (o:GO) (f:GO->R):R:=GO.casesOn (motive:=fun _=>R) o (fun cs=>Vs k cs fun cs=>f (.cells cs)) (fun es=>f (Rb k (.mp es)))
theorem Tj {R:Type} (k:Nat) (o:GO) (f:GO->R):Vt k o f=f (Rb k o):=by
 cases o with
 |cells cs=>exact MC k cs _
 |mp es=>rfl
def Vm {R:Type} (k:Nat) (t:Tr (Nat×GO)) (os:OL):(Tr (Nat×GO)->R)->R:=List.rec (motive:=fun _=>(Tr (Nat×GO)->R)->R) (fun f=>f t) (fun x _ ih f=>ih fun t=>sn (Nat.add k x.2.1) fun v=>sn (Nat.add k x.1) fun h=>Vt k x.2.2 fun o=>t.setK (some (v,o)) h f) os
theorem Mu {R:Type} (k:Nat) (t:Tr (Nat×GO)):∀(os:OL) (f:Tr (Nat×GO)->R),Vm k t os f=f (JB k t os)
 | [],f=>rfl
 |x::os,f=>by
  show Vm k t os (fun t=>sn (Nat.add k x.2.1) fun v=>sn (Nat.add k x.1) fun h=>Vt k x.2.2 fun o=>t.setK (some (v,o)) h f)=_
  rw[Mu k t os]
  simp only[rH,Tj,yL];rfl
def Jm (g:GV) (n:Nat) (os:OL) (H:GH):Option (GV×GH):=sn H.n fun k=>WW k g fun g=>Vm k H.t os fun t=>sn (Nat.add k n) fun m=>some (g,⟨m,t⟩)
theorem Qa (g:GV) (n:Nat) (os:OL) (H:GH):Jm g n os H=some (CA H.n g,H.load n os):=by
 unfold Jm
 simp only[rH,QB,Mu];rfl
theorem Mk {P:Program} {T:BZ} {G:GP} {gs gs2:uS} (hobs:gs2.obs=gs.obs) (henv:gs2.env=[]) (hT:Ey T G.tab) (hG:∀w0:dL gs2,MU P G T.fns w0) {fuel f n:Nat} {us:List GV} {vs:List Value} {hs:List Nat} {g:GV} {os:OL} (hm:Mj T G fuel f us hs=some (g,n,os)) (hb:aV P f)
  {w0:dL gs} {w:World} {ρ:cZ} {H H':GH} {g':GV} (hv:mO (fun _=>none) us vs) (h:Jm g n os H=some (g',H')) (R:eH w0 ρ H w):iM P w0 ρ f vs w g' H':=by
 rw[Qa]at h;cases h
 obtain⟨r,hr,hm⟩:=aD.1 (show ob (EK T G fuel f us H0) _=some (g,n,os)from hm)
 obtain⟨os',hos,hm⟩:=aD.1 hm
 cases hm
 rw[Cc hT]at hr
 have hgl:Dx gs2 w fun _=>False:=fun p hp=>⟨(R.glo p (hobs▸hp)).1,id⟩
 rcases Ca hG (H':=r.2) (g:=r.1) hr (eH.start (dL.of w hgl) henv) hv with⟨v,w',ρ',hr',_⟩|⟨_,hc⟩
 ·have:=hb vs.toArray w
  rw[show(dL.of w hgl).w=w from rfl,this]at hr';cases hr'
 ·refine .inr ⟨hb _ w,hc.mono ?_⟩
  rintro e w' ⟨v,ρ2,rfl,_,R2,hr2⟩
  have R3:eH (dL.of w hgl) ρ2 (Ej r.2.n os) w':=R2.sub rfl fun h p hp=>by
   have:NX os h=some p:=(An os h).symm.trans hp
   exact Dl hos _ (HK this)
  obtain⟨ρ',hle,R4,hsh⟩:=R.join R3
  exact⟨v,ρ',rfl,hle,R4,hsh _ _ hr2⟩
theorem NG {P:Program} {T:BZ} {G:GP} {gs:uS} (hT:Ey T G.tab) (hG:∀w0:dL gs,MU P G T.fns w0) {fuel f n:Nat} {us:List GV} {vs:List Value} {hs:List Nat} {g:GV} {os:OL} (hm:Mj T G fuel f us hs=some (g,n,os)) (hb:aV P f)
  (hv:mO (fun _=>none) us vs) (he:gs.env=[]) (b:dL gs):Calls P f vs.toArray b.w fun e w'=>∃v ρ',e = .returned v∧eH b ρ' (Ej n os) w'∧Rl ρ' g v:=by
 obtain⟨r,hr,hm⟩:=aD.1 (show ob (EK T G fuel f us H0) _=some (g,n,os)from hm)
 obtain⟨os',hos,hm⟩:=aD.1 hm
 cases hm
 rw[Cc hT]at hr
 rcases Ca hG (H':=r.2) (g:=r.1) hr (eH.start b he) hv with⟨v,w',ρ',hr',_⟩|⟨_,hc⟩
 ·have:=hb vs.toArray b.w
  rw[this]at hr';cases hr'
 ·refine hc.mono ?_
  rintro e w' ⟨v,ρ2,rfl,_,R2,hr2⟩
  exact⟨v,ρ2,rfl,R2.sub rfl fun h p hp=>by
   have:NX os h=some p:=(An os h).symm.trans hp
   exact Dl hos _ (HK this),hr2⟩
end
theorem KU {P:Program} {gs:Nat->uS} {L:List bD} (hL:∀w S,(∀h∈L,h.p w S)->∃T,Dx (gs T) w fun _=>False) {f n:Nat} {vs:List Value} {g:GV} {os:OL}
  (h:∀T (b:dL (gs T)),Calls P f vs.toArray b.w fun e w'=>∃v ρ',e = .returned v∧eH b ρ' (Ej n os) w'∧Rl ρ' g v) {A:Type} {ret:A->Value} {LO:A->List bD}
  (hdec:∀T (b:dL (gs T)) (ρ:cZ) (w:World) (V:Value),(∀k,b.mine k->b.w.heap.size<=k)->eH b ρ (Ej n os) w->Rl ρ g V->∃x:A,V=ret x∧∀q∈LO x,q.p w (fun k=>b.w.heap.size<=k)):
  bA P f vs.toArray L ret (fun _ l=>l) (fun x l=>LO x++l):=by
 intro w0 S0 hw
 obtain⟨T,hT⟩:=hL w0 S0 hw
 refine(h T (.of w0 hT)).mono ?_
 rintro e w' ⟨v,ρ',rfl,R,hr⟩
 obtain⟨x,rfl,hq⟩:=hdec T (.of w0 hT) ρ' w' v (fun k hk=>hk.elim id False.elim) R hr
 refine⟨x,rfl,R.ext,fun _ _=>False,⟨fun i m hm=>by simp at hm,fun i k h=>h.elim,fun i j k h=>h.elim⟩,fun q hq'=> ?_⟩
 have hq':q∈LO x++[]:=hq'
 rw[List.append_nil]at hq'
 exact bD.wide (hq q hq') (fun k hk=>⟨.inr (.inl hk),fun i h=>h.elim⟩)

noncomputable def DM (s:ByteArray):Nat×Nat:=(jQ (bG s),(bG s).length)
theorem Jd {a b:ByteArray} (h:DM a=DM b):a=b:=by
 have h1:=Pv a b
 unfold DM at h
 rw[h]at h1
 have h2:Kg (jQ (bG b),(bG b).length) (jQ (bG b),(bG b).length)=true:=by simp[Kg]
 rw[h2]at h1
 have h3:a.toList=b.toList:=eq_of_beq h1.symm
 rw[Lib.toList_data,Lib.toList_data]at h3
 obtain⟨⟨x⟩⟩:=a
 obtain⟨⟨y⟩⟩:=b
 simp only at h3
 rw[h3]
noncomputable def UK (cs:List GV):Option (Nat×Nat):=List.casesOn (motive:=fun _=>Option (Nat×Nat)) cs none fun c r=>List.casesOn (motive:=fun _=>Option (Nat×Nat)) r c.asStr fun _ _=>none
abbrev Vo:dX ByteArray:=⟨1,Nat.one_pos,fun _ _ cs x=>cs=[.string x],fun h=>by simp[h],fun h _=>h⟩
theorem fT.str {S:Nat->Prop} {ρ:cZ} {w:World}:fT S ρ w UK Vo DM:=fun gs vs y hr h _=>by
 cases gs with
 |nil=>cases h
 |cons c gs=>
 cases gs with
 |cons _ _=>cases h
 |nil=>
 have h:c.asStr=some y:=h
 obtain⟨v,vs,rfl,hv,hr⟩:=hr.of_cons
 rw[hr.of_nil]
 rw[nJ h]at hv
 obtain⟨x,rfl,e1,e2⟩:=hv.str_inv
 exact⟨x,by unfold DM;rw[<-e1,<-e2],rfl⟩
theorem Tl {ρ:cZ} {V:Value} {n l:Nat} {s:ByteArray} (h:Rl ρ (.str n l) V) (e:DM s=(n,l)):V = .string s:=by
 obtain⟨x,rfl,e1,e2⟩:=h.str_inv
 have:DM x=DM s:=by rw[e];unfold DM;rw[<-e1,<-e2]
 rw[Jd this]
theorem Fa {α:Type}:∀a b:α,id a=id b->a=b:=fun _ _ h=>h
theorem Ai {α β α' β':Type} {f:α->α'} {g:β->β'} (hf:∀a b,f a=f b->a=b) (hg:∀a b,g a=g b->a=b):∀a b:α×β,(fun z:α×β=>(f z.1,g z.2)) a=(fun z:α×β=>(f z.1,g z.2)) b->a=b:=fun a b h=>by
 obtain⟨a1,a2⟩:=a
 obtain⟨b1,b2⟩:=b
 simp only[Prod.mk.injEq]at h
 rw[hf _ _ h.1,hg _ _ h.2]
theorem Ff {α β:Type} {f:α->β} (hf:∀a b,f a=f b->a=b):∀{xs ys:List α},xs.map f=ys.map f->xs=ys
 | [],[],_=>rfl
 | [],_::_,h=>by simp at h
 |_::_,[],h=>by simp at h
 |a::xs,b::ys,h=>by
  simp only[List.map_cons,List.cons.injEq]at h
  rw[hf _ _ h.1,Ff hf h.2]
end Go.Gx
end
section
set_option maxRecDepth 100000
namespace Go.Gx
open Go Go.Sx Go.Proofs Go.Proofs.YtigggfnchamobaaGreatDoor
def mu0:List GV:=[.str 6706143830449764899556809608818904919804074884937111603718476495539622089622860971527792587791047894922729163212717263328395231852300855536488424978955807703755604513825873373095632290149847090083112304426652546340939400726262280257803792487332445892473582856512649637013408585975292850644760247287299230258062944610265801223788397479914840704983105145953743025358843726328641031619437354017789814719882883570583131354112070717477863523377784965938515931160728579383844655360852857429048595849656685311997067516701048769715945338084683118784715135226216982869351630641616464718832441949492048937096570154901286325463543707328254906190863546417377904 270]
def mg0:GV:=(.agg [(.str 7562850 3),(.sl 1176 0 2 6),(.sl 2078 0 2 3)])
def mo0:OL:=[(1176,1176,.cells [(.str 100 1),(.int .i64 (.ofNat 1)),(.int .i64 (.ofNat 0)),(.int .i64 (.ofNat 0)),(.int .i64 (.ofNat 1)),(.int .i64 (.ofNat 0)),(.str 112 1),(.int .i64 (.ofNat 3)),(.int .i64 (.ofNat 0)),(.int .i64 (.ofNat 0)),(.int .i64 (.ofNat 0)),(.int .i64 (.ofNat 0))]),
 (1300,1300,.cells [(.int .i64 (.ofNat 41)),(.int .i64 (.ofNat 0)),(.int .i64 (.ofNat 10)),(.int .i64 (.ofNat 0)),(.int .i64 (.ofNat 42)),(.int .i64 (.ofNat 0)),(.int .i64 (.ofNat 36)),(.int .i64 (.ofNat 0)),(.int .i64 (.ofNat 5)),(.int .i64 (.ofNat 0)),(.int .i64 (.ofNat 1)),(.int .i64 (.ofNat 0)),(.int .i64 (.ofNat 36)),(.int .i64 (.ofNat 0)),(.int .i64 (.ofNat 5)),(.int .i64 (.ofNat 1)),(.int .i64 (.ofNat 4)),(.int .i64 (.ofNat 0))]),
 (1326,1326,.cells [(.int .i64 (.ofNat 1)),(.int .i64 (.ofNat 0))]),
 (1359,1359,.cells [(.int .i64 (.ofNat 4)),(.int .i64 (.ofNat 0))]),
 (1367,1367,.cells [(.int .i64 (.ofNat 0)),(.sl 1326 0 1 2),(.int .i64 (.ofNat 1)),(.sl 1359 0 1 2)]),
 (1755,1755,.cells [(.int .i64 (.ofNat 41)),(.int .i64 (.ofNat 0)),(.int .i64 (.ofNat 19)),(.int .i64 (.ofNat 0)),(.int .i64 (.ofNat 10)),(.int .i64 (.ofNat 0)),(.int .i64 (.ofNat 42)),(.int .i64 (.ofNat 0)),(.int .i64 (.ofNat 36)),(.int .i64 (.ofNat 0)),(.int .i64 (.ofNat 5)),(.int .i64 (.ofNat 0)),(.int .i64 (.ofNat 43)),(.int .i64 (.ofNat 0)),(.int .i64 (.ofNat 37)),(.int .i64 (.ofNat 0)),(.int .i64 (.ofNat 24)),(.int .i64 (.ofNat 0)),(.int .i64 (.ofNat 12)),(.int .i64 (.ofNat 0)),(.int .i64 (.ofNat 6)),(.int .i64 (.ofNat 0)),(.int .i64 (.ofNat 33)),(.int .i64 (.ofNat 0)),(.int .i64 (.ofNat 24)),(.int .i64 (.ofNat 0)),(.int .i64 (.ofNat 12)),(.int .i64 (.ofNat 0)),(.int .i64 (.ofNat 1)),(.int .i64 (.ofNat 1)),(.int .i64 (.ofNat 6)),(.int .i64 (.ofNat 0)),(.int .i64 (.ofNat 36)),(.int .i64 (.ofNat 0)),(.int .i64 (.ofNat 5)),(.int .i64 (.ofNat 1)),(.int .i64 (.ofNat 23)),(.int .i64 (.ofNat 0)),(.int .i64 (.ofNat 35)),(.int .i64 (.ofNat 0)),(.int .i64 (.ofNat 12)),(.int .i64 (.ofNat 0)),(.int .i64 (.ofNat 24)),(.int .i64 (.ofNat 0)),(.int .i64 (.ofNat 12)),(.int .i64 (.ofNat 0))]),
 (1936,1936,.cells [(.int .i64 (.ofNat 43)),(.int .i64 (.ofNat 0)),(.int .i64 (.ofNat 37)),(.int .i64 (.ofNat 0)),(.int .i64 (.ofNat 24)),(.int .i64 (.ofNat 0)),(.int .i64 (.ofNat 12)),(.int .i64 (.ofNat 0)),(.int .i64 (.ofNat 6)),(.int .i64 (.ofNat 0)),(.int .i64 (.ofNat 33)),(.int .i64 (.ofNat 0)),(.int .i64 (.ofNat 24)),(.int .i64 (.ofNat 0)),(.int .i64 (.ofNat 12)),(.int .i64 (.ofNat 0)),(.int .i64 (.ofNat 1)),(.int .i64 (.ofNat 1)),(.int .i64 (.ofNat 6)),(.int .i64 (.ofNat 0))]),
 (2062,2062,.cells [(.int .i64 (.ofNat 23)),(.int .i64 (.ofNat 0)),(.int .i64 (.ofNat 35)),(.int .i64 (.ofNat 0)),(.int .i64 (.ofNat 12)),(.int .i64 (.ofNat 0)),(.int .i64 (.ofNat 24)),(.int .i64 (.ofNat 0)),(.int .i64 (.ofNat 12)),(.int .i64 (.ofNat 0))]),
 (2070,2070,.cells [(.int .i64 (.ofNat 0)),(.sl 1936 0 10 2),(.int .i64 (.ofNat 1)),(.sl 2062 0 5 2)]),
 (2078,2078,.cells [(.str 7368564 3),(.sl 1300 0 9 2),(.sl 1367 0 2 2),(.str 7827308 3),(.sl 1755 0 23 2),(.sl 2070 0 2 2)])]
set_option maxHeartbeats 4000000 in
theorem me0:Mj Dn gp 4000 8 mu0 [1176,1300,1326,1359,1367,1755,1936,2062,2070,2078]=some (mg0,3136,mo0):=by kernel_rfl
noncomputable def EY (f:Nat) (us:List GV) (H:GH):Option (GV×GH):=bif Nat.beq f 8 then(bif UY us (6706143830449764899556809608818904919804074884937111603718476495539622089622860971527792587791047894922729163212717263328395231852300855536488424978955807703755604513825873373095632290149847090083112304426652546340939400726262280257803792487332445892473582856512649637013408585975292850644760247287299230258062944610265801223788397479914840704983105145953743025358843726328641031619437354017789814719882883570583131354112070717477863523377784965938515931160728579383844655360852857429048595849656685311997067516701048769715945338084683118784715135226216982869351630641616464718832441949492048937096570154901286325463543707328254906190863546417377904,270)then Jm mg0 3136 mo0 H else PI f us H)else PI f us H
noncomputable def WA:GP:=⟨sW,gp.cat,EY,gp.exn⟩
theorem De {T:Nat} {w0:dL (gl T)} {w:World} {ρ:cZ} {H H':GH} {g:GV} {us:List GV} {vs:List Value} {f:Nat} (h:EY f us H=some (g,H')) (R:eH w0 ρ H w) (hr:mO ρ us vs):iM Tryz.prog w0 ρ f vs w g H':=by
 unfold EY at h
 cases e1:Nat.beq f 8 with
 |false=>rw[e1]at h;exact HC h R hr
 | true =>
  rw[e1]at h
  cases e2:UY us (6706143830449764899556809608818904919804074884937111603718476495539622089622860971527792587791047894922729163212717263328395231852300855536488424978955807703755604513825873373095632290149847090083112304426652546340939400726262280257803792487332445892473582856512649637013408585975292850644760247287299230258062944610265801223788397479914840704983105145953743025358843726328641031619437354017789814719882883570583131354112070717477863523377784965938515931160728579383844655360852857429048595849656685311997067516701048769715945338084683118784715135226216982869351630641616464718832441949492048937096570154901286325463543707328254906190863546417377904,270)with
  |false=>rw[e2]at h;exact HC h R hr
  |true=>
   rw[e2]at h;rw[Nat.eq_of_beq_eq_true e1]
   rw[PP e2]at hr
   obtain⟨V,rfl,hv⟩:=hr.one
   obtain⟨x,rfl,e3,e4⟩:=hv.str_inv
   exact Mk (gs:=gl T) (gs2:=gl T) rfl rfl Cw PK me0 Tryz.call8 (mO.cons (Lb e3 e4) .nil) h R
theorem TC {T:Nat} (w0:dL (gl T)):MU Tryz.prog WA Dn.fns w0:=⟨(PK w0).tab,(PK w0).mixed,(PK w0).fns,fun h ρ w vs R hr=>De h R hr,(PK w0).exn,(PK w0).cat⟩
def mu1:List GV:=[.str 2782272544148574329703548915484139416562471587372346629090892429547018860149309682118537811771073185556707760590527461846276004869770941806974104689717583530206048895217444112283498148464 78]
def WN:GV:=(.agg [(.str 1907970655657516625763 9),(.sl 328 0 1 6),(.sl 491 0 1 3)])
def Qb:OL:=[(328,328,.cells [(.str 99 1),(.int .i64 (.ofNat 1)),(.int .i64 (.ofNat 0)),(.int .i64 (.ofNat 0)),(.int .i64 (.ofNat 1)),(.int .i64 (.ofNat 0))]),
 (410,410,.cells [(.int .i64 (.ofNat 21)),(.int .i64 (.ofNat 0)),(.int .i64 (.ofNat 35)),(.int .i64 (.ofNat 0)),(.int .i64 (.ofNat 12)),(.int .i64 (.ofNat 0)),(.int .i64 (.ofNat 5)),(.int .i64 (.ofNat 0))]),
 (475,475,.cells [(.int .i64 (.ofNat 27)),(.int .i64 (.ofNat 0)),(.int .i64 (.ofNat 12)),(.int .i64 (.ofNat 0))]),
 (483,483,.cells [(.int .i64 (.ofNat 0)),(.sl 475 0 2 2)]),
 (491,491,.cells [(.str 7891302 3),(.sl 410 0 4 2),(.sl 483 0 1 2)])]
set_option maxHeartbeats 4000000 in
theorem me1:Mj Dn WA 4000 8 mu1 [328,410,475,483,491]=some (WN,651,Qb):=by kernel_rfl
noncomputable def KI (f:Nat) (us:List GV) (H:GH):Option (GV×GH):=bif Nat.beq f 8 then(bif UY us (2782272544148574329703548915484139416562471587372346629090892429547018860149309682118537811771073185556707760590527461846276004869770941806974104689717583530206048895217444112283498148464,78)then Jm WN 651 Qb H else EY f us H)else EY f us H
noncomputable def WB:GP:=⟨sW,gp.cat,KI,gp.exn⟩
theorem Nx {T:Nat} {w0:dL (gl T)} {w:World} {ρ:cZ} {H H':GH} {g:GV} {us:List GV} {vs:List Value} {f:Nat} (h:KI f us H=some (g,H')) (R:eH w0 ρ H w) (hr:mO ρ us vs):iM Tryz.prog w0 ρ f vs w g H':=by
 unfold KI at h
 cases e1:Nat.beq f 8 with
 |false=>rw[e1]at h;exact De h R hr
 | true =>
  rw[e1]at h
  cases e2:UY us (2782272544148574329703548915484139416562471587372346629090892429547018860149309682118537811771073185556707760590527461846276004869770941806974104689717583530206048895217444112283498148464,78)with
  |false=>rw[e2]at h;exact De h R hr
  |true=>
   rw[e2]at h;rw[Nat.eq_of_beq_eq_true e1]
   rw[PP e2]at hr
   obtain⟨V,rfl,hv⟩:=hr.one
   obtain⟨x,rfl,e3,e4⟩:=hv.str_inv
   exact Mk (gs:=gl T) (gs2:=gl T) rfl rfl Cw TC me1 Tryz.call8 (mO.cons (Lb e3 e4) .nil) h R
theorem Wz {T:Nat} (w0:dL (gl T)):MU Tryz.prog WB Dn.fns w0:=⟨(PK w0).tab,(PK w0).mixed,(PK w0).fns,fun h ρ w vs R hr=>Nx h R hr,(PK w0).exn,(PK w0).cat⟩
noncomputable abbrev gp2:GP:=WB
theorem YX {T:Nat} (w0:dL (gl T)):MU Tryz.prog gp2 Dn.fns w0:=Wz w0
end Go.Gx
end
section
namespace Go.Gx
open Go Go.Sx Go.RowKit
structure Hd (n:Nat) (os:OL) (ρ:cZ) (w:World) (S:Nat->Prop):Prop where
 live:∀h o,(Ej n os).get h=some o->∃l,ρ h=some l∧S l.b∧tW ρ w l o
 inj:∀h h' o o' l l',(Ej n os).get h=some o->(Ej n os).get h'=some o'->ρ h=some l->ρ h'=some l'->l.b=l'.b->h=h'
 fresh:∀h,n<=h->ρ h=none
 dense:∀h,h<n->∃l,ρ h=some l
 vers:∀h v l,(Ej n os).ver h=some v->ρ h=some l->∃lv,ρ v=some lv∧w.heap[l.b]? = some lv.x∧(Ej n os).get h=some lv.o
theorem Hd.mono {n:Nat} {os:OL} {ρ:cZ} {w w':World} {S S':Nat->Prop} (H:Hd n os ρ w S) (h:∀k,S k->k<w.heap.size->S' k∧w'.heap[k]? = w.heap[k]?):Hd n os ρ w' S':=by
 refine⟨fun k o hg=> ?_,H.inj,H.fresh,H.dense,fun k v l hv hl=> ?_⟩
 ·obtain⟨l,a,b,c⟩:=H.live k o hg
  obtain⟨d,e⟩:=h _ b c.lt
  exact⟨l,a,d,c.move (cZ.le_refl ρ) e⟩
 ·obtain⟨lv,a,b,c⟩:=H.vers k v l hv hl
  obtain⟨o,ho⟩:=pQ.1 hv
  obtain⟨l',a',b',c'⟩:=H.live k o (fG.2 ⟨v,ho⟩)
  rw[hl]at a';cases a'
  exact⟨lv,a,by rw[(h _ b' c'.lt).2];exact b,c⟩
theorem eH.hd {gs:uS} {b:dL gs} {n:Nat} {os:OL} {ρ:cZ} {w:World} {S:Nat->Prop} (R:eH b ρ (Ej n os) w) (hS:∀k,b.mine k->S k):Hd n os ρ w S:=
 ⟨fun h o hg=>let ⟨l,a,b,c⟩:=R.live h o hg;⟨l,a,hS _ b,c⟩,R.inj,R.fresh,R.dense,R.vers⟩
def Od (n:Nat) (os:OL) (g:GV) (V:Value):bD where
 p w S:=∃ρ,Hd n os ρ w S∧Rl ρ g V
 mono:=fun⟨ρ,h,r⟩ k=>⟨ρ,h.mono k,r⟩
def Hd.O (n:Nat) (os:OL) (ρ:cZ) (k:Nat):Prop:=∃h o l,(Ej n os).get h=some o∧ρ h=some l∧l.b=k
def Hd.base (n:Nat) (os:OL) (ρ:cZ) (w:World):dL Vl:=⟨w,Hd.O n os ρ,fun _ h=>absurd h List.not_mem_nil⟩
theorem Hd.rel {n:Nat} {os:OL} {ρ:cZ} {w:World} {S:Nat->Prop} (H:Hd n os ρ w S):eH (Hd.base n os ρ w) ρ (Ej n os) w:=
 ⟨xO.refl w,fun h o hg=>let ⟨l,a,_,c⟩:=H.live h o hg;⟨l,a,.inr ⟨h,o,l,hg,a,rfl⟩,c⟩,H.inj,H.fresh,H.dense,H.vers,fun i v e=>by simp[Hd.base,Vl]at e⟩
noncomputable def Bm (H:GH) (os:OL):Bool:=List.rec (motive:=fun _=>Bool) true (fun x _ ih=>Option.casesOn (motive:=fun _=>Bool) (H.ver x.1) false fun v=>bif Nat.beq v x.2.1 then ih else false) os
theorem JI {H:GH}:∀{os:OL},Bm H os=true->∀x∈os,H.ver x.1=some x.2.1
 | [],_,x,hx=>by cases hx
 | y :: os, h, x, hx => by
  have h:Option.casesOn (motive:=fun _=>Bool) (H.ver y.1) false (fun v=>bif Nat.beq v y.2.1 then Bm H os else false)=true:=h
  cases hv:H.ver y.1 with
  |none=>rw[hv]at h;cases h
  | some v =>
   rw[hv]at h
   obtain⟨h1,h2⟩:=bI.1 (show(bif Nat.beq v y.2.1 then(some (Bm H os))else none)=some true by
    have h:(bif Nat.beq v y.2.1 then Bm H os else false)=true:=h
    cases e:Nat.beq v y.2.1<;>rw[e]at h<;>first|cases h|(show some (Bm H os)=some true;rw[show Bm H os=true from h]))
   rcases List.mem_cons.1 hx with rfl|hx
   ·rw[hv,Nat.eq_of_beq_eq_true h1]
   ·exact JI (Option.some.inj h2) x hx
noncomputable def okV (os:OL) (r:OR):Bool:=Option.casesOn (motive:=fun _=>Bool) r false fun r=>Option.casesOn (motive:=fun _=>Bool) r.1.asB false fun b=>bif b then Bm r.2 os else false
theorem Ql {os:OL} {r:OR} (h:okV os r=true):∃H',r=some (.bool true,H')∧Bm H' os=true:=by
 cases r with
 |none=>cases h
 | some r =>
  obtain⟨g,H'⟩:=r
  have h:Option.casesOn (motive:=fun _=>Bool) g.asB false (fun b=>bif b then Bm H' os else false)=true:=h
  cases hb:g.asB with
  |none=>rw[hb]at h;cases h
  |some b=>
   rw[hb]at h
   cases b with
   |false=>cases h
   |true=>exact⟨H',by rw[xH hb],h⟩
theorem NA {P:Program} {G:GP} {Fs:FT} (hG:∀w0:dL Vl,MU P G Fs w0) {fuel f n:Nat} {os:OL} {g:GV} {V:Value} (hb:aV P f) (h:∃H',LQ G Fs fuel f [g] (Ej n os)=some (.bool true,H')∧Bm H' os=true) {w:World} {S:Nat->Prop} (hw:(Od n os g V).p w S):
  Calls P f #[V] w fun e w'=>e = .returned (.bool true)∧G_ w w':=by
 obtain⟨ρ,hd,hr⟩:=hw
 obtain⟨H',h1,h2⟩:=h
 rcases Ca hG h1 hd.rel (.cons hr .nil)with⟨v,w',ρ',hr',_⟩|⟨_,hc⟩
 ·have:=hb #[V] w
  rw[this]at hr';cases hr'
 ·refine hc.mono ?_
  rintro e w' ⟨v,ρ2,rfl,hle,R2,hv⟩
  refine⟨by rw[hv.bool_inv],R2.ext.os,R2.ext.tape,R2.ext.output,R2.ext.size,fun k hk=> ?_⟩
  by_cases ho:Hd.O n os ρ k
  ·obtain⟨i,o,l,hg,hl,rfl⟩:=ho
   obtain⟨v0,hv0⟩:=fG.1 hg
   have hm:(i,v0,o)∈os:=HK ((An os i).symm.trans hv0)
   obtain⟨lv,a,b,_⟩:=hd.vers i v0 l (pQ.2 ⟨o,hv0⟩) hl
   obtain⟨lv',a',b',_⟩:=R2.vers i v0 l (JI h2 _ hm) (hle _ _ hl)
   have:lv=lv':=by have:=hle _ _ a;rw[a']at this;exact(Option.some.inj this).symm
   subst this
   exact b'.trans b.symm
  ·exact R2.ext.block k hk ho
end Go.Gx
end
section
namespace Go.Proofs.YtigggfnchamobaaGreatDoor
open Go Go.Sx Go.Gx
set_option maxRecDepth 100000
abbrev vI:=ByteArray×(Value×List (Int×Int))×(Value×List (Int×(Value×List (Int×Int))))
def wT (z:vI):List (Int×Int)×List (Int×List (Int×Int)):=(z.2.1.2,z.2.2.2.map fun s=>(s.1,s.2.2))
def BJ:ByteArray:=(ByteArray.mk #[112,114,111,103,114,97,109,32,99,111,108,111,117,114,105,110,103,59,10,118,97,114,32,99,32,58,32,48,32,46,46,32,110,59,10,114,117,108,101,32,102,105,120,58,32,115,111,109,101,40,113,46,99,32,61,61,32,99,41,32,45,62,32,99,32,58,61,32,109,101,120,40,113,46,99,41,59,10])
def Dm:List (ByteArray×Int×Int×Int×Int×Int):=[((ByteArray.mk #[99]),(1:Int),(0:Int),(0:Int),(1:Int),(0:Int))]
def AO:List (List (Int×Int)×List (Int×List (Int×Int))):=[([(21,0),(35,0),(12,0),(5,0)],[(0,[(27,0),(12,0)])])]
def TI:List ((Nat×Nat)×List (Int×Int)×List (Int×List (Int×Int))):=[((7891302,3),[(21,0),(35,0),(12,0),(5,0)],[(0,[(27,0),(12,0)])])]
def PF (V:Value):bD:=⟨fun w S=>(Od 651 Qb WN V).p w S,fun {w w' S S'} h k=>by
 rcases h with h
 ·exact((Od 651 Qb WN V).mono h k)⟩
noncomputable def OG {R:Type} (D:List (List (Int×Int)×List (Int×List (Int×Int)))) (k:List vI->Option R):Option R:=open Classical in if h:∃r,∀z:List vI,z.map wT=D->k z=some r then some (Classical.choose h)else none
theorem xS {R:Type} {D:List (List (Int×Int)×List (Int×List (Int×Int)))} {k:List vI->Option R} {r:R} (h:OG D k=some r) (z:List vI) (hz:z.map wT=D):k z=some r:=by
 unfold OG at h
 split at h
 ·rename_i e
  rw[<-Option.some.inj h]
  exact Classical.choose_spec e z hz
 cases h
theorem Ry {R:Type} {D:List (List (Int×Int)×List (Int×List (Int×Int)))} {k:List vI->Option R} {r:R} (h:∀z:List vI,z.map wT=D->k z=some r):OG D k=some r:=by
 have e:∃r,∀z:List vI,z.map wT=D->k z=some r:=⟨r,h⟩
 unfold OG
 rw[dif_pos e]
 let z:List vI:=D.map fun x=>(ByteArray.empty,(undef,x.1),(undef,x.2.map fun s=>(s.1,(undef,s.2))))
 have hz:z.map wT=D:=by
  show(D.map _).map wT=D
  rw[List.map_map]
  conv=>rhs;rw[<-List.map_id D]
  refine List.map_congr_left fun x _=>?_
  obtain⟨a,b⟩:=x
  simp[wT,Function.comp_def]
 rw[<-Classical.choose_spec e z hz,h z hz]
def oU (fuel:Nat) (p0:ByteArray):Option (ByteArray×List (ByteArray×Int×Int×Int×Int×Int)×List (List (Int×Int)×List (Int×List (Int×Int)))):=if p0=BJ then some ((ByteArray.mk #[99,111,108,111,117,114,105,110,103]),Dm,AO)else none
theorem Gg:aV Tryz.prog 8:=Tryz.call8
theorem LG:aV Tryz.prog 131:=Tryz.call131
theorem JA:DM BJ=(2782272544148574329703548915484139416562471587372346629090892429547018860149309682118537811771073185556707760590527461846276004869770941806974104689717583530206048895217444112283498148464,78):=by kernel_rfl
theorem Qp:DM (ByteArray.mk #[99,111,108,111,117,114,105,110,103])=(1907970655657516625763,9):=by kernel_rfl
theorem Qs:Jb (Ej 651 Qb) 6 (dP 1 UK (dP 1 (dI .i64) (dP 1 (dI .i64) (dP 1 (dI .i64) (dP 1 (dI .i64) (dI .i64)))))) (.sl 328 0 1 6)=some (Dm.map fun z=>(DM z.1,z.2.1,z.2.2.1,z.2.2.2.1,z.2.2.2.2.1,z.2.2.2.2.2)):=by kernel_rfl
theorem NN:Jb (Ej 651 Qb) 3 (dP 1 UK (dP 1 (dS (Ej 651 Qb) 2 (dP 1 (dI .i64) (dI .i64))) (dS (Ej 651 Qb) 2 (dP 1 (dI .i64) (dS (Ej 651 Qb) 2 (dP 1 (dI .i64) (dI .i64))))))) (.sl 491 0 1 3)=some TI:=by kernel_rfl
theorem S_:TI.map (fun y=>(y.2.1,y.2.2))=AO:=by kernel_rfl
theorem Qq (r:(ByteArray×List (ByteArray×Int×Int×Int×Int×Int)×List (List (Int×Int)×List (Int×List (Int×Int))))) (h:some ((ByteArray.mk #[99,111,108,111,117,114,105,110,103]),Dm,AO)=some r):bA Tryz.prog 8 #[Value.string BJ] [Gb 0 (cellsOf yF mP)] (fun x:Value×Value×{z:List vI // z.map wT=r.2.2}=>Value.agg #[Value.string r.1,x.1,x.2.1]) (fun x l=>l) (fun x l=>Sl aH x.1 r.2.1::Sl aG x.2.1 x.2.2.1::PF (Value.agg #[Value.string r.1,x.1,x.2.1])::l):=by
 cases h
 refine KU (gs:=gl) (LO:=fun x:Value×Value×{z:List vI // z.map wT=AO}=>[Sl aH x.1 Dm,Sl aG x.2.1 x.2.2.1,PF (Value.agg #[Value.string (ByteArray.mk #[99,111,108,111,117,114,105,110,103]),x.1,x.2.1])]) PJ (fun T b=>NG Cw TC me1 Gg (.cons (Lb (x:=BJ) (congrArg Prod.fst JA).symm (congrArg Prod.snd JA).symm) .nil) rfl b) ?_
 intro T b ρ w V hm R hr
 have hr0:=hr
 obtain⟨bs,rfl,hl,_⟩:=hr.agg_inv
 obtain⟨A1,bs,rfl,a1,hl⟩:=hl.of_cons
 obtain⟨A2,bs,rfl,a2,hl⟩:=hl.of_cons
 obtain⟨A3,rfl,a3⟩:=hl.one
 obtain rfl:=Tl a1 Qp
 obtain⟨zs,hz,hs⟩:=AF R hm (fT.pair fT.str (fT.pair (fT.int .i64) (fT.pair (fT.int .i64) (fT.pair (fT.int .i64) (fT.pair (fT.int .i64) (fT.int .i64)))))) a2 Qs
 have hzs:zs=Dm:=Ff (Ai (fun _ _=>Jd) (Ai Fa (Ai Fa (Ai Fa (Ai Fa Fa))))) hz
 subst hzs
 obtain⟨ys,hy,ht⟩:=AF (r:=aG) R hm (fT.pair fT.str (fT.pair (fT.sl R hm (fT.pair (fT.int .i64) (fT.int .i64))) (fT.sl R hm (fT.pair (fT.int .i64) (fT.sl R hm (fT.pair (fT.int .i64) (fT.int .i64))))))) a3 NN
 have hys:ys.map wT=AO:=by
  rw[<-S_,<-hy,List.map_map]
  refine List.map_congr_left fun x _=>?_
  simp[wT,Function.comp_def]
 exact⟨(A2,A3,⟨ys,hys⟩),rfl,List.forall_mem_cons.2 ⟨hs,List.forall_mem_cons.2 ⟨ht,List.forall_mem_cons.2 ⟨(⟨ρ,eH.hd R hm,hr0⟩),fun q hq=>absurd hq List.not_mem_nil⟩⟩⟩⟩
theorem QV:okV Qb (EK Dn YY 4000 131 [WN] (Ej 651 Qb))=true:=by kernel_rfl
theorem oW (fuel:Nat) {p0:ByteArray} (r:(ByteArray×List (ByteArray×Int×Int×Int×Int×Int)×List (List (Int×Int)×List (Int×List (Int×Int))))) (h:oU fuel p0=some r):bA Tryz.prog 8 #[Value.string p0] [Gb 0 (cellsOf yF mP)] (fun x:Value×Value×{z:List vI // z.map wT=r.2.2}=>Value.agg #[Value.string r.1,x.1,x.2.1]) (fun x l=>l) (fun x l=>Sl aH x.1 r.2.1::Sl aG x.2.1 x.2.2.1::PF (Value.agg #[Value.string r.1,x.1,x.2.1])::l):=by
 unfold oU at h
 by_cases e1:p0=BJ
 ·subst e1;exact Qq r ((if_pos rfl).symm.trans h)
 rw[if_neg e1]at h
 cases h
theorem Qr (f:Nat):oU f BJ=some ((ByteArray.mk #[99,111,108,111,117,114,105,110,103]),Dm,AO):=by
 unfold oU
 exact if_pos rfl
def xL (fuel:Nat) (p0:ByteArray×List (ByteArray×Int×Int×Int×Int×Int)×List (vI)):Option Bool:=some true
theorem FV (fuel:Nat) {p0:ByteArray×List (ByteArray×Int×Int×Int×Int×Int)×List (vI)} (v0 v1:Value) (r:Bool) (h:xL fuel p0=some r):
  bA Tryz.prog 131 #[Value.agg #[Value.string p0.1,v0,v1]] [Sl aH v0 p0.2.1,Sl aG v1 p0.2.2,PF (Value.agg #[Value.string p0.1,v0,v1])] (fun x:Unit=>Value.bool (r)) (fun x l=>l) (fun _ l=>l):=by
 cases h
 intro w S hw
 have key:Calls Tryz.prog 131 #[Value.agg #[Value.string p0.1,v0,v1]] w fun e w'=>e = .returned (.bool true)∧G_ w w':=by
  rcases hw _ (List.mem_of_getElem? (i:=2) rfl)with hp
  ·refine NA (fuel:=4000) YW LG ?_ hp
   obtain⟨H',h1,h2⟩:=Ql QV
   rw[Cc (G:=YY) Cw]at h1
   exact⟨H',h1,h2⟩
 refine key.mono ?_
 rintro e w' ⟨rfl,he⟩
 exact⟨(),rfl,⟨he.os,he.tape,he.output,he.size,fun k hk _=>he.block k hk⟩,fun _ _=>False,⟨fun i m hm=>by simp at hm,fun i k h=>h.elim,fun i j k h=>h.elim⟩,fun q hq=>by simp at hq⟩
end Go.Proofs.YtigggfnchamobaaGreatDoor
end
section
namespace Go.Proofs.YtigggfnchamobaaGreatDoor
open Go Go.Sx
abbrev Xr:=ByteArray×Int×Int×Int×Int×Int
abbrev PRG:=ByteArray×(List Xr)×(List vI)
abbrev GRF:=List Int×List (List (Int×Int))
abbrev SCN:=PRG×GRF×Int×List (List Int)
abbrev Wl:=SCN×List (List Int)×Int×List (Int×Int)
inductive E where
 |lf (o a:Int)
 |un (o:Int) (x:E)
 |ag (o:Int) (x:E)
 |bi (o:Int) (x y:E)
 |ite (x y z:E)
def E.ts:E->List (Int×Int)
 |lf o a=>[(o,a)]
 |un o x=>(o,0)::x.ts
 |ag o x=>(o,0)::x.ts
 |bi o x y=>(o,0)::(x.ts++y.ts)
 |ite x y z=>(43,0)::(x.ts++(y.ts++z.ts))
def E.depth:E->Nat
 |lf _ _=>1
 |un _ x=>x.depth+1
 |ag _ x=>x.depth+1
 |bi _ x y=>max x.depth y.depth+1
 |ite x y z=>max x.depth (max y.depth z.depth)+1
def E.arOk:E->Bool
 |lf o _=>decide (1<=o)&&decide (o<=17)
 |un o x=>decide (18<=o)&&decide (o<=19)&&x.arOk
 |ag o x=>decide (20<=o)&&decide (o<=29)&&x.arOk
 |bi o x y=>decide (30<=o)&&decide (o<=42)&&x.arOk&&y.arOk
 |ite x y z=>x.arOk&&y.arOk&&z.arOk
theorem Hn {α:Type} [Inhabited α] {T pre rest:List α} {x:α} {k:Nat} (hT:T=pre++x::rest) (hk:pre.length=k):at' T (k:Int)=x:=by
 subst hT;exact Nf pre rest x k hk
theorem eT {k:Nat} (h:k<1000000):wI .i64 ((k:Int)+1)=((k+1:Nat):Int):=by rw[wr (by omega) (by omega)];rfl

theorem OI (f:Nat) {o:Int} (h1:1<=o) (h2:o<=43):qN f o=some (if o<=17 then 0 else if o<=29 then 1 else if o<=42 then 2 else 3):=by
 unfold qN rJ
 rw[if_neg (by omega)]
 simp only[decide_eq_true_eq]
 rw[if_neg (by omega)]
 split
 ·rfl
 ·split
  ·rfl
  ·split<;>rfl
theorem Pu {F:Nat} {T pre rest:List (Int×Int)} {t:Int×Int} {k m a:Nat} {fuel:Nat} (hT:T=pre++t::rest) (hk:pre.length=k) (hk2:k<1000) (hm:m<3000) (ha:qN F t.1=some ((a:Nat):Int)) (ha3:a<=3) (hne:m+a≠0):
  bK (iL F T) (fuel+1) ((k:Int),(m:Int))=if m+a=1 then some (((k+1:Nat):Int))else bK (iL F T) fuel (((k+1:Nat):Int),((m+a - 1:Nat):Int)):=by
 have hl:k<T.length:=by rw[hT];simp;omega
 show iL F T ((k:Int),(m:Int)) (bK (iL F T) fuel)=_
 unfold iL
 dsimp only
 rw[if_pos (by omega),dV (by omega),Hn hT hk,bN ha,if_neg (by omega),wr (x:=((a:Nat):Int) - 1) (by omega) (by omega),wr (by omega) (by omega),eT (by omega)]
 by_cases h:m+a=1
 ·rw[if_pos h,if_pos (by omega)]
 ·rw[if_neg h,if_neg (by omega)]
  have:(m:Int)+((a:Int) - 1)=((m+a - 1:Nat):Int):=by omega
  rw[this]
theorem Sv (F:Nat) (T:List (Int×Int)) (hT9:T.length<=900):∀(e:E),e.arOk=true->∀(fuel k m:Nat) (pre post:List (Int×Int)),T=pre++(e.ts++post)->pre.length=k->1<=m->m+2*(e.ts++post).length<=1900->e.ts.length<=fuel->
  bK (iL F T) fuel ((k:Int),(m:Int))=if m=1 then some (((k+e.ts.length:Nat):Int))else bK (iL F T) (fuel - e.ts.length) (((k+e.ts.length:Nat):Int),((m - 1:Nat):Int)):=by
 have key:∀{t:Int×Int} {l post pre:List (Int×Int)} {fuel k m:Nat},T=pre++((t::l)++post)->pre.length=k->(t::l).length<=fuel->1<=t.1->t.1<=43->1<=m->m+2*((t::l)++post).length<=1900->∀a:Nat,(if t.1<=17 then 0 else if t.1<=29 then 1 else if t.1<=42 then 2 else 3:Int)=a->a<=3->∃f,fuel=f+1∧
   bK (iL F T) fuel ((k:Int),(m:Int))=if m+a=1 then some (((k+1:Nat):Int))else bK (iL F T) f (((k+1:Nat):Int),((m+a - 1:Nat):Int)):=by
  intro t l post pre fuel k m hT hk hf h1 h2 hm1 hm a ha ha3
  have hlen:=congrArg List.length hT
  simp only[List.length_append,List.length_cons]at hlen hm hf
  obtain⟨f,rfl⟩:∃f,fuel=f+1:=⟨fuel - 1,by omega⟩
  exact⟨f,rfl,Pu (rest:=l++post) (by simpa using hT) hk (by omega) (by omega) (by rw[OI F h1 h2,ha]) ha3 (by omega)⟩
 intro e
 induction e with
 |lf o a=>
  intro hok fuel k m pre post hT hk hm1 hm hf
  simp only[E.arOk,Bool.and_eq_true,decide_eq_true_eq]at hok
  obtain⟨f,rfl,h⟩:=key (t:=(o,a)) (l:=[]) hT hk hf (by dsimp only;omega) (by dsimp only;omega) hm1 hm 0 (by rw[if_pos (by dsimp only;omega)];rfl) (by omega)
  rw[h];rfl
 |un o x ih=>
  intro hok fuel k m pre post hT hk hm1 hm hf
  simp only[E.arOk,Bool.and_eq_true,decide_eq_true_eq]at hok
  obtain⟨f,rfl,h⟩:=key (t:=(o,0)) (l:=x.ts) hT hk hf (by dsimp only;omega) (by dsimp only;omega) hm1 hm 1 (by rw[if_neg (by dsimp only;omega),if_pos (by dsimp only;omega)];rfl) (by omega)
  simp only[E.ts,List.length_cons]at hf hm ⊢
  rw[h,if_neg (by omega)]
  have:=ih hok.2 f (k+1) m (pre++[(o,0)]) post (by rw[hT];simp[E.ts]) (by simp[hk]) hm1 (by simp at hm ⊢;omega) (by omega)
  rw[show m+1 - 1=m by omega,this,show k+1+x.ts.length=k+(x.ts.length+1) by omega,show f+1 - (x.ts.length+1)=f - x.ts.length by omega]
 |ag o x ih=>
  intro hok fuel k m pre post hT hk hm1 hm hf
  simp only[E.arOk,Bool.and_eq_true,decide_eq_true_eq]at hok
  obtain⟨f,rfl,h⟩:=key (t:=(o,0)) (l:=x.ts) hT hk hf (by dsimp only;omega) (by dsimp only;omega) hm1 hm 1 (by rw[if_neg (by dsimp only;omega),if_pos (by dsimp only;omega)];rfl) (by omega)
  simp only[E.ts,List.length_cons]at hf hm ⊢
  rw[h,if_neg (by omega)]
  have:=ih hok.2 f (k+1) m (pre++[(o,0)]) post (by rw[hT];simp[E.ts]) (by simp[hk]) hm1 (by simp at hm ⊢;omega) (by omega)
  rw[show m+1 - 1=m by omega,this,show k+1+x.ts.length=k+(x.ts.length+1) by omega,show f+1 - (x.ts.length+1)=f - x.ts.length by omega]
 |bi o x y ihx ihy=>
  intro hok fuel k m pre post hT hk hm1 hm hf
  simp only[E.arOk,Bool.and_eq_true,decide_eq_true_eq]at hok
  obtain⟨f,rfl,h⟩:=key (t:=(o,0)) (l:=x.ts++y.ts) hT hk hf (by dsimp only;omega) (by dsimp only;omega) hm1 hm 2 (by rw[if_neg (by dsimp only;omega),if_neg (by dsimp only;omega),if_pos (by dsimp only;omega)];rfl) (by omega)
  simp only[E.ts,List.length_cons,List.length_append]at hf hm ⊢
  rw[h,if_neg (by omega)]
  have h1:=ihx hok.1.2 f (k+1) (m+1) (pre++[(o,0)]) (y.ts++post) (by rw[hT];simp[E.ts]) (by simp[hk]) (by omega) (by simp at hm ⊢;omega) (by omega)
  have h2:=ihy hok.2 (f - x.ts.length) (k+1+x.ts.length) m (pre++((o,0)::x.ts)) post (by rw[hT];simp[E.ts]) (by simp[hk];omega) (by omega) (by simp at hm ⊢;omega) (by omega)
  rw[show m+2 - 1=m+1 by omega,h1,if_neg (by omega),show m+1 - 1=m by omega,h2,show k+1+x.ts.length+y.ts.length=k+(x.ts.length+y.ts.length+1) by omega,show f+1 - (x.ts.length+y.ts.length+1)=f - x.ts.length - y.ts.length by omega]
 |ite x y z ihx ihy ihz=>
  intro hok fuel k m pre post hT hk hm1 hm hf
  simp only[E.arOk,Bool.and_eq_true,decide_eq_true_eq]at hok
  obtain⟨f,rfl,h⟩:=key (t:=(43,0)) (l:=x.ts++(y.ts++z.ts)) hT hk hf (by decide) (by decide) hm1 hm 3 rfl (by omega)
  simp only[E.ts,List.length_cons,List.length_append]at hf hm ⊢
  rw[h,if_neg (by omega)]
  have h1:=ihx hok.1.1 f (k+1) (m+2) (pre++[(43,0)]) (y.ts++z.ts++post) (by rw[hT];simp[E.ts]) (by simp[hk]) (by omega) (by simp at hm ⊢;omega) (by omega)
  have h2:=ihy hok.1.2 (f - x.ts.length) (k+1+x.ts.length) (m+1) (pre++((43,0)::x.ts)) (z.ts++post) (by rw[hT];simp[E.ts]) (by simp[hk];omega) (by omega) (by simp at hm ⊢;omega) (by omega)
  have h3:=ihz hok.2 (f - x.ts.length - y.ts.length) (k+1+x.ts.length+y.ts.length) m (pre++((43,0)::(x.ts++y.ts))) post (by rw[hT];simp[E.ts]) (by simp[hk];omega) (by omega) (by simp at hm ⊢;omega) (by omega)
  rw[show m+3 - 1=m+2 by omega,h1,if_neg (by omega),show m+2 - 1=m+1 by omega,h2,if_neg (by omega),show m+1 - 1=m by omega,h3,show k+1+x.ts.length+y.ts.length+z.ts.length=k+(x.ts.length+(y.ts.length+z.ts.length)+1) by omega,show f+1 - (x.ts.length+(y.ts.length+z.ts.length)+1)=f - x.ts.length - y.ts.length - z.ts.length by omega]
theorem UP (F:Nat) (e:E) (hok:e.arOk=true) {T pre post:List (Int×Int)} {k:Nat} (hT:T=pre++(e.ts++post)) (hk:pre.length=k) (hl:T.length<=800) (hF:e.ts.length<=F):wF F T (k:Int)=some (((k+e.ts.length:Nat):Int)):=by
 have hpos:1<=e.ts.length:=by cases e<;>simp[E.ts]
 have hlen:=congrArg List.length hT
 simp only[List.length_append]at hlen
 unfold wF uY
 rw[if_neg (by omega)]
 simp only[decide_eq_true_eq]
 rw[if_neg (by omega)]
 have:=Sv F T (by omega) e hok F k 1 pre post hT hk (by omega) (by simp;omega) hF
 rw[if_pos rfl]at this
 exact this
end Go.Proofs.YtigggfnchamobaaGreatDoor
end
section
namespace Go.Proofs.YtigggfnchamobaaGreatDoor
open Go Go.Sx
def IT (b:Bool):Int:=if b then 1 else 0
theorem rK (f:Nat) (b:Bool):fS f b=some (IT b):=by cases b<;>rfl
theorem AS {α:Type} [Inhabited α] {l:List α} {k:Nat} (h:k<l.length):l.take (k+1)=l.take k++[at' l (k:Int)]:=by
 rw[List.take_add_one,List.getElem?_eq_getElem h,jF,List.getD_eq_getElem?_getD,List.getElem?_eq_getElem h];rfl
theorem jY {α:Type} [Inhabited α] {l:List α} {k:Nat} (h:k<l.length):at' l (k:Int)=l[k]:=by
 rw[jF,List.getD_eq_getElem?_getD,List.getElem?_eq_getElem h];rfl
theorem Gw {p:Nat->Prop}:∀(n:Nat),p n->∃m,m<=n∧p m∧∀j,j<m->¬p j:=by
 intro n
 induction n using Nat.strongRecOn with
 | _ n ih =>
  intro h
  by_cases hm:∃m,m<n∧p m
  ·obtain⟨m,h1,h2⟩:=hm
   obtain⟨k,a,b,c⟩:=ih m h1 h2
   exact⟨k,by omega,b,c⟩
  ·exact⟨n,Nat.le_refl n,h,fun j hj hp=>hm ⟨j,hj,hp⟩⟩
theorem Mo {α:Type} [DecidableEq α]:∀(l1 l2:List α),l1.Nodup->(∀x∈l1,x∈l2)->l1.length<=l2.length
 | [],l2,_,_=>Nat.zero_le _
 |a::l1,l2,h,hs=>by
  have ha:=hs a List.mem_cons_self
  have h:=List.nodup_cons.1 h
  have:=Mo l1 (l2.erase a) h.2 (fun x hx=>(List.mem_erase_of_ne (fun(e:x=a)=>h.1 (by rw[<-e];exact hx))).2 (hs x (List.mem_cons_of_mem _ hx)))
  rw[List.length_erase_of_mem ha]at this
  have hp:0<l2.length:=List.length_pos_of_mem ha
  simp only[List.length_cons];omega
def nz (x:Int):Bool:=decide (x≠0)
theorem Pm (f:Nat) (l:List Int) (h:l.length<f) (hl:l.length<=1000):oF f l=some ((l.countP nz:Nat):Int):=by
 unfold oF
 have:=eI (step:=mH l) (K:=some ((l.countP nz:Nat):Int)) l.length (fun k=>(((l.take k).countP nz:Nat),(k:Int))) (fun k ag hk=>by
  have hc:(l.take k).countP nz<=k:=Nat.le_trans List.countP_le_length (by simp;omega)
  unfold mH rD
  dsimp only
  rw[if_pos (by omega),dV (by omega),AS hk,List.countP_append,eT (by omega),eT (by omega)]
  by_cases h0:at' l (k:Int)=0
  ·rw[if_neg (by simpa using h0)];simp[nz,h0]
  ·rw[if_pos h0];simp[nz,h0]) (fun ag=>by
  unfold mH uM
  dsimp only
  rw[if_neg (by omega),List.take_length]) f h
 exact this
theorem DA (f:Nat) (l:List Int) (x:Int) (h:l.length<f) (hl:l.length<=1000):mB f l x=some (decide (x∈l)):=by
 have key:∃i:Int,nT f l x=some i∧(0<=i↔x∈l):=by
  by_cases hx:x∈l
  ·obtain⟨i,hi,hix⟩:=List.mem_iff_getElem.1 hx
   have hfirst:∃i,i<l.length∧at' l (i:Int)=x∧∀j,j<i->at' l (j:Int)≠x:=by
    obtain⟨m,h1,h2,h3⟩:=Gw (p:=fun i=>at' l (i:Int)=x) i (by rw[jY hi,hix])
    exact⟨m,by omega,h2,h3⟩
   obtain⟨i,hi,h1,h2⟩:=hfirst
   refine⟨i,?_,iff_of_true (by omega) hx⟩
   unfold nT
   exact eI (step:=gJ l x) (K:=some (i:Int)) i (fun k=>(k:Int)) (fun k ag hk=>by
    unfold gJ
    rw[if_pos (by omega),dV (by omega),if_neg (fun e=>h2 k hk e.symm),eT (by omega)]) (fun ag=>by
    unfold gJ
    rw[if_pos (by omega),dV (by omega),if_pos h1.symm]) f (by omega)
  ·refine⟨-1,?_,iff_of_false (by omega) hx⟩
   unfold nT
   exact eI (step:=gJ l x) (K:=some (-1)) l.length (fun k=>(k:Int)) (fun k ag hk=>by
    unfold gJ
    rw[if_pos (by omega),dV (by omega),if_neg (fun e=>hx (by rw[e,jY hk];exact List.getElem_mem hk)),eT (by omega)]) (fun ag=>by
    unfold gJ rY
    rw[if_neg (by omega)]) f h
 obtain⟨i,h1,h2⟩:=key
 unfold mB
 rw[bN h1]
 by_cases hx:x∈l
 ·rw[decide_eq_true hx,decide_eq_true (h2.2 hx)]
 ·rw[decide_eq_false hx,decide_eq_false (fun e=>hx (h2.1 e))]
def yU (l:List Int):Int:=match l.findIdx? nz with
 |some i=>(i:Int)
 |none=> -1
theorem xA {l:List Int} {i:Nat} (hi:i<l.length) (h1:at' l (i:Int)≠0) (h2:∀j,j<i->at' l (j:Int)=0):yU l=i:=by
 have:l.findIdx? nz=some i:=by
  rw[List.findIdx?_eq_some_iff_getElem]
  refine⟨hi,by rw[<-jY hi];simpa [nz]using h1,fun j hj=> ?_⟩
  have:=h2 j hj
  rw[jY (by omega)]at this
  simp[nz,this]
 unfold yU;rw[this]
theorem w_ {l:List Int} (h:∀j,j<l.length->at' l (j:Int)=0):yU l = -1:=by
 have:l.findIdx? nz=none:=by
  rw[List.findIdx?_eq_none_iff]
  intro x hx
  obtain⟨i,hi,rfl⟩:=List.mem_iff_getElem.1 hx
  have:=h i hi
  rw[jY hi]at this
  simp[nz,this]
 unfold yU;rw[this]
theorem PE (f:Nat) (l:List Int) (h:l.length<f) (hl:l.length<=1000):lB f l (fun y0=>mJ f y0)=some (yU l):=by
 unfold lB
 by_cases hx:∃i,i<l.length∧at' l (i:Int)≠0
 ·obtain⟨i,hi,h0⟩:=hx
  obtain⟨m,h1,h2,h3⟩:=Gw (p:=fun i=>at' l (i:Int)≠0) i h0
  have h3:∀j,j<m->at' l (j:Int)=0:=fun j hj=>Decidable.not_not.1 (h3 j hj)
  rw[xA (by omega) h2 h3]
  exact eI (step:=eC l _) (K:=some (m:Int)) m (fun k=>(k:Int)) (fun k ag hk=>by
   unfold eC mJ
   rw[if_pos (by omega),dV (by omega),bN rfl,if_neg (by simp[h3 k hk]),eT (by omega)]) (fun ag=>by
   unfold eC mJ
   rw[if_pos (by omega),dV (by omega),bN rfl,if_pos (by simpa using h2)]) f (by omega)
 ·have hx:∀j,j<l.length->at' l (j:Int)=0:=fun j hj=>Decidable.not_not.1 fun e=>hx ⟨j,hj,e⟩
  rw[w_ hx]
  exact eI (step:=eC l _) (K:=some (-1)) l.length (fun k=>(k:Int)) (fun k ag hk=>by
   unfold eC mJ
   rw[if_pos (by omega),dV (by omega),bN rfl,if_neg (by simp[hx k hk]),eT (by omega)]) (fun ag=>by
   unfold eC nA
   rw[if_neg (by omega)]) f h
def Vh (l:List Int):Int:=l.foldl min 1073741824
theorem Vi (f:Nat) (l:List Int) (h:l.length<f) (hl:l.length<=1000):bK (oD l) f ((1073741824:Int),(0:Int))=some (Vh l):=by
 exact eI (step:=oD l) (K:=some (Vh l)) l.length (fun k=>((l.take k).foldl min 1073741824,(k:Int))) (fun k ag hk=>by
  unfold oD
  dsimp only
  rw[if_pos (by omega),dV (by omega),AS hk,List.foldl_append,eT (by omega)];rfl) (fun ag=>by
  unfold oD vT
  dsimp only
  rw[if_neg (by omega),List.take_length];rfl) f h
def Jn (l:List Int):Nat->Nat->Nat
 |0,k=>k
 |f+1,k=>if((k:Nat):Int)∈l then Jn l f (k+1)else k
def Cn (l:List Int):Nat:=Jn l (l.length+1) 0
theorem Co (l:List Int):((Cn l:Nat):Int)∉l∧(∀j,j<Cn l->((j:Nat):Int)∈l)∧Cn l<=l.length:=by
 have key:∀(f k:Nat),(∀j,j<k->((j:Nat):Int)∈l)->(∀j,j<Jn l f k->((j:Nat):Int)∈l)∧(Jn l f k=k+f∨((Jn l f k:Nat):Int)∉l):=by
  intro f
  induction f with
  |zero=>intro k h;exact⟨h,.inl rfl⟩
  | succ f ih =>
   intro k h
   by_cases hk:((k:Nat):Int)∈l
   ·have:=ih (k+1) (fun j hj=>by
     rcases Nat.lt_or_ge j k with q|q
     ·exact h j q
     ·rw[show j=k by omega];exact hk)
    simp only[Jn,if_pos hk]
    exact⟨this.1,this.2.imp (fun e=>by omega) id⟩
   ·simp only[Jn,if_neg hk]
    exact⟨h,.inr hk⟩
 have hle:∀m,(∀j,j<m->((j:Nat):Int)∈l)->m<=l.length:=fun m h=>by
  have:=Mo ((List.range m).map fun j=>((j:Nat):Int)) l (by
   rw[List.nodup_iff_pairwise_ne,List.pairwise_map]
   exact(List.nodup_iff_pairwise_ne.1 List.nodup_range).imp (fun h e=>h (by omega))) (fun x hx=>by
   obtain⟨j,hj,rfl⟩:=List.mem_map.1 hx
   exact h j (List.mem_range.1 hj))
  simpa using this
 obtain⟨h1,h2⟩:=key (l.length+1) 0 (fun j hj=>by omega)
 have h3:=hle _ h1
 refine⟨?_,h1,h3⟩
 rcases h2 with h2|h2
 ·have:Jn l (l.length+1) 0<=l.length:=h3
  omega
 ·exact h2
theorem Vg (f:Nat) (l:List Int) (h:l.length+2<f) (hl:l.length<=900):wC f l=some ((Cn l:Nat):Int):=by
 obtain⟨h1,h2,h3⟩:=Co l
 unfold wC
 exact eI (step:=sP f l) (K:=some ((Cn l:Nat):Int)) (Cn l) (fun k=>(k:Int)) (fun k ag hk=>by
  unfold sP
  rw[bN (DA f l (k:Int) (by omega) (by omega)),if_pos (by simpa using h2 k hk),eT (by omega)]) (fun ag=>by
  unfold sP wZ
  rw[bN (DA f l _ (by omega) (by omega)),if_neg (by simpa using h1)]) f (by omega)
def LZ (o:Int) (l:List Int):Int:=
 if o=20 then IT (l.all nz)else if o=21 then IT (l.any nz)else if o=22 then((l.countP nz:Nat):Int)else if o=23 then yU l else if o=24 then Vh l else((Cn l:Nat):Int)
theorem SE (f:Nat) (o:Int) (l:List Int) (hf:40<=f) (hl:l.length<=24) (ho:o=20∨o=21∨o=22∨o=23∨o=24∨o=27):uV f o l=some (LZ o l):=by
 have hc:=Pm f l (by omega) (by omega)
 unfold uV
 rcases ho with rfl|rfl|rfl|rfl|rfl|rfl
 ·rw[if_pos rfl,bN hc,bN (rK f _),LZ,if_pos rfl]
  have:(decide (((l.countP nz:Nat):Int)=(l.length:Int)))=l.all nz:=by
   rw[Bool.eq_iff_iff];simp[List.countP_eq_length,Int.ofNat_inj]
  rw[this]
 ·rw[if_neg (by decide),if_pos rfl,bN hc,bN (rK f _),LZ,if_neg (by decide),if_pos rfl]
  have:(decide ((0:Int)<((l.countP nz:Nat):Int)))=l.any nz:=by
   rw[Bool.eq_iff_iff,decide_eq_true_eq,List.any_eq_true,show((0:Int)<((l.countP nz:Nat):Int))↔0<l.countP nz by omega,List.countP_pos_iff]
  rw[this]
 ·rw[if_neg (by decide),if_neg (by decide),if_pos rfl,bN hc];rfl
 ·rw[if_neg (by decide),if_neg (by decide),if_neg (by decide),if_pos rfl,bN (PE f l (by omega) (by omega))];rfl
 ·rw[if_neg (by decide),if_neg (by decide),if_neg (by decide),if_neg (by decide),if_pos rfl,Vi f l (by omega) (by omega)];rfl
 ·rw[if_neg (by decide),if_neg (by decide),if_neg (by decide),if_neg (by decide),if_neg (by decide),if_neg (by decide),if_neg (by decide),if_pos rfl,bN (Vg f l (by omega) (by omega))];rfl
end Go.Proofs.YtigggfnchamobaaGreatDoor
end
