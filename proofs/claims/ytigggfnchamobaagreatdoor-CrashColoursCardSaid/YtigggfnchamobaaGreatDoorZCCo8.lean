/- Models of functions with their proofs, by program (gen/xt.py), and plain laws, in one text. Conditions: none. -/
import Derived.Test.YtigggfnchamobaaGreatDoorZCCo2
import Derived.Test.YtigggfnchamobaaGreatDoorZCCo7
import Derived.Test.YtigggfnchamobaaGreatDoorZCCo5
import Derived.Test.YtigggfnchamobaaGreatDoorZCCo6
import Derived.Test.YtigggfnchamobaaGreatDoorZCCo1
import Derived.OpenShut
import Derived.LaidLaws
import Derived.LaidHandle
import Derived.Lay
import Derived.MakeChecks
set_option linter.unusedVariables false
set_option linter.unusedSimpArgs false
set_option maxHeartbeats 4000000
set_option maxRecDepth 20000
section
namespace Go.Proofs.YtigggfnchamobaaGreatDoor
open Go.Sx
def qQ  (a2:Bool):Option (Bool):=
 some (a2)
def sT (fuel:Nat) (p0:Int) (p1:Int):Option (Bool):=
 if(0:Int)<=p1 then(if p1<(32:Int)then(ck (0<=(wI .u64 p1)) (qQ  (decide ((dD .u32 (pH .u32 p0 (wI .u64 p1)) (1:Int))=(1:Int)))))else(qQ  (false)))else(qQ  (false))
theorem OQ:aV Tryz.prog 21:=Tryz.call21
theorem DJ (fuel:Nat) {p0:Int} {p1:Int} (r:Bool) (h:sT fuel p0 p1=some r):
  bA Tryz.prog 21 #[Value.int .u32 (p0),Value.int .i64 (p1)] [] (fun x:Unit=>Value.bool (r)) (fun x l=>l) (fun _ l=>l):=by
 refine bA.of (vs:=[Value.int .u32 (p0),Value.int .i64 (p1)]) Tryz.func21 rfl Tryz.ntmps21 rfl fun c=>?_
 unfold sT at h
 refine sqR<|qkAsg rfl<|dtN<|aO<|bL (A:=Bool) (B:=Unit) (fun a2=>qQ  a2=some r) (fun a2 b3=>[(4,Value.bool (a2))]) (fun a2 b3=>[]) (fun a2 b3=>[]) ?_ ?_
 ·refine aS<|qkMove rfl<|aB (Dy rfl rfl) rfl<|qkMove rfl ?_
  refine Bg h rfl (fun _ h=>?_) fun _ h=>?_
  ·refine gyMove rfl<|a_ rfl (Ge rfl rfl) rfl<|aB (cI rfl rfl) rfl<|qkMove rfl ?_
   refine Bg h rfl (fun _ h=>?_) fun _ h=>?_
   ·refine gyMove rfl<|gyMove rfl<|a_ rfl (Hj rfl rfl rfl) rfl ?_
    have⟨hc6,h⟩:=aN h
    refine a_ rfl (Bd rfl rfl hc6) rfl<|a_ rfl (pU rfl rfl) rfl<|a_ rfl (IK rfl rfl) rfl<|aB (cI rfl rfl) rfl<|qkAsg rfl<|dtN ?_
    exact jA (decide ((dD .u32 (pH .u32 p0 (wI .u64 p1)) (1:Int))=(1:Int))) (()) h SF rfl
   refine gdSkip rfl<|gdSkip rfl<|gdSkip rfl<|gdSkip rfl<|gdSkip rfl<|gdSkip rfl<|aB (cX rfl rfl) rfl<|qkAsg rfl<|dtN ?_
   exact jA (false) (()) h SF rfl
  refine gdSkip rfl<|gdSkip rfl<|aB (cX rfl rfl) rfl<|qkMove rfl<|gdSkip rfl<|gdSkip rfl<|gdSkip rfl<|gdSkip rfl<|gdSkip rfl<|gdSkip rfl<|aB (cX rfl rfl) rfl<|qkAsg rfl<|dtN ?_
  exact jA (false) (()) h SF rfl
 clear h
 intro a2 b3 h
 unfold qQ at h
 refine aX ?_
 cases h
 exact lN rfl
end Go.Proofs.YtigggfnchamobaaGreatDoor
end
section
namespace Go.Proofs.YtigggfnchamobaaGreatDoor
open Go.Sx
def tI  (a5:List (Int)):Option (List (Int)):=
 some (a5)
def tJ (a10:Int×List (Int)) (ag9:(Int×List (Int))->Option (List (Int))) (a15:List (Int)):Option (List (Int)):=
 ag9 ((wI .i64 (a10.1+(1:Int))),a15)
def pY (a20:Int×List (Int)) (ag19:(Int×List (Int))->Option (List (Int))) (a25:List (Int)):Option (List (Int)):=
 ag19 ((wI .i64 (a20.1+(1:Int))),a25)
def kZ (fuel:Nat) (p0:List (Int)×List (Int)×List (List (Int))×(Int×Int×Int×Int×Int)) (p1:Int) (a10:Int×List (Int)) (ag9:(Int×List (Int))->Option (List (Int))) (a20:Int×List (Int)) (ag19:(Int×List (Int))->Option (List (Int))):Option (List (Int)):=
 if a20.1<p1 then(ck (0<=a10.1∧a10.1<(List.length p0.1:Int)) (Option.bind (sT fuel (at' p0.1 a10.1) a20.1) fun r28=>(if r28=true then(ck (0<=a20.1∧a20.1<(List.length a20.2:Int)) (ck (0<=a20.1∧a20.1<(List.length a20.2:Int)) (pY a20 ag19 (List.set a20.2 (Int.toNat a20.1) (wI .i64 ((at' a20.2 a20.1)+(1:Int)))))))else(pY a20 ag19 (a20.2)))))else(tJ a10 ag9 (a20.2))
def iA (fuel:Nat) (p0:List (Int)×List (Int)×List (List (Int))×(Int×Int×Int×Int×Int)) (p1:Int) (a10:Int×List (Int)) (ag9:(Int×List (Int))->Option (List (Int))):Option (List (Int)):=
 if a10.1<(List.length p0.1:Int)then(bK (kZ fuel p0 p1 a10 ag9) fuel ((0:Int),a10.2))else(tI  (a10.2))
def pD (fuel:Nat) (p0:List (Int)×List (Int)×List (List (Int))×(Int×Int×Int×Int×Int)) (p1:Int):Option (List (Int)):=
 ck (0<=p1∧p1<=1099511627) (bK (iA fuel p0 p1) fuel ((0:Int),(List.replicate (Int.toNat p1) (0:Int))))
theorem Uo:aV Tryz.prog 20:=Tryz.call20
theorem FU (fuel:Nat) {p0:List (Int)×List (Int)×List (List (Int))×(Int×Int×Int×Int×Int)} {p1:Int} (v0:Value)  (v1:Value)  (v2:Value)  (z3:List (Value×List (Int))) (r:List (Int)) (h:pD fuel p0 p1=some r):
  bA Tryz.prog 20 #[Value.agg #[v0,v1,v2,Value.int .i64 (p0.2.2.2.1),Value.int .i64 (p0.2.2.2.2.1),Value.int .i64 (p0.2.2.2.2.2.1),Value.int .i64 (p0.2.2.2.2.2.2.1),Value.int .u32 (p0.2.2.2.2.2.2.2)],Value.int .i64 (p1)] [Sl jE v0 p0.1,Sl jE v1 p0.2.1,S2 aR v2 z3 p0.2.2.1] (fun x:Value=>x) (fun x l=>Ar cA x r::l) (fun _ l=>l):=by
 refine bA.of (vs:=[Value.agg #[v0,v1,v2,Value.int .i64 (p0.2.2.2.1),Value.int .i64 (p0.2.2.2.2.1),Value.int .i64 (p0.2.2.2.2.2.1),Value.int .i64 (p0.2.2.2.2.2.2.1),Value.int .u32 (p0.2.2.2.2.2.2.2)],Value.int .i64 (p1)]) Tryz.func20 rfl Tryz.ntmps20 rfl fun c=>?_
 unfold pD at h
 refine sqR<|aL (aQ.box (cs:=[v0,v1,v2,Value.int .i64 (p0.2.2.2.1),Value.int .i64 (p0.2.2.2.2.1),Value.int .i64 (p0.2.2.2.2.2.1),Value.int .i64 (p0.2.2.2.2.2.2.1),Value.int .u32 (p0.2.2.2.2.2.2.2)]) rfl rfl) rfl fun b1=>qkAsg rfl<|dtN<|sqR<|qkMove rfl ?_
 have⟨hc2,h⟩:=aN h
 refine aL (nZ (e:=cA) (0:Int) rfl rfl rfl rfl hc2 rfl rfl rfl) rfl fun u3=>qkAsg rfl<|dtN<|aO<|bL (A:=List (Int)) (B:=Unit) (fun a5=>tI  a5=some r) (fun a5 b6=>[(5,u3)]) (fun a5 b6=>[Ar cA u3 a5]) (fun a5 b6=>[Sl jE v0 p0.1,Sl jE v1 p0.2.1,S2 aR v2 z3 p0.2.2.1]) ?_ ?_
 ·refine sqR<|qkAsg rfl<|dtN<|aU<|bY (A:=Int×List (Int)) (B:=Unit) (iA fuel p0 p1) (fun a10 b11=>[(1,Value.int .i64 (p1)),(2,Value.pointer (some ⟨b1,0,none⟩)),(5,u3),(6,Value.int .i64 (a10.1))]) (fun a10 b11=>[Ar cA u3 a10.2,bR b1 [v0,v1,v2,Value.int .i64 (p0.2.2.2.1),Value.int .i64 (p0.2.2.2.2.1),Value.int .i64 (p0.2.2.2.2.2.1),Value.int .i64 (p0.2.2.2.2.2.2.1),Value.int .u32 (p0.2.2.2.2.2.2.2)] 44]) (fun a10 b11=>[Sl jE v0 p0.1,Sl jE v1 p0.2.1,S2 aR v2 z3 p0.2.2.1]) ((0:Int),(List.replicate (Int.toNat p1) (0:Int))) (()) h SF (aP.refl _) (aA.refl _ _) ?_
  clear h
  intro k12 a10 b11 h
  unfold iA at h
  refine aO<|sqR<|qkMove rfl<|qkFld rfl<|qkLd 1 rfl<|aB (cB rfl (aC.fact 0 rfl) rfl) rfl<|qkLss rfl<|dtN ?_
  refine eR h rfl (fun _ h=>?_) fun _ h=>?_
  ·refine aW<|aI<|aO<|bL (A:=List (Int)) (B:=Unit) (fun a15=>tJ a10 (bK (iA fuel p0 p1) k12) a15=some r) (fun a15 b16=>[(1,Value.int .i64 (p1)),(2,Value.pointer (some ⟨b1,0,none⟩)),(5,u3),(6,Value.int .i64 (a10.1))]) (fun a15 b16=>[Ar cA u3 a15,bR b1 [v0,v1,v2,Value.int .i64 (p0.2.2.2.1),Value.int .i64 (p0.2.2.2.2.1),Value.int .i64 (p0.2.2.2.2.2.1),Value.int .i64 (p0.2.2.2.2.2.2.1),Value.int .u32 (p0.2.2.2.2.2.2.2)] 44]) (fun a15 b16=>[Sl jE v0 p0.1,Sl jE v1 p0.2.1,S2 aR v2 z3 p0.2.2.1]) ?_ ?_
   ·refine aU<|sqR<|qkAsg rfl<|dtN<|aU<|bY (A:=Int×List (Int)) (B:=Unit) (kZ fuel p0 p1 a10 (bK (iA fuel p0 p1) k12)) (fun a20 b21=>[(1,Value.int .i64 (p1)),(2,Value.pointer (some ⟨b1,0,none⟩)),(5,u3),(6,Value.int .i64 (a10.1)),(7,Value.int .i64 (a20.1))]) (fun a20 b21=>[Ar cA u3 a20.2,bR b1 [v0,v1,v2,Value.int .i64 (p0.2.2.2.1),Value.int .i64 (p0.2.2.2.2.1),Value.int .i64 (p0.2.2.2.2.2.1),Value.int .i64 (p0.2.2.2.2.2.2.1),Value.int .u32 (p0.2.2.2.2.2.2.2)] 44]) (fun a20 b21=>[Sl jE v0 p0.1,Sl jE v1 p0.2.1,S2 aR v2 z3 p0.2.2.1]) ((0:Int),a10.2) (()) h SF (aP.refl _) (aA.refl _ _) ?_
    clear h
    intro k22 a20 b21 h
    unfold kZ at h
    refine aO<|sqR<|qkMove rfl<|qkMove rfl<|qkLss rfl<|dtN ?_
    refine eR h rfl (fun _ h=>?_) fun _ h=>?_
    ·refine aW<|aI<|aO<|bL (A:=List (Int)) (B:=Unit) (fun a25=>pY a20 (bK (kZ fuel p0 p1 a10 (bK (iA fuel p0 p1) k12)) k22) a25=some r) (fun a25 b26=>[(1,Value.int .i64 (p1)),(2,Value.pointer (some ⟨b1,0,none⟩)),(5,u3),(6,Value.int .i64 (a10.1)),(7,Value.int .i64 (a20.1))]) (fun a25 b26=>[Ar cA u3 a25,bR b1 [v0,v1,v2,Value.int .i64 (p0.2.2.2.1),Value.int .i64 (p0.2.2.2.2.1),Value.int .i64 (p0.2.2.2.2.2.1),Value.int .i64 (p0.2.2.2.2.2.2.1),Value.int .u32 (p0.2.2.2.2.2.2.2)] 44]) (fun a25 b26=>[Sl jE v0 p0.1,Sl jE v1 p0.2.1,S2 aR v2 z3 p0.2.2.1]) ?_ ?_
     ·refine aU<|sqR<|qkFld rfl<|qkLd 1 rfl<|qkMove rfl ?_
      have⟨hc27,h⟩:=aN h
      refine aB (bE rfl rfl (aC.fact 0 rfl) rfl rfl hc27) rfl<|aB (bZ rfl (aC.fact 0 rfl) rfl rfl rfl Bv hc27) rfl<|qkMove rfl ?_
      have⟨r28,hr29,h⟩:=fJ h
      refine aL (aJ OQ (DJ fuel  r28 hr29) rfl .nil (fun _ _=>rfl)) rfl fun x30=>dtN ?_
      refine zN h rfl (fun _ h=>?_) fun _ h=>?_
      ·refine aS<|qkMove rfl<|qkMove rfl ?_
       have⟨hc32,h⟩:=aN h
       refine aB (bE rfl rfl (aZ (aC.res 0 rfl) cR) rfl rfl hc32) rfl<|aB (bZ rfl (aZ (aC.res 0 rfl) cR) rfl rfl rfl dU hc32) rfl<|qkAdd rfl ?_
       have⟨hc33,h⟩:=aN h
       refine aB (bE rfl rfl (aZ (aC.res 0 rfl) cR) rfl rfl hc33) rfl<|s_ 0 (wI .i64 ((at' a20.2 a20.1)+(1:Int))) hc33 rfl rfl rfl rfl rfl rfl rfl<|eD<|bV<|aI ?_
       exact jA (List.set a20.2 (Int.toNat a20.1) (wI .i64 ((at' a20.2 a20.1)+(1:Int)))) (()) h SF rfl
      refine aW<|bV<|aI ?_
      exact jA (a20.2) (()) h SF rfl
     clear h
     intro a25 b26 h
     unfold pY at h
     refine aS<|qkMove rfl<|qkAdd rfl<|qkAsg rfl<|dtN ?_
     exact xG ((wI .i64 (a20.1+(1:Int))),a25) (()) h SF rfl
    refine cE<|aY<|aY<|dJ<|bV<|aI ?_
    exact jA (a20.2) (()) h SF rfl
   clear h
   intro a15 b16 h
   unfold tJ at h
   refine aS<|qkMove rfl<|qkAdd rfl<|qkAsg rfl<|dtN ?_
   exact xG ((wI .i64 (a10.1+(1:Int))),a15) (()) h SF rfl
  refine cE<|aY<|aY<|dJ<|aI ?_
  exact cM (a10.2) (()) h SF (aP.ix [0] rfl rfl) (aA.refl _ _)
 clear h
 intro a5 b6 h
 unfold tI at h
 refine sqR<|qkMove rfl<|qkAsg rfl<|dtN<|aX ?_
 cases h
 exact fO (u3) rfl rfl (RV.tmp rfl) (aP.refl _) aA.nil
end Go.Proofs.YtigggfnchamobaaGreatDoor
end
section
namespace Go.Proofs.YtigggfnchamobaaGreatDoor
open Go.Sx
def sA  (a3:List (Int)):Option (List (Int)):=
 some (a3)
def o_ (a9:List (Int)×Int) (ag8:(List (Int)×Int)->Option (List (Int))) (a15:List (Int)):Option (List (Int)):=
 ag8 (a15,(wI .i64 (a9.2+(1:Int))))
def kC (p0:List (Int)) (p1:Int) (a9:List (Int)×Int) (ag8:(List (Int)×Int)->Option (List (Int))):Option (List (Int)):=
 if a9.2<p1 then(if(List.length p0:Int)=(0:Int)then(ck ((List.length a9.1:Int)+(List.length ([(4294967295:Int)]):Int)<=1099511627) (o_ a9 ag8 (a9.1++([(4294967295:Int)]))))else(ck ((List.length p0:Int)≠0) (ck (0<=(Int.tmod a9.2 (List.length p0:Int))∧(Int.tmod a9.2 (List.length p0:Int))<(List.length p0:Int)) (ck ((List.length p0:Int)≠0) (ck ((24:Int)≠0) (ck (0<=(wI .u64 (Int.tmod (wI .i64 (Int.tdiv a9.2 (List.length p0:Int))) (24:Int)))) (ck (0<=(wI .u64 ((24:Int) - (wI .u64 (Int.tmod (wI .i64 (Int.tdiv a9.2 (List.length p0:Int))) (24:Int)))))) (ck ((List.length a9.1:Int)+(List.length ([(dD .u32 (Ho .u32 (yP .u32 (dD .u32 (at' p0 (Int.tmod a9.2 (List.length p0:Int))) (16777215:Int)) (wI .u64 (Int.tmod (wI .i64 (Int.tdiv a9.2 (List.length p0:Int))) (24:Int)))) (pH .u32 (dD .u32 (at' p0 (Int.tmod a9.2 (List.length p0:Int))) (16777215:Int)) (wI .u64 ((24:Int) - (wI .u64 (Int.tmod (wI .i64 (Int.tdiv a9.2 (List.length p0:Int))) (24:Int))))))) (16777215:Int))]):Int)<=1099511627) (o_ a9 ag8 (a9.1++([(dD .u32 (Ho .u32 (yP .u32 (dD .u32 (at' p0 (Int.tmod a9.2 (List.length p0:Int))) (16777215:Int)) (wI .u64 (Int.tmod (wI .i64 (Int.tdiv a9.2 (List.length p0:Int))) (24:Int)))) (pH .u32 (dD .u32 (at' p0 (Int.tmod a9.2 (List.length p0:Int))) (16777215:Int)) (wI .u64 ((24:Int) - (wI .u64 (Int.tmod (wI .i64 (Int.tdiv a9.2 (List.length p0:Int))) (24:Int))))))) (16777215:Int))])))))))))))else(sA  (a9.1))
def qC (fuel:Nat) (p0:List (Int)) (p1:Int):Option (List (Int)):=
 bK (kC p0 p1) fuel (([]:List Int),(0:Int))
theorem EF:aV Tryz.prog 14:=Tryz.call14
theorem qE (fuel:Nat) {p0:List (Int)} {p1:Int} (v0:Value) (r:List (Int)) (h:qC fuel p0 p1=some r):
  bA Tryz.prog 14 #[v0,Value.int .i64 (p1)] [Sl jE v0 p0] (fun x:Value=>x) (fun x l=>Ar jO x r::l) (fun _ l=>l):=by
 refine bA.of (vs:=[v0,Value.int .i64 (p1)]) Tryz.func14 rfl Tryz.ntmps14 rfl fun c=>?_
 unfold qC at h
 refine sqR<|qkAsg rfl<|dtN<|sqR<|qkAsg rfl<|dtN<|aO<|bL (A:=List (Int)) (B:=Value) (fun a3=>sA  a3=some r) (fun a3 b4=>[(5,b4)]) (fun a3 b4=>[Ar jO b4 a3]) (fun a3 b4=>[Sl jE v0 p0]) ?_ ?_
 ·refine sqR<|qkAsg rfl<|dtN<|aU<|jR (iU jO)<|bY (A:=List (Int)×Int) (B:=Value) (kC p0 p1) (fun a9 b10=>[(0,v0),(1,Value.int .i64 (p1)),(5,b10),(6,Value.int .i64 (a9.2))]) (fun a9 b10=>[Ar jO b10 a9.1]) (fun a9 b10=>[Sl jE v0 p0]) (([]:List Int),(0:Int)) (Value.slice none 0 0) h SF (aP.refl _) (aA.refl _ _) ?_
  clear h
  intro k11 a9 b10 h
  unfold kC at h
  refine aO<|sqR<|qkMove rfl<|qkMove rfl<|qkLss rfl<|dtN ?_
  refine eR h rfl (fun _ h=>?_) fun _ h=>?_
  ·refine aW<|aI<|aO<|bL (A:=List (Int)) (B:=Value) (fun a15=>o_ a9 (bK (kC p0 p1) k11) a15=some r) (fun a15 b16=>[(0,v0),(1,Value.int .i64 (p1)),(5,b16),(6,Value.int .i64 (a9.2))]) (fun a15 b16=>[Ar jO b16 a15]) (fun a15 b16=>[Sl jE v0 p0]) ?_ ?_
   ·refine aU<|aO<|sqR<|qkMove rfl<|aB (cB rfl (aC.fact 0 rfl) rfl) rfl<|qkEql rfl<|dtN ?_
    refine eR h rfl (fun _ h=>?_) fun _ h=>?_
    ·refine sqR<|qkMove rfl<|aL (cJ (e:=jO) ([(4294967295:Int)]) [(0,Value.int .u32 (4294967295:Int))] rfl rfl rfl rfl (nP (Value.int .u32 (4294967295:Int)) rfl) rfl rfl rfl) rfl fun u18=>?_
     have⟨hc20,h⟩:=aN h
     refine aL (gH 1 kM rfl rfl rfl (aZ (aC.res 0 rfl) kM) rfl rfl rfl rfl hc20 rfl) rfl fun u19=>qkAsg rfl<|dtN<|cE<|aY<|dJ<|aI ?_
     exact cM (a9.1++([(4294967295:Int)])) (u19) h SF (aP.ix [1] rfl rfl) (aA.refl _ _)
    refine aW<|aI<|aO ?_
    refine JR.start [0,0,0,4,14,31,63,0,0,256,896,1920,3968,127,16383] 14 mixedOrders (by decide +kernel) ?_
    refine JR.open (by exact rfl) ?_
    refine jkMove rfl<|jkMove rfl<|jkMove rfl<|aT rfl .nil (cW.cons (List.mem_of_getElem? (i:=0) rfl) .nil) (cB rfl (aC.fact 0 rfl) rfl) aF.z ?_
    have⟨hc21,h⟩:=aN h
    refine aT rfl .nil .nil (IQ rfl rfl hc21) aF.z ?_
    have⟨hc22,h⟩:=aN h
    refine aT rfl .nil (cW.cons (List.mem_of_getElem? (i:=0) rfl) .nil) (bE rfl rfl (aC.fact 0 rfl) rfl rfl hc22) aF.z<|aT rfl .nil (cW.cons (List.mem_of_getElem? (i:=0) rfl) .nil) (bZ rfl (aC.fact 0 rfl) rfl rfl rfl Bv hc22) aF.z<|jkMove rfl<|jkMove rfl<|aT rfl .nil (cW.cons (List.mem_of_getElem? (i:=0) rfl) .nil) (cB rfl (aC.fact 0 rfl) rfl) aF.z ?_
    have⟨hc23,h⟩:=aN h
    refine aT rfl .nil .nil (OE rfl rfl hc23) aF.z ?_
    have⟨hc24,h⟩:=aN h
    refine aT rfl .nil .nil (IQ rfl rfl hc24) aF.z<|aT rfl .nil .nil (Hj rfl rfl rfl) aF.z<|aT rfl .nil .nil (tB rfl) aF.z<|bS 14 rfl rfl<|qkAsg rfl<|dtN<|sqR<|qkMove rfl<|aB (pU rfl rfl) rfl<|qkAsg rfl<|dtN<|aS<|qkMove rfl<|qkMove rfl<|qkMove rfl ?_
    have⟨hc25,h⟩:=aN h
    refine aB (IR rfl rfl hc25) rfl<|qkMove rfl<|qkMove rfl<|aB (pV rfl rfl) rfl ?_
    have⟨hc26,h⟩:=aN h
    refine aB (Bd rfl rfl hc26) rfl<|aB (Rs rfl rfl) rfl<|aB (pU rfl rfl) rfl<|aL (cJ (e:=jO) ([(dD .u32 (Ho .u32 (yP .u32 (dD .u32 (at' p0 (Int.tmod a9.2 (List.length p0:Int))) (16777215:Int)) (wI .u64 (Int.tmod (wI .i64 (Int.tdiv a9.2 (List.length p0:Int))) (24:Int)))) (pH .u32 (dD .u32 (at' p0 (Int.tmod a9.2 (List.length p0:Int))) (16777215:Int)) (wI .u64 ((24:Int) - (wI .u64 (Int.tmod (wI .i64 (Int.tdiv a9.2 (List.length p0:Int))) (24:Int))))))) (16777215:Int))]) [(0,Value.int .u32 (dD .u32 (Ho .u32 (yP .u32 (dD .u32 (at' p0 (Int.tmod a9.2 (List.length p0:Int))) (16777215:Int)) (wI .u64 (Int.tmod (wI .i64 (Int.tdiv a9.2 (List.length p0:Int))) (24:Int)))) (pH .u32 (dD .u32 (at' p0 (Int.tmod a9.2 (List.length p0:Int))) (16777215:Int)) (wI .u64 ((24:Int) - (wI .u64 (Int.tmod (wI .i64 (Int.tdiv a9.2 (List.length p0:Int))) (24:Int))))))) (16777215:Int)))] rfl rfl rfl rfl (nP (Value.int .u32 (dD .u32 (Ho .u32 (yP .u32 (dD .u32 (at' p0 (Int.tmod a9.2 (List.length p0:Int))) (16777215:Int)) (wI .u64 (Int.tmod (wI .i64 (Int.tdiv a9.2 (List.length p0:Int))) (24:Int)))) (pH .u32 (dD .u32 (at' p0 (Int.tmod a9.2 (List.length p0:Int))) (16777215:Int)) (wI .u64 ((24:Int) - (wI .u64 (Int.tmod (wI .i64 (Int.tdiv a9.2 (List.length p0:Int))) (24:Int))))))) (16777215:Int))) rfl) rfl rfl rfl) rfl fun u27=>?_
    have⟨hc29,h⟩:=aN h
    refine aL (gH 1 kM rfl rfl rfl (aZ (aC.res 0 rfl) kM) rfl rfl rfl rfl hc29 rfl) rfl fun u28=>qkAsg rfl<|eD<|bV<|aI ?_
    exact cM (a9.1++([(dD .u32 (Ho .u32 (yP .u32 (dD .u32 (at' p0 (Int.tmod a9.2 (List.length p0:Int))) (16777215:Int)) (wI .u64 (Int.tmod (wI .i64 (Int.tdiv a9.2 (List.length p0:Int))) (24:Int)))) (pH .u32 (dD .u32 (at' p0 (Int.tmod a9.2 (List.length p0:Int))) (16777215:Int)) (wI .u64 ((24:Int) - (wI .u64 (Int.tmod (wI .i64 (Int.tdiv a9.2 (List.length p0:Int))) (24:Int))))))) (16777215:Int))])) (u28) h SF (aP.ix [1] rfl rfl) (aA.refl _ _)
   clear h
   intro a15 b16 h
   unfold o_ at h
   refine aS<|qkMove rfl<|qkAdd rfl<|qkAsg rfl<|dtN ?_
   exact xG (a15,(wI .i64 (a9.2+(1:Int)))) (b16) h SF rfl
  refine cE<|aY<|aY<|dJ<|aI ?_
  exact jA (a9.1) (b10) h SF rfl
 clear h
 intro a3 b4 h
 unfold sA at h
 refine sqR<|qkMove rfl<|qkAsg rfl<|dtN<|aX ?_
 cases h
 exact fO (b4) rfl rfl (RV.tmp rfl) (aP.refl _) aA.nil
end Go.Proofs.YtigggfnchamobaaGreatDoor
end
section
namespace Go.Proofs.YtigggfnchamobaaGreatDoor
open Go Go.Sx
theorem OO (f:Nat) {m v:Nat} (hm:m<4294967296) (hv:v<32):sT f (m:Int) (v:Int)=some (m.testBit v):=by
 unfold sT qQ
 rw[if_pos (by omega),if_pos (by omega),Zi hv,dV (by omega)]
 congr 1
 rw[Bool.eq_iff_iff,decide_eq_true_eq]
 exact KL hv hm
theorem Ka (x:Int):0<=wI .u64 x:=by
 rw[Bq]
 have:IntKind.u64.wrap x=x%18446744073709551616:=rfl
 rw[this];omega
theorem NU (l:List Int) {n:Nat} (hn:n<=900):∃ws,qC 1000 l (n:Int)=some ws∧ws.length=n∧∀k:Nat,k<ws.length->∃m:Nat,at' ws (k:Int)=(m:Int)∧m<4294967296:=by
 unfold qC
 obtain⟨⟨ws,i⟩,⟨hi,hl,hb⟩,he⟩:=Aj (step:=kC l (n:Int)) (K:=fun z=>some z.1) n
  (fun k z=>z.2=(k:Int)∧z.1.length=k∧∀j:Nat,j<k->∃m:Nat,at' z.1 (j:Int)=(m:Int)∧m<4294967296) (fun k z ag hk hI=>by
  obtain⟨ws,i⟩:=z
  obtain⟨hi,hl,hb⟩:=hI
  dsimp only at hi hl hb
  subst hi
  have snoc:∀m:Nat,m<4294967296->∀j:Nat,j<k+1->∃m':Nat,at' (ws++[(m:Int)]) (j:Int)=(m':Int)∧m'<4294967296:=fun m hm j hj=>by
   rw[HY ws _ (by omega)]
   by_cases e:j<ws.length
   ·rw[if_pos e];exact hb j (by omega)
   ·rw[if_neg e];exact⟨m,rfl,hm⟩
  have hin:∀m:Nat,(List.length ws:Int)+(List.length [(m:Int)]:Int)<=1099511627:=fun m=>by simp;omega
  unfold kC o_
  dsimp only
  rw[if_pos (by omega),eT (by omega)]
  by_cases h0:l.length=0
  ·rw[if_pos (by omega),dV (show(List.length ws:Int)+(List.length [(4294967295:Int)]:Int)<=1099511627 from hin 4294967295)]
   exact⟨_,⟨rfl,by simp[hl],snoc 4294967295 (by omega)⟩,rfl⟩
  ·have e1:Int.tmod (k:Int) (l.length:Int)=((k%l.length:Nat):Int):=rfl
   have hlt:k%l.length<l.length:=Nat.mod_lt _ (by omega)
   rw[if_neg (by omega),dV (by omega),dV (by rw[e1];omega),dV (by omega),dV (by decide),dV (Ka _),dV (Ka _)]
   have hX:∀X:Int,∃m:Nat,dD .u32 X (16777215:Int)=(m:Int)∧m<4294967296:=fun X=>⟨_,DZ _ _,Nat.lt_of_le_of_lt Nat.and_le_left (Hg _)⟩
   obtain⟨m,hm,hm32⟩:=hX (Ho .u32 (yP .u32 (dD .u32 (at' l (Int.tmod (k:Int) (l.length:Int))) (16777215:Int)) (wI .u64 (Int.tmod (wI .i64 (Int.tdiv (k:Int) (l.length:Int))) (24:Int)))) (pH .u32 (dD .u32 (at' l (Int.tmod (k:Int) (l.length:Int))) (16777215:Int)) (wI .u64 ((24:Int) - (wI .u64 (Int.tmod (wI .i64 (Int.tdiv (k:Int) (l.length:Int))) (24:Int)))))))
   rw[hm,dV (hin m)]
   exact⟨_,⟨rfl,by simp[hl],snoc m hm32⟩,rfl⟩) (fun z ag hI=>by
  obtain⟨ws,i⟩:=z
  obtain⟨hi,hl,hb⟩:=hI
  dsimp only at hi
  subst hi
  unfold kC sA
  dsimp only
  rw[if_neg (by omega)]) 1000 (([]:List Int),(0:Int)) ⟨rfl,rfl,fun j hj=>by omega⟩ (by omega)
 exact⟨ws,he,hl,fun k hk=>hb k (by dsimp only at hl;omega)⟩
theorem JK {α:Type} [Inhabited α] (l:List α) {k:Nat} (h:k<l.length):l.set k (at' l (k:Int))=l:=by
 have:=BL l (k:Int) (by simpa using h) (by omega)
 simpa using this

def vS (ch:List Nat) (v:Nat):Nat:=ch.countP fun t=>t.testBit v
theorem Gj (ch:List Nat) (t v:Nat):vS (ch++[t]) v=vS ch v+if t.testBit v=true then 1 else 0:=by
 unfold vS
 rw[List.countP_append]
 cases h:t.testBit v<;>simp[h]
theorem Qc {ch:List Nat} (hch:∀t∈ch,t<4294967296) (hl:ch.length<=900) {n:Nat} (hn:n<=24) (r1:List Int) (r2:List (List Int)) (r3:CT):pD 1000 (BH ch,r1,r2,r3) (n:Int)=some ((List.range n).map fun v=>((vS ch v:Nat):Int)):=by
 have hil:(BH ch).length=ch.length:=by simp[BH]
 unfold pD
 rw[dV (by omega)]
 let F:Nat->Nat->Int:=fun k v=>((vS (ch.take k) v:Nat):Int)
 let Q:Nat->List Int:=fun k=>(List.range n).map (F k)
 have hle:∀k v,vS (ch.take k) v<=900:=fun k v=>Nat.le_trans List.countP_le_length (by simp;omega)
 rw[show List.replicate (Int.toNat (n:Int)) (0:Int)=Q 0 by
  refine List.ext_getElem (by simp[Q]) fun i h1 h2=> ?_
  simp[Q,F,vS]]
 have:=eI (step:=iA 1000 (BH ch,r1,r2,r3) (n:Int)) (K:=some (Q ch.length)) ch.length (fun k=>((k:Int),Q k)) (fun k ag hk=>by
  unfold iA
  dsimp only
  rw[if_pos (by omega)]
  have ht:at' (BH ch) (k:Int)=((ch[k]:Nat):Int):=by rw[jY (by omega)];simp[BH]
  have ht32:=hch ch[k] (List.getElem_mem hk)
  have htk:ch.take (k+1)=ch.take k++[ch[k]]:=by rw[AS hk,jY hk]
  let G:Nat->List Int:=fun j=>(List.range j).map (F (k+1))++(List.range' j (n - j)).map (F k)
  have hG:∀j,j<=n->(G j).length=n:=fun j hj=>by simp[G];omega
  have hGj:∀j,j<n->at' (G j) (j:Int)=F k j:=fun j hj=>by
   rw[jY (by rw[hG j (by omega)];exact hj)];simp[G]
  have hGs:∀j,j<n->(G j).set j (F (k+1) j)=G (j+1):=fun j hj=>by
   show((List.range j).map (F (k+1))++(List.range' j (n - j)).map (F k)).set j (F (k+1) j)=(List.range (j+1)).map (F (k+1))++(List.range' (j+1) (n - (j+1))).map (F k)
   rw[List.set_append_right _ _ (by simp),List.length_map,List.length_range,Nat.sub_self,show n - j=(n - (j+1))+1 by omega,List.range'_succ,List.map_cons,List.set_cons_zero,List.range_succ,List.map_append,List.map_singleton,List.append_assoc]
   rfl
  rw[show Q k=G 0 by simp[Q,G,List.range_eq_range']]
  refine Eq.trans (eI (step:=kZ 1000 (BH ch,r1,r2,r3) (n:Int) ((k:Int),G 0) ag) (K:=ag (((k+1:Nat):Int),Q (k+1))) n (fun j=>((j:Int),G j)) (fun j ag2 hj=> ?_) (fun ag2=> ?_) 1000 (by omega)) rfl
  ·have hs:=Gj (ch.take k) ch[k] j
   rw[<-htk]at hs
   have:=hle k j
   unfold kZ pY
   dsimp only
   rw[if_pos (by omega),dV (by omega),ht,bN (OO 1000 ht32 (by omega)),eT (by omega)]
   by_cases hb:ch[k].testBit j=true
   ·rw[if_pos hb,dV (by rw[hG j (by omega)];omega),dV (by rw[hG j (by omega)];omega),hGj j hj,Int.toNat_natCast,eT (by omega)]
    rw[if_pos hb]at hs
    have:(((vS (ch.take k) j+1:Nat)):Int)=F (k+1) j:=by simp only[F];rw[hs]
    rw[this,hGs j hj]
   ·rw[if_neg hb]
    rw[if_neg hb]at hs
    have e:F (k+1) j=at' (G j) (j:Int):=by rw[hGj j hj];simp only[F];rw[hs];rfl
    rw[<-hGs j hj,e,JK (G j) (by rw[hG j (by omega)];exact hj)]
  ·unfold kZ tJ
   dsimp only
   rw[if_neg (by omega),eT (by omega)]
   simp[G,Q]) (fun ag=>by
  unfold iA tI
  dsimp only
  rw[if_neg (by omega)]) 1000 (by omega)
 refine Eq.trans this ?_
 simp[Q,F]
end Go.Proofs.YtigggfnchamobaaGreatDoor
end
section
namespace Go.Proofs.YtigggfnchamobaaGreatDoor
open Go Go.Sx
def YZ:E:= .ag 21 (.bi 35 (.lf 12 0) (.lf 5 0))
def Zh:E:= .ag 27 (.lf 12 0)
def RC:List RL:=[(YZ,[(0,Zh)])]
theorem Th:wH 1 RC=true:=by decide +kernel
theorem Xn (g:GR) (v:Nat):lo g (at' q_ ((0:Nat):Int)) v=0:=rfl
theorem Xl (g:GR) (v:Nat):hi g (at' q_ ((0:Nat):Int)) v=(g.2.length:Int):=by
 show(0:Int)+1*(g.2.length:Int)+0*jW g g.1.length=_
 omega
theorem Xe {g:GR} (hV:VG g):Bw g q_:=by
 have h24:=hV.n24
 refine⟨by decide,MD,fun x hx=> ?_,fun x hx _=> ?_⟩
 ·obtain rfl:x=0:=by simp[q_]at hx;exact hx
  exact .inl rfl
 ·obtain rfl:x=0:=by simp[q_]at hx;exact hx
  rw[Xn,Xl];omega
def LT (c:List (List Int)) (v:Nat):Int:=at' (at' c (v:Int)) 0
def Am (g:GR) (c:List (List Int)) (v i:Nat):Int:=at' (at' c (iS (row g v) i).1) 0
theorem Cp {g:GR} {c:List (List Int)} {v i u:Nat} (h:(iS (row g v) i).1=(u:Int)):Am g c v i=LT c u:=by unfold Am LT;rw[h]
def No (g:GR) (c:List (List Int)) (v:Nat):Prop:=∃i,i<(row g v).length∧Am g c v i=LT c v
section
variable {p:DL} {g:GR} {c:List (List Int)} {v:Nat}
theorem UW:vJ (fN p g) c v YZ=IT (((List.range (row g v).length).map fun q=>IT (decide (Am g c v q=LT c v))).any nz):=rfl
theorem Vy:vJ (fN p g) c v Zh=((Cn ((List.range (row g v).length).map fun q=>Am g c v q):Nat):Int):=rfl
theorem SJ:vJ (fN p g) c v YZ≠0↔No g c v:=by
 rw[UW]
 unfold No
 cases h:((List.range (row g v).length).map fun q=>IT (decide (Am g c v q=LT c v))).any nz with
 |false=>
  simp only[IT,Bool.false_eq_true,if_false,ne_eq,not_true_eq_false,false_iff]
  rintro⟨i,hi,he⟩
  have:=List.any_eq_false.1 h (IT (decide (Am g c v i=LT c v))) (List.mem_map.2 ⟨i,List.mem_range.2 hi,rfl⟩)
  rw[he]at this
  simp[IT,nz]at this
 |true=>
  refine iff_of_true (by simp[IT]) ?_
  obtain⟨x,hx,hn⟩:=List.any_eq_true.1 h
  obtain⟨i,hi,rfl⟩:=List.mem_map.1 hx
  refine⟨i,List.mem_range.1 hi,?_⟩
  by_cases e:Am g c v i=LT c v
  ·exact e
  ·simp[IT,nz,e]at hn
theorem Do:0<=uW (fN p g) RC c v↔No g c v:=by
 rw[<-SJ (p:=p)]
 constructor
 ·intro h
  obtain⟨i,h1,h2,h3⟩:=(Cy (fN p g) RC c v).resolve_left (fun e=>by omega)
  obtain rfl:i=0:=by simp[RC]at h2;exact h2
  exact h3
 ·intro h
  rcases Cy (fN p g) RC c v with e|⟨i,h1,_⟩
  ·exact absurd (Ld.1 e 0 (by simp[RC])) h
  ·omega
theorem Lc (h:No g c v):uW (fN p g) RC c v=0:=by
 obtain⟨i,h1,h2,_⟩:=(Cy (fN p g) RC c v).resolve_left (fun e=>by have:=(Do (p:=p)).2 h;omega)
 obtain rfl:i=0:=by simp[RC]at h2;exact h2
 exact h1
theorem Ml (g:GR) (c:List (List Int)) (v:Nat):Cn ((List.range (row g v).length).map fun q=>Am g c v q)<=(row g v).length:=by
 have:=(Co ((List.range (row g v).length).map fun q=>Am g c v q)).2.2
 simpa using this
theorem WO (hV:VG g) (hv:v<g.2.length) (hr:(at' c (v:Int)).length=1):at' (Bj (fN p g) q_ RC c v 0) 0=((Cn ((List.range (row g v).length).map fun q=>Am g c v q):Nat):Int):=by
 have hm:=Ml g c v
 have hdeg:=(hV.node v hv).deg
 have e:Bj (fN p g) q_ RC c v 0=(at' c (v:Int)).set 0 (CW 1 (Be g q_ v 0) (vJ (fN p g) c v Zh)):=rfl
 have ec:Be g q_ v 0=(0,(g.2.length:Int)):=by unfold Be;rw[Xn,Xl]
 rw[e,ec,Vy]
 have eb:CW 1 (0,(g.2.length:Int)) ((Cn ((List.range (row g v).length).map fun q=>Am g c v q):Nat):Int)=((Cn ((List.range (row g v).length).map fun q=>Am g c v q):Nat):Int):=by
  unfold CW;rw[if_pos ⟨by dsimp only;omega,by dsimp only;omega⟩]
 rw[eb]
 have:=Bz (at' c (v:Int)) 0 0 ((Cn ((List.range (row g v).length).map fun q=>Am g c v q):Nat):Int) (by omega)
 rw[if_pos rfl]at this
 exact this
end
def Re (f:Nat->Nat):Nat->Nat
 |0=>0
 |n+1=>Re f n+f n
theorem QE {f:Nat->Nat}:∀{n:Nat},(∀v,v<n->f v<=1)->Re f n<=n
 |0,_=>Nat.le_refl 0
 |n+1,h=>by
  have:=QE (n:=n) fun v hv=>h v (by omega)
  have:=h n (by omega)
  simp only[Re];omega
theorem JQ {f h:Nat->Nat}:∀{n:Nat},(∀v,v<n->f v<=h v)->Re f n<=Re h n
 |0,_=>Nat.le_refl 0
 |n+1,k=>by
  have:=JQ (n:=n) fun v hv=>k v (by omega)
  have:=k n (by omega)
  simp only[Re];omega
theorem QF {f h:Nat->Nat}:∀{n:Nat} {u:Nat},(∀v,v<n->f v<=h v)->u<n->f u<h u->Re f n<Re h n
 |0,u,_,hu,_=>absurd hu (Nat.not_lt_zero u)
 | n + 1, u, k, hu, hl => by
  simp only[Re]
  by_cases e:u=n
  ·subst e
   have:=JQ (n:=u) fun v hv=>k v (by omega)
   omega
  ·have:=QF (n:=n) (u:=u) (fun v hv=>k v (by omega)) (by omega) hl
   have:=k n (by omega)
   omega
structure TT (g:GR) (lv:Nat) (k:Nat) (c:List (List Int)) (ch:List Nat):Prop where
 r:Tw g c q_
 one:∀v,v<g.2.length->vS ch v<=1
 done:∀v,v<g.2.length->1<=vS ch v->lv.testBit v=true∧¬No g c v
 sum:k<=Re (vS ch) g.2.length
 sets:∀t∈ch,t<4294967296
theorem WY {p:DL} {g:GR} (hV:VG g) {lv k t:Nat} {c:List (List Int)} {ch:List Nat} (hI:TT g lv k c ch) (ht0:t≠0) (hsub:∀i,t.testBit i=true->(AX (fN p g) RC lv c).testBit i=true) (hind:∀v u,t.testBit v=true->t.testBit u=true->¬Ig g v u):TT g lv (k+1) (sU (fN p g) q_ RC c t) (ch++[t]):=by
 have hcl:=hI.r.len
 have hin:∀v,t.testBit v=true->v<g.2.length∧No g c v∧lv.testBit v=true:=fun v hv=>by
  obtain⟨h1,h2,h3⟩:=(Ea (fN p g) RC lv c v).1 (hsub v hv)
  exact⟨h1,Do.1 h2,h3⟩
 have hcnt:∀v,vS (ch++[t]) v=vS ch v+if t.testBit v=true then 1 else 0:=Gj ch t
 have hrow:∀v,v<g.2.length->(at' c (v:Int)).length=1:=fun v hv=>hI.r.row v hv
 have hat:∀v,v<g.2.length->at' (sU (fN p g) q_ RC c t) (v:Int)=if t.testBit v=true then Bj (fN p g) q_ RC c v (uW (fN p g) RC c v)else at' c (v:Int):=fun v hv=>JL (by rw[hcl];exact hv)
 have hcol1:∀v,t.testBit v=true->LT (sU (fN p g) q_ RC c t) v=((Cn ((List.range (row g v).length).map fun q=>Am g c v q):Nat):Int):=fun v hv=>by
  obtain⟨h1,h2,_⟩:=hin v hv
  unfold LT
  rw[hat v h1,if_pos hv,Lc h2]
  exact WO hV h1 (hrow v h1)
 have hcol0:∀v,v<g.2.length->t.testBit v=false->LT (sU (fN p g) q_ RC c t) v=LT c v:=fun v hv hb=>by
  unfold LT
  rw[hat v hv,if_neg (by rw[hb];decide)]
 have hzero:∀v,t.testBit v=true->vS ch v=0:=fun v hv=>by
  obtain⟨h1,h2,_⟩:=hin v hv
  rcases Nat.eq_zero_or_pos (vS ch v)with e|e
  ·exact e
  ·exact absurd h2 (hI.done v h1 e).2
 have ht32:t<4294967296:=by have:=Of.lt hV (fun i hi=>(hin i hi).1);omega
 refine⟨⟨by rw[GJ,hcl],fun v hv=> ?_,fun v hv x hx=> ?_⟩,fun v hv=> ?_,fun v hv h1=> ?_,?_,fun s hs=> ?_⟩
 ·rw[hat v hv]
  split
  ·rw[GB];exact hrow v hv
  ·exact hrow v hv
 ·obtain rfl:x=0:=by simp[q_]at hx;exact hx
  rw[Xn,Xl]
  show 0<=LT (sU (fN p g) q_ RC c t) v∧LT (sU (fN p g) q_ RC c t) v<=_
  cases hb:t.testBit v with
  |true=>
   have:=Ml g c v
   have:=(hV.node v hv).deg
   rw[hcol1 v hb];omega
  |false=>
   have:=hI.r.ok v hv 0 (by decide)
   rw[Xn,Xl]at this
   rw[hcol0 v hv hb];exact this
 ·rw[hcnt]
  have:=hI.one v hv
  split
  ·rename_i hb;rw[hzero v hb];omega
  ·omega
 ·cases hb:t.testBit v with
  | true =>
   obtain⟨_,_,hl⟩:=hin v hb
   refine⟨hl,?_⟩
   rintro⟨i,hi,he⟩
   obtain⟨u,hu,hue,hadj⟩:=hV.port hv hi
   have hub:t.testBit u=false:=by
    cases hq:t.testBit u with
    |false=>rfl
    |true=>exact absurd hadj (hind v u hb hq)
   rw[Cp hue,hcol0 u hu hub,hcol1 v hb]at he
   have:=(Co ((List.range (row g v).length).map fun q=>Am g c v q)).1
   refine this (List.mem_map.2 ⟨i,List.mem_range.2 hi,?_⟩)
   rw[Cp hue];exact he
  | false =>
   rw[hcnt,if_neg (by rw[hb];decide)]at h1
   obtain⟨h2,h3⟩:=hI.done v hv h1
   refine⟨h2,?_⟩
   rintro⟨i,hi,he⟩
   obtain⟨u,hu,hue,hadj⟩:=hV.port hv hi
   rw[Cp hue,hcol0 v hv hb]at he
   cases hub:t.testBit u with
   |false=>
    rw[hcol0 u hu hub]at he
    exact h3 ⟨i,hi,by rw[Cp hue];exact he⟩
   |true=>
    rw[hcol1 u hub]at he
    obtain⟨j,hj,hjv⟩:=hV.back hv hadj
    refine(Co ((List.range (row g u).length).map fun q=>Am g c u q)).1 (List.mem_map.2 ⟨j,List.mem_range.2 hj,?_⟩)
    rw[Cp hjv];exact he.symm
 ·obtain⟨u,hu⟩:=Fe ht0
  have hun:=(hin u hu.bit).1
  have:=QF (f:=vS ch) (h:=vS (ch++[t])) (n:=g.2.length) (u:=u) (fun v _=>by rw[hcnt];omega) hun (by rw[hcnt,if_pos hu.bit];omega)
  have:=hI.sum
  omega
 ·rcases List.mem_append.1 hs with h|h
  ·exact hI.sets s h
  ·rw[List.mem_singleton.1 h];exact ht32
end Go.Proofs.YtigggfnchamobaaGreatDoor
end
section
namespace Go.Proofs.YtigggfnchamobaaGreatDoor
open Go.Sx
def pZ (fuel:Nat) (p0:ByteArray×(List (ByteArray×Int×Int×Int×Int×Int))×(List (ByteArray×(Value×List (Int×Int))×(Value×List (Int×(Value×List (Int×Int))))))) (p1:List (Int)×(List (List (Int×Int)))) (p2:Int) (p3:List (List (Int))) (p4:Int) (p5:List (Int)):Option ((List (Int)×List (Int)×List (List (Int))×(Int×Int×Int×Int×Int))×Int):=
 Option.bind (i_ fuel ((p0.1,p0.2.1,p0.2.2)) ((p1.1,p1.2)) p2 p3 (RD .u32 (4294967295:Int) p4) p5) fun r4=>(some (((r4.1.1,r4.1.2.1,r4.1.2.2.1,((r4.1.2.2.2.1,r4.1.2.2.2.2.1,r4.1.2.2.2.2.2.1,r4.1.2.2.2.2.2.2.1,r4.1.2.2.2.2.2.2.2)))),r4.2))
theorem EE:aV Tryz.prog 13:=Tryz.call13
theorem qD (fuel:Nat) {p0:ByteArray×(List (ByteArray×Int×Int×Int×Int×Int))×(List (ByteArray×(Value×List (Int×Int))×(Value×List (Int×(Value×List (Int×Int))))))} {p1:List (Int)×(List (List (Int×Int)))} {p2:Int} {p3:List (List (Int))} {p4:Int} {p5:List (Int)} (v0:Value)  (v1:Value)  (v2:Value)  (v3:Value)  (z4:List (Value×List (Int×Int)))  (v5:Value)  (z6:List (Value×List (Int)))  (v7:Value) (r:(List (Int)×List (Int)×List (List (Int))×(Int×Int×Int×Int×Int))×Int) (h:pZ fuel p0 p1 p2 p3 p4 p5=some r):
  bA Tryz.prog 13 #[Value.agg #[Value.string (p0.1),v0,v1],Value.agg #[v2,v3],Value.int .i64 (p2),v5,Value.int .u32 (p4),v7] [Sl aH v0 p0.2.1,Sl aG v1 p0.2.2,PF (Value.agg #[Value.string p0.1,v0,v1]),Sl aR v2 p1.1,S2 aK v3 z4 p1.2,S2 aR v5 z6 p3,Sl jE v7 p5,Gb 0 (cellsOf yF mP)] (fun x:Value×Value×Value×List Value=>Value.tuple #[Value.agg #[x.1,x.2.1,x.2.2.1,Value.int .i64 (r.1.2.2.2.1),Value.int .i64 (r.1.2.2.2.2.1),Value.int .i64 (r.1.2.2.2.2.2.1),Value.int .i64 (r.1.2.2.2.2.2.2.1),Value.int .u32 (r.1.2.2.2.2.2.2.2)],Value.int .i64 (r.2)]) (fun x l=>Ar jO x.1 r.1.1::Ar jO x.2.1 r.1.2.1::Ar dK.raw x.2.2.1 x.2.2.2::jP cA x.2.2.2 r.1.2.2.1::l) (fun _ l=>l):=by
 refine bA.of (vs:=[Value.agg #[Value.string (p0.1),v0,v1],Value.agg #[v2,v3],Value.int .i64 (p2),v5,Value.int .u32 (p4),v7]) Tryz.func13 rfl Tryz.ntmps13 rfl fun c=>?_
 unfold pZ at h
 refine sqR<|aL (aQ.box (cs:=[Value.string (p0.1),v0,v1]) rfl rfl) rfl fun b1=>aL (aQ.box (cs:=[v2,v3]) rfl rfl) rfl fun b2=>aL (aQ.alloc (cs:=[Value.slice none 0 0,Value.slice none 0 0,Value.slice none 0 0,Value.int .i64 (0:Int),Value.int .i64 (0:Int),Value.int .i64 (0:Int),Value.int .i64 (0:Int),Value.int .u32 (0:Int)]) rfl rfl) rfl fun b3=>qkAsg rfl<|dtN<|sqR<|qkLdA 2 rfl<|qkLdA 1 rfl<|qkMove rfl<|qkMove rfl<|qkMove rfl<|aB (Rp rfl rfl) rfl<|qkMove rfl ?_
 have⟨r4,hr5,h⟩:=fJ h
 refine aL (aJ Ur (BN fuel v0 v1 v2 v3 z4 v5 z6 v7 r4 hr5) rfl (aA.cons (aC.fact 0 rfl) (aA.cons (aC.fact 1 rfl) (aA.cons (aC.fact 2 rfl) (aA.cons (aC.fact 3 rfl) (aA.cons (aC.fact 4 rfl) (aA.cons (aC.fact 5 rfl) (aA.cons (aC.fact 6 rfl) (aA.cons (aC.fact 7 rfl) .nil)))))))) (fun _ _=>rfl)) rfl fun x6=>aB (bJ rfl rfl) rfl<|aB (bJ rfl rfl) rfl<|b_ (Know.one ((aZ (aC.res 0 rfl) kM))) fun ho7=>b_ (Know.one ((aZ (aC.res 1 rfl) kM))) fun ho8=>b_ (Know.one (aC.sl (bH (i:=2) (j:=3) rfl rfl cR))) fun ho9=>bM 4 (vs:=[x6.1,x6.2.1,x6.2.2.1,Value.int .i64 (r4.1.2.2.2.1),Value.int .i64 (r4.1.2.2.2.2.1),Value.int .i64 (r4.1.2.2.2.2.2.1),Value.int .i64 (r4.1.2.2.2.2.2.2.1),Value.int .u32 (r4.1.2.2.2.2.2.2.2)]) rfl rfl (cQ ho7 (cQ ho8 (cQ ho9 (cQ rfl (cQ rfl (cQ rfl (cQ rfl (cQ rfl rfl)))))))) rfl rfl rfl<|qkAsg rfl<|dtN<|aX ?_
 cases h
 exact jD (x6.1,x6.2.1,x6.2.2.1,x6.2.2.2) rfl rfl (RV.cell 4 rfl rfl rfl rfl) (RV.tmp rfl) (aP.ix [0,1,2,3] rfl rfl) aA.nil
end Go.Proofs.YtigggfnchamobaaGreatDoor
end
section
namespace Go.Proofs.YtigggfnchamobaaGreatDoor
open Go Go.Sx Go.Gx
set_option maxRecDepth 100000
def xK (fuel:Nat):Option (Bool):=some (true)
theorem OP:aV Tryz.prog 16:=Tryz.call16
theorem Ph:Zc (EK Dn gp2 4000 16 [] H0)=true:=by kernel_rfl
theorem FS (fuel:Nat) (r:Bool) (h:xK fuel=some r):
  bA Tryz.prog 16 #[] [Gb 0 (cellsOf yF mP)] (fun x:Unit=>Value.bool (r)) (fun x l=>l) (fun _ l=>l):=by
 obtain rfl:=Option.some.inj h
 obtain⟨H',h1⟩:=Qk Ph
 rw[Cc Cw]at h1
 exact HL PJ OP (fun ρ V' h=>h.bool_inv) fun T b=>Ca (gs:=gl T) YX h1 (eH.start b rfl) .nil
end Go.Proofs.YtigggfnchamobaaGreatDoor
end
section
namespace Go.Proofs.YtigggfnchamobaaGreatDoor
open Go.Sx
def qL (fuel:Nat)  : Option (ByteArray):=
 some (ByteArray.mk #[112,114,111,103,114,97,109,32,99,111,108,111,117,114,105,110,103,59,10,118,97,114,32,99,32,58,32,48,32,46,46,32,110,59,10,114,117,108,101,32,102,105,120,58,32,115,111,109,101,40,113,46,99,32,61,61,32,99,41,32,45,62,32,99,32,58,61,32,109,101,120,40,113,46,99,41,59,10])
theorem EG:aV Tryz.prog 19:=Tryz.call19
theorem nV (fuel:Nat)  (r:ByteArray) (h:qL fuel  = some r):
  bA Tryz.prog 19 #[] [] (fun x:Unit=>Value.string (r)) (fun x l=>l) (fun _ l=>l):=by
 refine bA.of (vs:=[]) Tryz.func19 rfl Tryz.ntmps19 rfl fun c=>?_
 unfold qL at h
 refine sqR<|qkAsg rfl<|dtN<|sqR<|qkAsg rfl<|dtN<|aX ?_
 cases h
 exact lN rfl
end Go.Proofs.YtigggfnchamobaaGreatDoor
end
section
namespace Go.Proofs.YtigggfnchamobaaGreatDoor
open Go.Sx
noncomputable def iR  (a40:Bool):Option (Bool):=
 some (a40)
noncomputable def lM (fuel:Nat) (p2:Int) (r2:(List (Int)×(List (List (Int×Int))))) (a28:Int×Int×Int×Int×Int×Int×List (Int)×List (Int)×List (List (Int))) (a37:Unit):Option (Bool):=
 Option.bind (xK fuel) fun r42=>(if r42=true then(Option.bind (gX fuel ((r2.1,r2.2)) a28.2.2.2.2.2.2.2.2 p2) fun r46=>(iR  (r46)))else(iR  (false)))
noncomputable def gF (a51:Int) (ag50:(Int)->Option (Bool)) (a56:Bool):Option (Bool):=
 if a56=true then(some (false))else(ag50 (wI .i64 (a51+(1:Int))))
noncomputable def eY (fuel:Nat) (p2:Int) (r2:(List (Int)×(List (List (Int×Int))))) (a28:Int×Int×Int×Int×Int×Int×List (Int)×List (Int)×List (List (Int))) (r34:List (Int)) (a51:Int) (ag50:(Int)->Option (Bool)):Option (Bool):=
 if a51<(List.length r2.2:Int)then(ck (0<=a51∧a51<(List.length r34:Int)) (if(1:Int)<(at' r34 a51)then(gF a51 ag50 (true))else(ck (0<=a51∧a51<(List.length r34:Int)) (if(0:Int)<(at' r34 a51)then(Option.bind (sT fuel p2 a51) fun r63=>(gF a51 ag50 (r63)))else(gF a51 ag50 (false))))))else(lM fuel p2 r2 a28 (()))
noncomputable def iQ (fuel:Nat) (p2:Int) (r2:(List (Int)×(List (List (Int×Int))))) (a28:Int×Int×Int×Int×Int×Int×List (Int)×List (Int)×List (List (Int))) (a31:Bool):Option (Bool):=
 if a31=true then(some (false))else(Option.bind (pD fuel ((a28.2.2.2.2.2.2.1,a28.2.2.2.2.2.2.2.1,a28.2.2.2.2.2.2.2.2,((a28.2.1,a28.2.2.1,a28.2.2.2.1,a28.2.2.2.2.1,a28.2.2.2.2.2.1)))) (List.length r2.2:Int)) fun r34=>(bK (eY fuel p2 r2 a28 r34) fuel (0:Int)))
noncomputable def lL (fuel:Nat) (p2:Int) (r2:(List (Int)×(List (List (Int×Int))))) (a28:Int×Int×Int×Int×Int×Int×List (Int)×List (Int)×List (List (Int))):Option (Bool):=
 if a28.1≠(0:Int)then(iQ fuel p2 r2 a28 (true))else(iQ fuel p2 r2 a28 (decide ((List.length a28.2.2.2.2.2.2.2.2:Int)≠(List.length r2.2:Int))))
noncomputable def mA (fuel:Nat) (p0:Int×List (Int)×List (Int)×List (Int)×Bool×Bool) (p1:List (Int)) (p2:Int) (p3:List (Int)):Option (Bool):=
 Option.bind (jT fuel ((p0.1,p0.2.1,p0.2.2.1,p0.2.2.2.1,p0.2.2.2.2.1,p0.2.2.2.2.2)) (9:Int)) fun r2=>(Option.bind (vU fuel) fun r8=>(Option.bind (lC fuel ((r2.1,r2.2)) r8 p1) fun r11=>(Option.bind (qL fuel) fun r67=>(Option.bind (oU fuel r67) fun r70=>OG r70.2.2 fun z73=>(Option.bind (qC fuel p3 (wI .i64 ((List.length r2.2:Int)+(1:Int)))) fun r75=>(Option.bind (pZ fuel ((r70.1,r70.2.1,z73)) ((r2.1,r2.2)) (2:Int) r11 p2 r75) fun r78=>(lL fuel p2 r2 (r78.2,r78.1.2.2.2.1,r78.1.2.2.2.2.1,r78.1.2.2.2.2.2.1,r78.1.2.2.2.2.2.2.1,r78.1.2.2.2.2.2.2.2,r78.1.1,r78.1.2.1,r78.1.2.2.1))))))))
theorem Aw (fuel:Nat) {p0:Int×List (Int)×List (Int)×List (Int)×Bool×Bool} {p1:List (Int)} {p2:Int} {p3:List (Int)} (v0:Value)  (v1:Value)  (v2:Value)  (v3:Value)  (v4:Value) (r:Bool) (h:mA fuel p0 p1 p2 p3=some r):
  bA Tryz.prog 5 #[Value.agg #[Value.int .i64 (p0.1),v0,v1,v2,Value.bool (p0.2.2.2.2.1),Value.bool (p0.2.2.2.2.2)],v3,Value.int .u32 (p2),v4] [Sl aR v0 p0.2.1,Sl aR v1 p0.2.2.1,Sl aR v2 p0.2.2.2.1,Sl aR v3 p1,Sl jE v4 p3,Gb 0 (cellsOf yF mP)] (fun x:Unit=>Value.bool (r)) (fun x l=>l) (fun _ l=>l):=by
 refine bA.of (vs:=[Value.agg #[Value.int .i64 (p0.1),v0,v1,v2,Value.bool (p0.2.2.2.2.1),Value.bool (p0.2.2.2.2.2)],v3,Value.int .u32 (p2),v4]) Tryz.func5 rfl Tryz.ntmps5 rfl fun c=>?_
 unfold mA at h
 refine sqR<|aL (aQ.box (cs:=[Value.int .i64 (p0.1),v0,v1,v2,Value.bool (p0.2.2.2.2.1),Value.bool (p0.2.2.2.2.2)]) rfl rfl) rfl fun b1=>qkAsg rfl<|dtN<|sqR<|qkLdA 0 rfl ?_
 have⟨r2,hr3,h⟩:=fJ h
 refine aL (aJ Um (CC fuel v0 v1 v2 r2 hr3) rfl (aA.cons (aC.fact 0 rfl) (aA.cons (aC.fact 1 rfl) (aA.cons (aC.fact 2 rfl) .nil))) (fun _ _=>rfl)) rfl fun x4=>aL (aQ.alloc (cs:=[Value.slice none 0 0,Value.slice none 0 0]) rfl rfl) rfl fun b5=>b_ (Know.one ((aZ (aC.res 1 rfl) cR))) fun ho6=>b_ (Know.one (aC.sl (bH (i:=2) (j:=3) rfl rfl bO))) fun ho7=>bM 0 (vs:=[x4.1,x4.2.1]) rfl rfl (cQ ho6 (cQ ho7 rfl)) rfl rfl rfl<|dtN<|sqR<|qkFld rfl<|qkLd 0 rfl<|aB (jX rfl (bH (i:=2) (j:=3) rfl rfl bO) rfl) rfl<|qkAsg rfl<|dtN<|aO ?_
 refine JR.start [0,0,0,7,15] 3 mixedOrders (by decide +kernel) ?_
 refine JR.open (by exact rfl) ?_
 refine jkLdA 0 rfl ?_
 have⟨r8,hr9,h⟩:=fJ h
 refine JR.loud rfl rfl rfl (aJ Un (H_ fuel  r8 hr9) rfl .nil (fun _ _=>rfl)) rfl (fun x10=>(aE.h (aP.ix [1] rfl rfl) .nil aE.z)) fun x10=>aT rfl .nil .nil (lP rfl) (aF.h .nil .nil aF.z)<|bS 3 rfl rfl ?_
 have⟨r11,hr12,h⟩:=fJ h
 refine aL (aJ Uk (FB fuel x4.1 x4.2.1 (List.zip x4.2.2 r2.2) x10 v3 r11 hr12) rfl (aA.cons (aZ (aC.res 2 rfl) cR) (aA.cons (bH (i:=3) (j:=4) rfl rfl bO) (aA.cons (aZ (aC.res 0 rfl) qU) (aA.cons (aC.fact 3 rfl) .nil)))) (fun _ _=>rfl)) rfl fun x13=>qkAsg rfl<|dtN<|aO<|bL (A:=Int×Int×Int×Int×Int×Int×List (Int)×List (Int)×List (List (Int))) (B:=Nat×Value×Value×Value×List Value) (fun a28=>lL fuel p2 r2 a28=some r) (fun a28 b29=>[(2,Value.int .u32 (p2)),(9,Value.pointer (some ⟨b5,0,none⟩)),(10,Value.int .i64 (List.length r2.2:Int)),(12,Value.pointer (some ⟨b29.1,0,none⟩)),(13,Value.int .i64 (a28.1))]) (fun a28 b29=>[bR b29.1 [b29.2.1,b29.2.2.1,b29.2.2.2.1,Value.int .i64 (a28.2.1),Value.int .i64 (a28.2.2.1),Value.int .i64 (a28.2.2.2.1),Value.int .i64 (a28.2.2.2.2.1),Value.int .u32 (a28.2.2.2.2.2.1)] 44,Ar jO b29.2.1 a28.2.2.2.2.2.2.1,Ar jO b29.2.2.1 a28.2.2.2.2.2.2.2.1,Ar dK.raw b29.2.2.2.1 b29.2.2.2.2,jP cA b29.2.2.2.2 a28.2.2.2.2.2.2.2.2,bR b5 [x4.1,x4.2.1] 28,Ar cA x4.1 r2.1,Ar dK.raw x4.2.1 x4.2.2,jP bU x4.2.2 r2.2]) (fun a28 b29=>[Sl aR v0 p0.2.1,Sl aR v1 p0.2.2.1,Sl aR v2 p0.2.2.2.1,Sl aR v3 p1,Sl jE v4 p3,Gb 0 (cellsOf yF mP)]) ?_ ?_
 ·have⟨r67,hr68,h⟩:=fJ h
  have⟨r70,hr71,h⟩:=fJ h
  refine FY [0,1,0,0,0,0,0,64,227,511,1023,2047,2047,0,12287,32767] 15 [[2,3,4,5,6,7,0,1,8,9,10,11,12,13,14,15],[2,3,4,5,6,7,0,1,8,13,9,10,11,12,14,15],[2,3,4,5,6,7,0,1,13,8,9,10,11,12,14,15],[2,3,4,5,6,7,0,13,1,8,9,10,11,12,14,15],[2,3,4,5,6,7,13,0,1,8,9,10,11,12,14,15]] mixedOrders (by decide +kernel) (by decide +kernel) ?_
  intro o ho
  simp only[List.mem_cons,List.not_mem_nil,or_false]at ho
  rcases ho with rfl|rfl|rfl|rfl|rfl
  ·refine jkLdA 3 rfl<|jkMove rfl<|jkMove rfl<|jkMove rfl<|jkMove rfl<|aT rfl .nil .nil (pG rfl rfl) aF.z<|JR.loud rfl rfl rfl (aJ EG (nV fuel  r67 hr68) rfl .nil (fun _ _=>rfl)) rfl (fun x86=>(aE.h .nil .nil (aE.h .nil .nil (aE.h .nil .nil (aE.h .nil .nil (aE.h .nil .nil (aE.h (aP.ix [3] rfl rfl) .nil aE.z))))))) fun x86=>JR.loud rfl rfl rfl (aQ.call Gg (oW fuel r70 hr71) rfl (cW.cons (List.mem_of_getElem? (i:=5) rfl) .nil) (fun _ _=>rfl) (fun _ _=>rfl)) rfl (fun⟨x87a,x87b,z73,hz88⟩=>(aE.h .nil .nil (aE.h .nil .nil (aE.h .nil .nil (aE.h .nil .nil (aE.h .nil .nil (aE.h (aP.ix [3] rfl rfl) .nil aE.z))))))) fun⟨x87a,x87b,z73,hz88⟩=>?_
   have h:=xS h z73 hz88
   have⟨r75,hr76,h⟩:=fJ h
   refine JR.loud rfl rfl rfl (aJ EF (qE fuel v4 r75 hr76) rfl (aA.cons (aC.fact 7 rfl) .nil) (fun _ _=>rfl)) rfl (fun x89=>(aE.b rfl (aE.b rfl (aE.b rfl (aE.h .nil .nil (aE.h .nil .nil (aE.h (aP.ix [4] rfl rfl) .nil aE.z))))))) fun x89=>?_
   have⟨r78,hr79,h⟩:=fJ h
   refine JR.loud rfl rfl rfl (aJ EE (qD fuel x87a x87b x4.1 x4.2.1 (List.zip x4.2.2 r2.2) x13.1 (List.zip x13.2 r11) x89 r78 hr79) rfl (aA.cons (aC.fact 0 rfl) (aA.cons (aC.fact 1 rfl) (aA.cons (aC.fact 2 rfl) (aA.cons (aZ (aC.res 5 rfl) cR) (aA.cons (bH (i:=6) (j:=7) rfl rfl bO) (aA.cons (bH (i:=1) (j:=2) rfl rfl cR) (aA.cons (aZ (aC.res 0 rfl) kM) (aA.cons (aC.fact 8 rfl) .nil)))))))) (fun _ _=>rfl)) rfl (fun x90=>(aE.b rfl (aE.b rfl (aE.b rfl (aE.b rfl (aE.b rfl (aE.b rfl aE.z))))))) fun x90=>aT rfl .nil .nil (lP rfl) (aF.b rfl (aF.b rfl (aF.b rfl (aF.b rfl aF.z))))<|aT rfl .nil .nil (bJ rfl rfl) (aF.b rfl (aF.b rfl (aF.b rfl (aF.b rfl aF.z))))<|aT rfl .nil .nil (bJ rfl rfl) (aF.b rfl (aF.b rfl (aF.b rfl (aF.b rfl aF.z))))<|JR.loud rfl rfl rfl (aQ.alloc (cs:=[Value.slice none 0 0,Value.slice none 0 0,Value.slice none 0 0,Value.int .i64 (0:Int),Value.int .i64 (0:Int),Value.int .i64 (0:Int),Value.int .i64 (0:Int),Value.int .u32 (0:Int)]) rfl rfl) rfl (fun b91=>(aE.h .nil .nil (aE.h .nil .nil (aE.h .nil .nil (aE.h .nil .nil (aE.h .nil .nil (aE.h .nil .nil (aE.h .nil .nil (aE.h .nil .nil (aE.h (aP.ix [9] rfl rfl) .nil aE.z)))))))))) fun b91=>cH (Know.one ((aZ (aC.res 1 rfl) kM))) fun ho93=>cH (Know.one ((aZ (aC.res 2 rfl) kM))) fun ho94=>cH (Know.one (aC.sl (bH (i:=3) (j:=4) rfl rfl cR))) fun ho95=>rB rfl rfl rfl (rC 0 (vs:=[x90.1,x90.2.1,x90.2.2.1,Value.int .i64 (r78.1.2.2.2.1),Value.int .i64 (r78.1.2.2.2.2.1),Value.int .i64 (r78.1.2.2.2.2.2.1),Value.int .i64 (r78.1.2.2.2.2.2.2.1),Value.int .u32 (r78.1.2.2.2.2.2.2.2)]) rfl rfl (cQ ho93 (cQ ho94 (cQ ho95 (cQ rfl (cQ rfl (cQ rfl (cQ rfl (cQ rfl rfl)))))))) rfl rfl rfl) (fun x92=>(aE.h .nil .nil (aE.b rfl (aE.b rfl (aE.b rfl (aE.b rfl (aE.b rfl (aE.b rfl (aE.b rfl (aE.b rfl aE.z)))))))))) fun x92=>bS 15 rfl rfl<|qkAsg rfl<|dtN ?_
   exact cM (r78.2,r78.1.2.2.2.1,r78.1.2.2.2.2.1,r78.1.2.2.2.2.2.1,r78.1.2.2.2.2.2.2.1,r78.1.2.2.2.2.2.2.2,r78.1.1,r78.1.2.1,r78.1.2.2.1) (b91,x90.1,x90.2.1,x90.2.2.1,x90.2.2.2) h SF (aP.ix [0,1,2,3,4,9,10,11,12] rfl rfl) (aA.cons (aC.fact 3 rfl) (aA.cons (aC.fact 4 rfl) (aA.cons (aC.fact 5 rfl) (aA.cons (aC.fact 6 rfl) (aA.cons (aC.fact 7 rfl) (aA.cons (aC.fact 8 rfl) .nil))))))
  ·refine jkLdA 3 rfl<|jkMove rfl<|jkMove rfl<|jkMove rfl<|jkMove rfl<|aT rfl .nil .nil (pG rfl rfl) aF.z<|JR.loud rfl rfl rfl (aJ EG (nV fuel  r67 hr68) rfl .nil (fun _ _=>rfl)) rfl (fun x96=>(aE.h .nil .nil (aE.h .nil .nil (aE.h .nil .nil (aE.h .nil .nil (aE.h .nil .nil (aE.h (aP.ix [3] rfl rfl) .nil aE.z))))))) fun x96=>JR.loud rfl rfl rfl (aQ.call Gg (oW fuel r70 hr71) rfl (cW.cons (List.mem_of_getElem? (i:=5) rfl) .nil) (fun _ _=>rfl) (fun _ _=>rfl)) rfl (fun⟨x97a,x97b,z73,hz98⟩=>(aE.h .nil .nil (aE.h .nil .nil (aE.h .nil .nil (aE.h .nil .nil (aE.h .nil .nil (aE.h (aP.ix [3] rfl rfl) .nil aE.z))))))) fun⟨x97a,x97b,z73,hz98⟩=>?_
   have h:=xS h z73 hz98
   have⟨r75,hr76,h⟩:=fJ h
   refine JR.loud rfl rfl rfl (aJ EF (qE fuel v4 r75 hr76) rfl (aA.cons (aC.fact 7 rfl) .nil) (fun _ _=>rfl)) rfl (fun x99=>(aE.b rfl (aE.b rfl (aE.b rfl (aE.h .nil .nil (aE.h .nil .nil (aE.h (aP.ix [4] rfl rfl) .nil aE.z))))))) fun x99=>JR.loud rfl rfl rfl (aQ.alloc (cs:=[Value.slice none 0 0,Value.slice none 0 0,Value.slice none 0 0,Value.int .i64 (0:Int),Value.int .i64 (0:Int),Value.int .i64 (0:Int),Value.int .i64 (0:Int),Value.int .u32 (0:Int)]) rfl rfl) rfl (fun b100=>(aE.h .nil .nil (aE.h .nil .nil (aE.h .nil .nil (aE.h .nil .nil (aE.h .nil .nil (aE.h (aP.ix [5] rfl rfl) .nil aE.z))))))) fun b100=>?_
   have⟨r78,hr79,h⟩:=fJ h
   refine JR.loud rfl rfl rfl (aJ EE (qD fuel x97a x97b x4.1 x4.2.1 (List.zip x4.2.2 r2.2) x13.1 (List.zip x13.2 r11) x99 r78 hr79) rfl (aA.cons (aC.fact 0 rfl) (aA.cons (aC.fact 1 rfl) (aA.cons (aC.fact 2 rfl) (aA.cons (aZ (aC.res 6 rfl) cR) (aA.cons (bH (i:=7) (j:=8) rfl rfl bO) (aA.cons (bH (i:=2) (j:=3) rfl rfl cR) (aA.cons (aZ (aC.res 1 rfl) kM) (aA.cons (aC.fact 8 rfl) .nil)))))))) (fun _ _=>rfl)) rfl (fun x101=>(aE.b rfl (aE.b rfl (aE.b rfl (aE.b rfl (aE.b rfl (aE.b rfl aE.z))))))) fun x101=>aT rfl .nil .nil (lP rfl) (aF.b rfl (aF.h .nil .nil (aF.b rfl (aF.b rfl (aF.b rfl aF.z)))))<|aT rfl .nil .nil (bJ rfl rfl) (aF.b rfl (aF.h .nil .nil (aF.b rfl (aF.b rfl (aF.b rfl aF.z)))))<|aT rfl .nil .nil (bJ rfl rfl) (aF.b rfl (aF.h .nil .nil (aF.b rfl (aF.b rfl (aF.b rfl aF.z)))))<|cH (Know.one ((aZ (aC.res 0 rfl) kM))) fun ho103=>cH (Know.one ((aZ (aC.res 1 rfl) kM))) fun ho104=>cH (Know.one (aC.sl (bH (i:=2) (j:=3) rfl rfl cR))) fun ho105=>rB rfl rfl rfl (rC 4 (vs:=[x101.1,x101.2.1,x101.2.2.1,Value.int .i64 (r78.1.2.2.2.1),Value.int .i64 (r78.1.2.2.2.2.1),Value.int .i64 (r78.1.2.2.2.2.2.1),Value.int .i64 (r78.1.2.2.2.2.2.2.1),Value.int .u32 (r78.1.2.2.2.2.2.2.2)]) rfl rfl (cQ ho103 (cQ ho104 (cQ ho105 (cQ rfl (cQ rfl (cQ rfl (cQ rfl (cQ rfl rfl)))))))) rfl rfl rfl) (fun x102=>(aE.h .nil .nil (aE.b rfl (aE.b rfl (aE.b rfl (aE.b rfl (aE.b rfl (aE.b rfl (aE.b rfl (aE.b rfl aE.z)))))))))) fun x102=>bS 15 rfl rfl<|qkAsg rfl<|dtN ?_
   exact cM (r78.2,r78.1.2.2.2.1,r78.1.2.2.2.2.1,r78.1.2.2.2.2.2.1,r78.1.2.2.2.2.2.2.1,r78.1.2.2.2.2.2.2.2,r78.1.1,r78.1.2.1,r78.1.2.2.1) (b100,x101.1,x101.2.1,x101.2.2.1,x101.2.2.2) h SF (aP.ix [4,0,1,2,3,9,10,11,12] rfl rfl) (aA.cons (aC.fact 3 rfl) (aA.cons (aC.fact 4 rfl) (aA.cons (aC.fact 5 rfl) (aA.cons (aC.fact 6 rfl) (aA.cons (aC.fact 7 rfl) (aA.cons (aC.fact 8 rfl) .nil))))))
  ·refine jkLdA 3 rfl<|jkMove rfl<|jkMove rfl<|jkMove rfl<|jkMove rfl<|aT rfl .nil .nil (pG rfl rfl) aF.z<|JR.loud rfl rfl rfl (aJ EG (nV fuel  r67 hr68) rfl .nil (fun _ _=>rfl)) rfl (fun x106=>(aE.h .nil .nil (aE.h .nil .nil (aE.h .nil .nil (aE.h .nil .nil (aE.h .nil .nil (aE.h (aP.ix [3] rfl rfl) .nil aE.z))))))) fun x106=>JR.loud rfl rfl rfl (aQ.call Gg (oW fuel r70 hr71) rfl (cW.cons (List.mem_of_getElem? (i:=5) rfl) .nil) (fun _ _=>rfl) (fun _ _=>rfl)) rfl (fun⟨x107a,x107b,z73,hz108⟩=>(aE.h .nil .nil (aE.h .nil .nil (aE.h .nil .nil (aE.h .nil .nil (aE.h .nil .nil (aE.h (aP.ix [3] rfl rfl) .nil aE.z))))))) fun⟨x107a,x107b,z73,hz108⟩=>?_
   have h:=xS h z73 hz108
   refine JR.loud rfl rfl rfl (aQ.alloc (cs:=[Value.slice none 0 0,Value.slice none 0 0,Value.slice none 0 0,Value.int .i64 (0:Int),Value.int .i64 (0:Int),Value.int .i64 (0:Int),Value.int .i64 (0:Int),Value.int .u32 (0:Int)]) rfl rfl) rfl (fun b109=>(aE.h .nil .nil (aE.h .nil .nil (aE.h .nil .nil (aE.h .nil .nil (aE.h .nil .nil (aE.h (aP.ix [4] rfl rfl) .nil aE.z))))))) fun b109=>?_
   have⟨r75,hr76,h⟩:=fJ h
   refine JR.loud rfl rfl rfl (aJ EF (qE fuel v4 r75 hr76) rfl (aA.cons (aC.fact 7 rfl) .nil) (fun _ _=>rfl)) rfl (fun x110=>(aE.b rfl (aE.b rfl (aE.b rfl (aE.h .nil .nil (aE.h .nil .nil (aE.h (aP.ix [5] rfl rfl) .nil aE.z))))))) fun x110=>?_
   have⟨r78,hr79,h⟩:=fJ h
   refine JR.loud rfl rfl rfl (aJ EE (qD fuel x107a x107b x4.1 x4.2.1 (List.zip x4.2.2 r2.2) x13.1 (List.zip x13.2 r11) x110 r78 hr79) rfl (aA.cons (aC.fact 0 rfl) (aA.cons (aC.fact 1 rfl) (aA.cons (aC.fact 2 rfl) (aA.cons (aZ (aC.res 6 rfl) cR) (aA.cons (bH (i:=7) (j:=8) rfl rfl bO) (aA.cons (bH (i:=2) (j:=3) rfl rfl cR) (aA.cons (aZ (aC.res 0 rfl) kM) (aA.cons (aC.fact 8 rfl) .nil)))))))) (fun _ _=>rfl)) rfl (fun x111=>(aE.b rfl (aE.b rfl (aE.b rfl (aE.b rfl (aE.b rfl (aE.b rfl aE.z))))))) fun x111=>aT rfl .nil .nil (lP rfl) (aF.b rfl (aF.b rfl (aF.h .nil .nil (aF.b rfl (aF.b rfl aF.z)))))<|aT rfl .nil .nil (bJ rfl rfl) (aF.b rfl (aF.b rfl (aF.h .nil .nil (aF.b rfl (aF.b rfl aF.z)))))<|aT rfl .nil .nil (bJ rfl rfl) (aF.b rfl (aF.b rfl (aF.h .nil .nil (aF.b rfl (aF.b rfl aF.z)))))<|cH (Know.one ((aZ (aC.res 0 rfl) kM))) fun ho113=>cH (Know.one ((aZ (aC.res 1 rfl) kM))) fun ho114=>cH (Know.one (aC.sl (bH (i:=2) (j:=3) rfl rfl cR))) fun ho115=>rB rfl rfl rfl (rC 5 (vs:=[x111.1,x111.2.1,x111.2.2.1,Value.int .i64 (r78.1.2.2.2.1),Value.int .i64 (r78.1.2.2.2.2.1),Value.int .i64 (r78.1.2.2.2.2.2.1),Value.int .i64 (r78.1.2.2.2.2.2.2.1),Value.int .u32 (r78.1.2.2.2.2.2.2.2)]) rfl rfl (cQ ho113 (cQ ho114 (cQ ho115 (cQ rfl (cQ rfl (cQ rfl (cQ rfl (cQ rfl rfl)))))))) rfl rfl rfl) (fun x112=>(aE.h .nil .nil (aE.b rfl (aE.b rfl (aE.b rfl (aE.b rfl (aE.b rfl (aE.b rfl (aE.b rfl (aE.b rfl aE.z)))))))))) fun x112=>bS 15 rfl rfl<|qkAsg rfl<|dtN ?_
   exact cM (r78.2,r78.1.2.2.2.1,r78.1.2.2.2.2.1,r78.1.2.2.2.2.2.1,r78.1.2.2.2.2.2.2.1,r78.1.2.2.2.2.2.2.2,r78.1.1,r78.1.2.1,r78.1.2.2.1) (b109,x111.1,x111.2.1,x111.2.2.1,x111.2.2.2) h SF (aP.ix [5,0,1,2,3,9,10,11,12] rfl rfl) (aA.cons (aC.fact 3 rfl) (aA.cons (aC.fact 4 rfl) (aA.cons (aC.fact 5 rfl) (aA.cons (aC.fact 6 rfl) (aA.cons (aC.fact 7 rfl) (aA.cons (aC.fact 8 rfl) .nil))))))
  ·refine jkLdA 3 rfl<|jkMove rfl<|jkMove rfl<|jkMove rfl<|jkMove rfl<|aT rfl .nil .nil (pG rfl rfl) aF.z<|JR.loud rfl rfl rfl (aJ EG (nV fuel  r67 hr68) rfl .nil (fun _ _=>rfl)) rfl (fun x116=>(aE.h .nil .nil (aE.h .nil .nil (aE.h .nil .nil (aE.h .nil .nil (aE.h .nil .nil (aE.h (aP.ix [3] rfl rfl) .nil aE.z))))))) fun x116=>JR.loud rfl rfl rfl (aQ.alloc (cs:=[Value.slice none 0 0,Value.slice none 0 0,Value.slice none 0 0,Value.int .i64 (0:Int),Value.int .i64 (0:Int),Value.int .i64 (0:Int),Value.int .i64 (0:Int),Value.int .u32 (0:Int)]) rfl rfl) rfl (fun b117=>(aE.h .nil .nil (aE.h .nil .nil (aE.h .nil .nil (aE.h .nil .nil (aE.h .nil .nil (aE.h (aP.ix [4] rfl rfl) .nil aE.z))))))) fun b117=>JR.loud rfl rfl rfl (aQ.call Gg (oW fuel r70 hr71) rfl (cW.cons (List.mem_of_getElem? (i:=5) rfl) .nil) (fun _ _=>rfl) (fun _ _=>rfl)) rfl (fun⟨x118a,x118b,z73,hz119⟩=>(aE.h .nil .nil (aE.h .nil .nil (aE.h .nil .nil (aE.h .nil .nil (aE.h .nil .nil (aE.h (aP.ix [4] rfl rfl) .nil aE.z))))))) fun⟨x118a,x118b,z73,hz119⟩=>?_
   have h:=xS h z73 hz119
   have⟨r75,hr76,h⟩:=fJ h
   refine JR.loud rfl rfl rfl (aJ EF (qE fuel v4 r75 hr76) rfl (aA.cons (aC.fact 7 rfl) .nil) (fun _ _=>rfl)) rfl (fun x120=>(aE.b rfl (aE.b rfl (aE.b rfl (aE.h .nil .nil (aE.h .nil .nil (aE.h (aP.ix [5] rfl rfl) .nil aE.z))))))) fun x120=>?_
   have⟨r78,hr79,h⟩:=fJ h
   refine JR.loud rfl rfl rfl (aJ EE (qD fuel x118a x118b x4.1 x4.2.1 (List.zip x4.2.2 r2.2) x13.1 (List.zip x13.2 r11) x120 r78 hr79) rfl (aA.cons (aC.fact 0 rfl) (aA.cons (aC.fact 1 rfl) (aA.cons (aC.fact 2 rfl) (aA.cons (aZ (aC.res 6 rfl) cR) (aA.cons (bH (i:=7) (j:=8) rfl rfl bO) (aA.cons (bH (i:=2) (j:=3) rfl rfl cR) (aA.cons (aZ (aC.res 0 rfl) kM) (aA.cons (aC.fact 8 rfl) .nil)))))))) (fun _ _=>rfl)) rfl (fun x121=>(aE.b rfl (aE.b rfl (aE.b rfl (aE.b rfl (aE.b rfl (aE.b rfl aE.z))))))) fun x121=>aT rfl .nil .nil (lP rfl) (aF.b rfl (aF.b rfl (aF.b rfl (aF.h .nil .nil (aF.b rfl aF.z)))))<|aT rfl .nil .nil (bJ rfl rfl) (aF.b rfl (aF.b rfl (aF.b rfl (aF.h .nil .nil (aF.b rfl aF.z)))))<|aT rfl .nil .nil (bJ rfl rfl) (aF.b rfl (aF.b rfl (aF.b rfl (aF.h .nil .nil (aF.b rfl aF.z)))))<|cH (Know.one ((aZ (aC.res 0 rfl) kM))) fun ho123=>cH (Know.one ((aZ (aC.res 1 rfl) kM))) fun ho124=>cH (Know.one (aC.sl (bH (i:=2) (j:=3) rfl rfl cR))) fun ho125=>rB rfl rfl rfl (rC 5 (vs:=[x121.1,x121.2.1,x121.2.2.1,Value.int .i64 (r78.1.2.2.2.1),Value.int .i64 (r78.1.2.2.2.2.1),Value.int .i64 (r78.1.2.2.2.2.2.1),Value.int .i64 (r78.1.2.2.2.2.2.2.1),Value.int .u32 (r78.1.2.2.2.2.2.2.2)]) rfl rfl (cQ ho123 (cQ ho124 (cQ ho125 (cQ rfl (cQ rfl (cQ rfl (cQ rfl (cQ rfl rfl)))))))) rfl rfl rfl) (fun x122=>(aE.h .nil .nil (aE.b rfl (aE.b rfl (aE.b rfl (aE.b rfl (aE.b rfl (aE.b rfl (aE.b rfl (aE.b rfl aE.z)))))))))) fun x122=>bS 15 rfl rfl<|qkAsg rfl<|dtN ?_
   exact cM (r78.2,r78.1.2.2.2.1,r78.1.2.2.2.2.1,r78.1.2.2.2.2.2.1,r78.1.2.2.2.2.2.2.1,r78.1.2.2.2.2.2.2.2,r78.1.1,r78.1.2.1,r78.1.2.2.1) (b117,x121.1,x121.2.1,x121.2.2.1,x121.2.2.2) h SF (aP.ix [5,0,1,2,3,9,10,11,12] rfl rfl) (aA.cons (aC.fact 3 rfl) (aA.cons (aC.fact 4 rfl) (aA.cons (aC.fact 5 rfl) (aA.cons (aC.fact 6 rfl) (aA.cons (aC.fact 7 rfl) (aA.cons (aC.fact 8 rfl) .nil))))))
  refine jkLdA 3 rfl<|jkMove rfl<|jkMove rfl<|jkMove rfl<|jkMove rfl<|aT rfl .nil .nil (pG rfl rfl) aF.z<|JR.loud rfl rfl rfl (aQ.alloc (cs:=[Value.slice none 0 0,Value.slice none 0 0,Value.slice none 0 0,Value.int .i64 (0:Int),Value.int .i64 (0:Int),Value.int .i64 (0:Int),Value.int .i64 (0:Int),Value.int .u32 (0:Int)]) rfl rfl) rfl (fun b126=>(aE.h .nil .nil (aE.h .nil .nil (aE.h .nil .nil (aE.h .nil .nil (aE.h .nil .nil (aE.h (aP.ix [4] rfl rfl) .nil aE.z))))))) fun b126=>JR.loud rfl rfl rfl (aJ EG (nV fuel  r67 hr68) rfl .nil (fun _ _=>rfl)) rfl (fun x127=>(aE.h .nil .nil (aE.h .nil .nil (aE.h .nil .nil (aE.h .nil .nil (aE.h .nil .nil (aE.h (aP.ix [4] rfl rfl) .nil aE.z))))))) fun x127=>JR.loud rfl rfl rfl (aQ.call Gg (oW fuel r70 hr71) rfl (cW.cons (List.mem_of_getElem? (i:=5) rfl) .nil) (fun _ _=>rfl) (fun _ _=>rfl)) rfl (fun⟨x128a,x128b,z73,hz129⟩=>(aE.h .nil .nil (aE.h .nil .nil (aE.h .nil .nil (aE.h .nil .nil (aE.h .nil .nil (aE.h (aP.ix [4] rfl rfl) .nil aE.z))))))) fun⟨x128a,x128b,z73,hz129⟩=>?_
  have h:=xS h z73 hz129
  have⟨r75,hr76,h⟩:=fJ h
  refine JR.loud rfl rfl rfl (aJ EF (qE fuel v4 r75 hr76) rfl (aA.cons (aC.fact 7 rfl) .nil) (fun _ _=>rfl)) rfl (fun x130=>(aE.b rfl (aE.b rfl (aE.b rfl (aE.h .nil .nil (aE.h .nil .nil (aE.h (aP.ix [5] rfl rfl) .nil aE.z))))))) fun x130=>?_
  have⟨r78,hr79,h⟩:=fJ h
  refine JR.loud rfl rfl rfl (aJ EE (qD fuel x128a x128b x4.1 x4.2.1 (List.zip x4.2.2 r2.2) x13.1 (List.zip x13.2 r11) x130 r78 hr79) rfl (aA.cons (aC.fact 0 rfl) (aA.cons (aC.fact 1 rfl) (aA.cons (aC.fact 2 rfl) (aA.cons (aZ (aC.res 6 rfl) cR) (aA.cons (bH (i:=7) (j:=8) rfl rfl bO) (aA.cons (bH (i:=2) (j:=3) rfl rfl cR) (aA.cons (aZ (aC.res 0 rfl) kM) (aA.cons (aC.fact 8 rfl) .nil)))))))) (fun _ _=>rfl)) rfl (fun x131=>(aE.b rfl (aE.b rfl (aE.b rfl (aE.b rfl (aE.b rfl (aE.b rfl aE.z))))))) fun x131=>aT rfl .nil .nil (lP rfl) (aF.b rfl (aF.b rfl (aF.b rfl (aF.b rfl (aF.h .nil .nil aF.z)))))<|aT rfl .nil .nil (bJ rfl rfl) (aF.b rfl (aF.b rfl (aF.b rfl (aF.b rfl (aF.h .nil .nil aF.z)))))<|aT rfl .nil .nil (bJ rfl rfl) (aF.b rfl (aF.b rfl (aF.b rfl (aF.b rfl (aF.h .nil .nil aF.z)))))<|cH (Know.one ((aZ (aC.res 0 rfl) kM))) fun ho133=>cH (Know.one ((aZ (aC.res 1 rfl) kM))) fun ho134=>cH (Know.one (aC.sl (bH (i:=2) (j:=3) rfl rfl cR))) fun ho135=>rB rfl rfl rfl (rC 5 (vs:=[x131.1,x131.2.1,x131.2.2.1,Value.int .i64 (r78.1.2.2.2.1),Value.int .i64 (r78.1.2.2.2.2.1),Value.int .i64 (r78.1.2.2.2.2.2.1),Value.int .i64 (r78.1.2.2.2.2.2.2.1),Value.int .u32 (r78.1.2.2.2.2.2.2.2)]) rfl rfl (cQ ho133 (cQ ho134 (cQ ho135 (cQ rfl (cQ rfl (cQ rfl (cQ rfl (cQ rfl rfl)))))))) rfl rfl rfl) (fun x132=>(aE.h .nil .nil (aE.b rfl (aE.b rfl (aE.b rfl (aE.b rfl (aE.b rfl (aE.b rfl (aE.b rfl (aE.b rfl aE.z)))))))))) fun x132=>bS 15 rfl rfl<|qkAsg rfl<|dtN ?_
  exact cM (r78.2,r78.1.2.2.2.1,r78.1.2.2.2.2.1,r78.1.2.2.2.2.2.1,r78.1.2.2.2.2.2.2.1,r78.1.2.2.2.2.2.2.2,r78.1.1,r78.1.2.1,r78.1.2.2.1) (b126,x131.1,x131.2.1,x131.2.2.1,x131.2.2.2) h SF (aP.ix [5,0,1,2,3,9,10,11,12] rfl rfl) (aA.cons (aC.fact 3 rfl) (aA.cons (aC.fact 4 rfl) (aA.cons (aC.fact 5 rfl) (aA.cons (aC.fact 6 rfl) (aA.cons (aC.fact 7 rfl) (aA.cons (aC.fact 8 rfl) .nil))))))
 clear h
 intro a28 b29 h
 unfold lL at h
 refine aO<|aO<|bL (A:=Bool) (B:=Unit) (fun a31=>iQ fuel p2 r2 a28 a31=some r) (fun a31 b32=>[(2,Value.int .u32 (p2)),(9,Value.pointer (some ⟨b5,0,none⟩)),(10,Value.int .i64 (List.length r2.2:Int)),(12,Value.pointer (some ⟨b29.1,0,none⟩)),(46,Value.bool (a31))]) (fun a31 b32=>[bR b29.1 [b29.2.1,b29.2.2.1,b29.2.2.2.1,Value.int .i64 (a28.2.1),Value.int .i64 (a28.2.2.1),Value.int .i64 (a28.2.2.2.1),Value.int .i64 (a28.2.2.2.2.1),Value.int .u32 (a28.2.2.2.2.2.1)] 44,Ar jO b29.2.1 a28.2.2.2.2.2.2.1,Ar jO b29.2.2.1 a28.2.2.2.2.2.2.2.1,Ar dK.raw b29.2.2.2.1 b29.2.2.2.2,jP cA b29.2.2.2.2 a28.2.2.2.2.2.2.2.2,bR b5 [x4.1,x4.2.1] 28,Ar cA x4.1 r2.1,Ar dK.raw x4.2.1 x4.2.2,jP bU x4.2.2 r2.2]) (fun a31 b32=>[Sl aR v0 p0.2.1,Sl aR v1 p0.2.2.1,Sl aR v2 p0.2.2.2.1,Sl aR v3 p1,Sl jE v4 p3,Gb 0 (cellsOf yF mP)]) ?_ ?_
 ·refine aS<|qkMove rfl<|aB (mM rfl rfl) rfl<|qkMove rfl ?_
  refine Bg h rfl (fun _ h=>?_) fun _ h=>?_
  ·refine gdSkip rfl<|gdSkip rfl<|gdSkip rfl<|gdSkip rfl<|gdSkip rfl<|aB (cI rfl rfl) rfl<|dtN ?_
   exact jA (true) (()) h SF rfl
  refine a_ rfl (eF rfl rfl rfl rfl rfl) rfl<|a_ rfl (eJ 0 rfl rfl rfl rfl rfl) rfl<|a_ rfl (jX rfl (bH (i:=3) (j:=4) rfl rfl cR) rfl) rfl<|gyMove rfl<|a_ rfl (mM rfl rfl) rfl<|aB (cX rfl rfl) rfl<|dtN ?_
  exact jA (decide ((List.length a28.2.2.2.2.2.2.2.2:Int)≠(List.length r2.2:Int))) (()) h SF rfl
 clear h
 intro a31 b32 h
 unfold iQ at h
 refine zN h rfl (fun _ h=>?_) fun _ h=>?_
 ·refine sqR<|qkAsg rfl<|dtN<|aX<|aM ?_
  cases h
  exact u_ rfl
 refine aW<|aI<|sqR<|qkLdA 0 rfl<|qkMove rfl ?_
 have⟨r34,hr35,h⟩:=fJ h
 refine aL (aJ Uo (FU fuel b29.2.1 b29.2.2.1 b29.2.2.2.1 (List.zip b29.2.2.2.2 a28.2.2.2.2.2.2.2.2) r34 hr35) rfl (aA.cons (aZ (aC.res 1 rfl) kM) (aA.cons (aZ (aC.res 2 rfl) kM) (aA.cons (bH (i:=3) (j:=4) rfl rfl cR) .nil))) (fun _ _=>rfl)) rfl fun x36=>qkAsg rfl<|dtN<|aO<|bL (A:=Unit) (B:=Unit) (fun a37=>lM fuel p2 r2 a28 a37=some r) (fun a37 b38=>[(2,Value.int .u32 (p2)),(9,Value.pointer (some ⟨b5,0,none⟩)),(12,Value.pointer (some ⟨b29.1,0,none⟩))]) (fun a37 b38=>[bR b29.1 [b29.2.1,b29.2.2.1,b29.2.2.2.1,Value.int .i64 (a28.2.1),Value.int .i64 (a28.2.2.1),Value.int .i64 (a28.2.2.2.1),Value.int .i64 (a28.2.2.2.2.1),Value.int .u32 (a28.2.2.2.2.2.1)] 44,Ar jO b29.2.1 a28.2.2.2.2.2.2.1,Ar jO b29.2.2.1 a28.2.2.2.2.2.2.2.1,Ar dK.raw b29.2.2.2.1 b29.2.2.2.2,jP cA b29.2.2.2.2 a28.2.2.2.2.2.2.2.2,bR b5 [x4.1,x4.2.1] 28,Ar cA x4.1 r2.1,Ar dK.raw x4.2.1 x4.2.2,jP bU x4.2.2 r2.2]) (fun a37 b38=>[Sl aR v0 p0.2.1,Sl aR v1 p0.2.2.1,Sl aR v2 p0.2.2.2.1,Sl aR v3 p1,Sl jE v4 p3,Gb 0 (cellsOf yF mP)]) ?_ ?_
 ·refine sqR<|qkAsg rfl<|dtN<|aU<|bY (A:=Int) (B:=Unit) (eY fuel p2 r2 a28 r34) (fun a51 b52=>[(2,Value.int .u32 (p2)),(9,Value.pointer (some ⟨b5,0,none⟩)),(10,Value.int .i64 (List.length r2.2:Int)),(12,Value.pointer (some ⟨b29.1,0,none⟩)),(14,x36),(15,Value.int .i64 (a51))]) (fun a51 b52=>[Ar cA x36 r34,bR b29.1 [b29.2.1,b29.2.2.1,b29.2.2.2.1,Value.int .i64 (a28.2.1),Value.int .i64 (a28.2.2.1),Value.int .i64 (a28.2.2.2.1),Value.int .i64 (a28.2.2.2.2.1),Value.int .u32 (a28.2.2.2.2.2.1)] 44,Ar jO b29.2.1 a28.2.2.2.2.2.2.1,Ar jO b29.2.2.1 a28.2.2.2.2.2.2.2.1,Ar dK.raw b29.2.2.2.1 b29.2.2.2.2,jP cA b29.2.2.2.2 a28.2.2.2.2.2.2.2.2,bR b5 [x4.1,x4.2.1] 28,Ar cA x4.1 r2.1,Ar dK.raw x4.2.1 x4.2.2,jP bU x4.2.2 r2.2]) (fun a51 b52=>[Sl aR v0 p0.2.1,Sl aR v1 p0.2.2.1,Sl aR v2 p0.2.2.2.1,Sl aR v3 p1,Sl jE v4 p3,Gb 0 (cellsOf yF mP)]) (0:Int) (()) h SF (aP.refl _) (aA.refl _ _) ?_
  clear h
  intro k53 a51 b52 h
  unfold eY at h
  refine aO<|sqR<|qkMove rfl<|qkMove rfl<|qkLss rfl<|dtN ?_
  refine eR h rfl (fun _ h=>?_) fun _ h=>?_
  ·refine aW<|aI<|aO<|aU<|aO<|bL (A:=Bool) (B:=Unit) (fun a56=>gF a51 (bK (eY fuel p2 r2 a28 r34) k53) a56=some r) (fun a56 b57=>[(2,Value.int .u32 (p2)),(9,Value.pointer (some ⟨b5,0,none⟩)),(10,Value.int .i64 (List.length r2.2:Int)),(12,Value.pointer (some ⟨b29.1,0,none⟩)),(14,x36),(15,Value.int .i64 (a51)),(71,Value.bool (a56))]) (fun a56 b57=>[Ar cA x36 r34,bR b29.1 [b29.2.1,b29.2.2.1,b29.2.2.2.1,Value.int .i64 (a28.2.1),Value.int .i64 (a28.2.2.1),Value.int .i64 (a28.2.2.2.1),Value.int .i64 (a28.2.2.2.2.1),Value.int .u32 (a28.2.2.2.2.2.1)] 44,Ar jO b29.2.1 a28.2.2.2.2.2.2.1,Ar jO b29.2.2.1 a28.2.2.2.2.2.2.2.1,Ar dK.raw b29.2.2.2.1 b29.2.2.2.2,jP cA b29.2.2.2.2 a28.2.2.2.2.2.2.2.2,bR b5 [x4.1,x4.2.1] 28,Ar cA x4.1 r2.1,Ar dK.raw x4.2.1 x4.2.2,jP bU x4.2.2 r2.2]) (fun a56 b57=>[Sl aR v0 p0.2.1,Sl aR v1 p0.2.2.1,Sl aR v2 p0.2.2.2.1,Sl aR v3 p1,Sl jE v4 p3,Gb 0 (cellsOf yF mP)]) ?_ ?_
   ·refine aS<|qkMove rfl<|qkMove rfl ?_
    have⟨hc59,h⟩:=aN h
    refine aB (bE rfl rfl (aZ (aC.res 0 rfl) cR) rfl rfl hc59) rfl<|aB (bZ rfl (aZ (aC.res 0 rfl) cR) rfl rfl rfl dU hc59) rfl<|aB (tC rfl rfl) rfl<|qkMove rfl ?_
    refine Bg h rfl (fun _ h=>?_) fun _ h=>?_
    ·refine gdSkip rfl<|gdSkip rfl<|gdSkip rfl<|gdSkip rfl<|gdSkip rfl<|gdSkip rfl<|TX (h:= ?_)
     refine TX (h:= ?_)
     refine TX (h:= ?_)
     refine gdSkip rfl<|aB (cI rfl rfl) rfl<|dtN ?_
     exact jA (true) (()) h SF rfl
    refine gyMove rfl<|gyMove rfl ?_
    have⟨hc61,h⟩:=aN h
    refine a_ rfl (bE rfl rfl (aZ (aC.res 0 rfl) cR) rfl rfl hc61) rfl<|a_ rfl (bZ rfl (aZ (aC.res 0 rfl) cR) rfl rfl rfl dU hc61) rfl<|a_ rfl (tC rfl rfl) rfl<|gyMove rfl ?_
    refine Bg h rfl (fun _ h=>?_) fun _ h=>?_
    ·refine gyMove rfl<|gyMove rfl ?_
     have⟨r63,hr64,h⟩:=fJ h
     refine rM rfl (aJ OQ (DJ fuel  r63 hr64) rfl .nil (fun _ _=>rfl)) rfl fun x65=>a_ rfl (cI rfl rfl) rfl<|aB (cX rfl rfl) rfl<|dtN ?_
     exact jA (r63) (()) h SF rfl
    refine gdSkip rfl<|gdSkip rfl<|gdSkip rfl<|a_ rfl (cX rfl rfl) rfl<|aB (cX rfl rfl) rfl<|dtN ?_
    exact jA (false) (()) h SF rfl
   clear h
   intro a56 b57 h
   unfold gF at h
   refine zN h rfl (fun _ h=>?_) fun _ h=>?_
   ·refine sqR<|qkAsg rfl<|dtN<|aX<|bP<|aM<|aM<|bP<|aM ?_
    cases h
    exact u_ rfl
   refine aW<|bV<|aI<|aS<|qkMove rfl<|qkAdd rfl<|qkAsg rfl<|dtN ?_
   exact xG (wI .i64 (a51+(1:Int))) (()) h SF rfl
  refine cE<|aY<|aY<|dJ<|aI ?_
  exact cM (()) (()) h SF (aP.ix [1,2,3,4,5,6,7,8,9] rfl rfl) (aA.refl _ _)
 clear h
 intro a37 b38 h
 unfold lM at h
 refine aO<|bL (A:=Bool) (B:=Unit) (fun a40=>iR  a40=some r) (fun a40 b41=>[(8,Value.bool (a40))]) (fun a40 b41=>[]) (fun a40 b41=>[Sl aR v0 p0.2.1,Sl aR v1 p0.2.2.1,Sl aR v2 p0.2.2.2.1,Sl aR v3 p1,Sl jE v4 p3,Gb 0 (cellsOf yF mP)]) ?_ ?_
 ·refine aS ?_
  have⟨r42,hr43,h⟩:=fJ h
  refine aL (aJ OP (FS fuel  r42 hr43) rfl (aA.cons (aC.fact 5 rfl) .nil) (fun _ _=>rfl)) rfl fun x44=>qkMove rfl ?_
  refine BT (by exact rfl) (by exact rfl) (fun hp45=>?_) (fun hp45=>?_)
  ·have h:=Q_ hp45 h
   refine a_ rfl (mG 5 rfl rfl rfl rfl) rfl<|a_ rfl (eF rfl rfl rfl rfl rfl) rfl<|a_ rfl (eJ 0 rfl rfl rfl rfl rfl) rfl<|gyMove rfl ?_
   have⟨r46,hr47,h⟩:=fJ h
   refine rM rfl (aJ OS (yB fuel x4.1 x4.2.1 (List.zip x4.2.2 r2.2) b29.2.2.2.1 (List.zip b29.2.2.2.2 a28.2.2.2.2.2.2.2.2) r46 hr47) rfl (aA.cons (aZ (aC.res 6 rfl) cR) (aA.cons (bH (i:=7) (j:=8) rfl rfl bO) (aA.cons (bH (i:=3) (j:=4) rfl rfl cR) .nil))) (fun _ _=>rfl)) rfl fun x48=>aB (cI rfl rfl) rfl<|qkAsg rfl<|dtN ?_
   exact cM (r46) (()) h SF .nil (aA.refl _ _)
  have h:=PO hp45 h
  refine gdSkip rfl<|gdSkip rfl<|gdSkip rfl<|gdSkip rfl<|gdSkip rfl<|aB (cX rfl rfl) rfl<|qkAsg rfl<|dtN ?_
  exact cM (false) (()) h SF .nil (aA.refl _ _)
 clear h
 intro a40 b41 h
 unfold iR at h
 refine aX ?_
 cases h
 exact lN rfl
end Go.Proofs.YtigggfnchamobaaGreatDoor
end
section
namespace Go.Proofs.YtigggfnchamobaaGreatDoor
open Go Go.Sx
theorem Xh:∀x,x<q_.length->Ab (at' q_ (x:Int)) ∧ -100000<=(at' q_ (x:Int)).2.2.1∧(at' q_ (x:Int)).2.2.1<=(at' q_ (x:Int)).2.2.2.1:=by
 intro x hx
 refine⟨MD x hx,?_⟩
 obtain rfl:x=0:=by simp[q_]at hx;exact hx
 exact⟨by decide,by decide⟩
theorem Pk {d:Nat} (hd:d<4294967296):∃lv:Nat,RD .u32 4294967295 (d:Int)=(lv:Int)∧lv<4294967296∧∀i,i<32->lv.testBit i = !d.testBit i:=by
 refine⟨(BitVec.ofInt 32 4294967295 ^^^ BitVec.ofInt 32 (d:Int)).toNat,GX _ (BitVec.isLt _),BitVec.isLt _,fun i hi=> ?_⟩
 have h1:(BitVec.ofInt 32 4294967295 ^^^ BitVec.ofInt 32 (d:Int)).toNat=Ly 4294967295 ^^^ Ly (d:Int):=BitVec.toNat_xor ..
 rw[h1,rP hd,show Ly 4294967295=2^32 - 1 from rP (a:=4294967295) (by omega),Nat.testBit_xor,Nat.testBit_two_pow_sub_one,decide_eq_true hi]
 simp
theorem Hv (x:Ko) (raw:List Int) (p2:Int) (wishes:List Int) (h0:0<=p2) (h1:p2<4294967296):mA 1000 x raw p2 wishes=some true:=by
 obtain⟨d,rfl⟩:∃d:Nat,p2=d:=⟨p2.toNat,by omega⟩
 have hd:d<4294967296:=by omega
 obtain⟨g,hg,hVM,hn9⟩:=Ug x 9 (by omega) (by omega)
 have hV:VG g:=hVM.vg
 have h24:=hV.n24
 obtain⟨c0,hc,hc0⟩:=Np hV q_ raw (by decide) Xh
 obtain⟨ws,hws,hwl,hwb⟩:=NU wishes (n:=g.2.length+1) (by omega)
 obtain⟨lv,hlv,hlv32,hlvb⟩:=Pk hd
 unfold mA
 rw[show jT 1000 (x.1,x.2.1,x.2.2.1,x.2.2.2.1,x.2.2.2.2.1,x.2.2.2.2.2) 9=some g from hg,bN rfl,Vz,bN rfl,show lC 1000 (g.1,g.2) q_ raw=some c0 from hc,bN rfl,bN (show qL 1000=some BJ from rfl)]
 rw[bN (Qr 1000)]
 refine Ry fun z hz=> ?_
 have hz:z.map wT=EP RC:=hz
 let p:DL:=(ByteArray.mk #[99,111,108,111,117,114,105,110,103],q_,z)
 rw[eT (by omega),bN hws]
 obtain⟨k,c,ch,cnt,ens,hrun,hI,hsh,hk,hchl,hel,hea,hend⟩:=Nw (p:=p) hV (Xe hV) hz Th (kind:=2) (by omega) (by omega) hc0 hlv32 (ws:=ws) (by omega) hwb
  (fun k c ch _=>TT g lv k c ch) ⟨hc0,fun v _=>by simp[vS],fun v _ h=>by simp[vS]at h,by omega,fun t h=>by cases h⟩
  (fun k c ch cnt t cnt' err hk hsh hI hne ht0 hsub hind _ _=>WY hV hI ht0 hsub (hind rfl))
 have hf:pZ 1000 p (g.1,g.2) 2 c0 (d:Int) ws=some ((BH ch,ens,c,cnt),0):=by
  unfold pZ
  rw[hlv,bN (show i_ 1000 _ _ 2 c0 (lv:Int) ws=_ from hrun)]
 refine(bN hf).trans ?_
 unfold lL
 dsimp only
 rw[if_neg (by decide),decide_eq_false (show¬(c.length:Int)≠(g.2.length:Int) by rw[hsh.len];simp)]
 unfold iQ
 dsimp only
 have hone:=hI.one
 have hdone:=hI.done
 have hen0:AX (fN p g) RC lv c=0:=by
  rcases hend with e|e
  ·have:=QE (f:=vS ch) (n:=g.2.length) hone
   have:=hI.sum
   omega
  ·exact e
 rw[if_neg (by decide),bN (show pD 1000 _ (g.2.length:Int)=_ from Qc hI.sets (by omega) h24 ens c cnt)]
 have hcnt:∀v,v<g.2.length->at' ((List.range g.2.length).map fun v=>((vS ch v:Nat):Int)) (v:Int)=((vS ch v:Nat):Int):=fun v hv=>x_ _ hv
 have hll:((List.range g.2.length).map fun v=>((vS ch v:Nat):Int)).length=g.2.length:=by simp
 refine eI (step:=eY 1000 (d:Int) g _ _) (K:=some true) g.2.length (fun v=>(v:Int)) (fun v ag hv=> ?_) (fun ag=> ?_) 1000 (by omega)
 ·have ho:=hone v hv
  unfold eY gF
  rw[if_pos (by omega),dV (by rw[hll];omega),hcnt v hv,if_neg (by omega),dV (by rw[hll];omega),eT (by omega)]
  by_cases hp:0<vS ch v
  ·obtain⟨hl,_⟩:=hdone v hv hp
   have hdv:d.testBit v=false:=by
    rw[hlvb v (by omega)]at hl
    simpa using hl
   rw[if_pos (by omega),bN (OO 1000 hd (by omega)),hdv];rfl
  ·rw[if_neg (by omega)];rfl
 ·unfold eY
  rw[if_neg (by omega)]
  unfold lM iR
  rw[bN (show xK 1000=some true from rfl),if_pos rfl]
  have hcol:Oa g c d:=by
   refine⟨hV,(WS hV).1 hI.r,fun v hv hdv i hi=> ?_⟩
   have hb:(AX (fN p g) RC lv c).testBit v=false:=by rw[hen0];simp
   cases hcl:Cd g c v i with
   |false=>rfl
   |true=>
    have:(AX (fN p g) RC lv c).testBit v=true:=(Ea (fN p g) RC lv c v).2 ⟨hv,Do.2 ⟨i,hi,(of_decide_eq_true hcl).symm⟩,by rw[hlvb v (by omega),hdv];rfl⟩
    rw[this]at hb;cases hb
  rw[bN (show gX 1000 _ c (d:Int)=_ from(IZ g c hd).1 hcol)]
end Go.Proofs.YtigggfnchamobaaGreatDoor
end
section
namespace Go.Sx
open Go.RowKit Go.ChangeShapes Go.WideShapes Go.ChangeAt Go.Proofs Go.Joins Go.Deep
section
variable {H:Type} {enc:TypeId×Value->H} {P:Program} {w:World} {base:Nat} {spare:Nat->Bool} {held:Bool}
theorem FK {α:Type} (l:List α) (d:α):l=(List.range l.length).map fun i=>l.getD i d:=by
 apply List.ext_getElem?
 intro i
 by_cases h:i<l.length
 ·simp[h]
 ·simp[h]
theorem Qm {r:Reach} {b0:Nat} {t:TypeId} {fs:Array Field} {v:Value} {d:DataW H} {p:List MemPlace} (hs:P.underlying t=some (.struct fs)) (hone:oneCellFields P fs=true) (hC:P.cellsOf t=fs.size)
  (hv:Value.okWide P w r b0 t v) (h:DataW.Trod enc P w base spare held t v d p):
  ∃(V:Nat->Value) (Y:Nat->DataW H×List MemPlace) (n:Nat),v = .agg ((List.range fs.size).map V).toArray∧∀(i:Nat) (f:Field),fs[i]? = some f->DataW.trod enc P w base spare held n f.type [V i]=some (Y i):=by
 obtain⟨cs,rfl,hsz⟩:=okWide_struct hs hv
 obtain⟨fuel,hf⟩:=h
 obtain⟨xs,n,_,_,_,hlen,hg⟩:=DataW.trod_struct hs hf
 refine⟨fun i=>cs.toList.getD i undef,fun i=>xs.getD i (.nil,[]),n,?_,fun i f hi=> ?_⟩
 ·congr 1
  apply Array.toList_inj.1
  show cs.toList=(List.range fs.size).map fun i=>cs.toList.getD i undef
  have h2:fs.size=cs.toList.length:=by rw[<-hC,<-hsz];rfl
  rw[h2]
  exact FK cs.toList undef
 ·have hlt:i<fs.size:=(Array.getElem?_eq_some_iff.1 hi).1
  obtain⟨o,k⟩:=hone_of hone i f hi
  have g:=hg i f hi
  have hcl:(Value.cells (.agg cs)).toList=cs.toList:=rfl
  have hl:i<cs.toList.length:=by rw[Array.length_toList];omega
  rw[o,k,hcl,take1_drop _ _ undef hl]at g
  rw[g]
  have hx:i<xs.length:=by omega
  simp[hx]
theorem PV {k:IntKind} {e:TypeId} (he:P.underlying e=some (.int k)) {n:Nat} {v:Value} {x:DataW H×List MemPlace} (h:DataW.trod enc P w base spare held n e [v]=some x):∃y:Int,v = .int k y:=by
 obtain⟨y,hy,_,_⟩:=DataW.trod_int he h
 exact⟨y,by simpa using hy⟩
theorem Gv {e:TypeId} (he:P.underlying e=some .bool) {n:Nat} {v:Value} {x:DataW H×List MemPlace} (h:DataW.trod enc P w base spare held n e [v]=some x):∃y:Bool,v = .bool y:=by
 obtain⟨y,hy,_⟩:=DataW.trod_bool he h
 exact⟨y,by simpa using hy⟩
theorem QX {n:Int} (h:(Lit.int .u32 n).wf=true):0<=n∧n<4294967296:=by
 simp only[Lit.wf,Bool.and_eq_true,decide_eq_true_eq]at h
 have e1:IntKind.u32.min=0:=by decide
 have e2:IntKind.u32.max=4294967295:=by decide
 omega
end
end Go.Sx
end
section
set_option maxRecDepth 100000
namespace Go.Sx
open Go.RowKit Go.ChangeShapes Go.WideShapes Go.ChangeAt Go.Proofs Go.Joins
theorem KH {P:Program} {W:World} {n:String} {b m t t':Nat} {k:IntKind} {xs:List Int} (h:laidMet P [(n,.agg (xs.map fun x=> .lit (.int k x)))] W) (hg:P.globalNamed n=some b)
  (ht:(P.globals[b]?).map (·.type)=some t) (hu:P.underlying t=some (.array m t')) (hu':P.underlying t'=some (.int k)) (hc:P.cellsOf t'=1) (hcm:P.cellsOf t=m) (hm:0<m):(Gb b (cellsOf (dK.int k) xs)).p W (fun _=>True):=by
 obtain⟨ps,⟨g,t2,cs,fuel,p,q,e1,e2,e3,e4,e5,e6⟩,hnd,hcell⟩:=h
 rw[hg]at e1;cases e1
 rw[ht]at e2;cases e2
 refine⟨trivial,?_⟩
 obtain⟨ys,ml,_,e7,hl,hyl,hf⟩:=DataW.trod_array hu e4
 simp only[Prod.mk.injEq,DataW.agg.injEq]at e7
 have hlen:xs.length=m:=by rw[<-hyl];simpa using congrArg List.length e7.1
 have hcl:cs.size=m:=by rw[<-hcm,<-hl];simp
 have hcs:cs.toList=cellsOf (dK.int k) xs:=by
  refine List.ext_getElem? fun i=> ?_
  by_cases hi:i<m
  ·have h1:=hf i hi
   rw[hc,Nat.mul_one]at h1
   have hx:xs[i]? = some (xs[i]'(by omega)):=List.getElem?_eq_getElem _
   have h2:=sN (dK.int k) xs i _ hx 0 _ rfl
   rw[show i*(dK.int k).sz+0=i from Nat.mul_one i]at h2
   rw[h2]
   have hy:ys[i]? = some (ys[i]'(by omega)):=List.getElem?_eq_getElem _
   rw[hy]at h1
   obtain⟨z,hz,hz2,_⟩:=DataW.trod_int hu' h1
   have hc0:cs.toList[i]? = some (.int k z):=by
    have:=congrArg (·[0]?) hz
    simpa [List.getElem?_take,List.getElem?_drop]using this
   rw[hc0]
   have h3:=congrArg (·[i]?) e7.1
   simp only[List.getElem?_map,hx,hy,Option.map_some,Option.some.injEq]at h3
   rw[hz2]at h3
   have h4:xs[i]=z:=by simpa using h3
   rw[h4]
  ·rw[List.getElem?_eq_none (by simp;omega),List.getElem?_eq_none (by rw[dH,hlen];show m*1<=i;omega)]
 have hmem:MemPlace.cell b 0∈ps:=by
  rw[e6]
  refine List.mem_append_left _ (List.mem_append_left _ ?_)
  exact List.mem_map.2 ⟨0,by simp;omega,rfl⟩
 obtain⟨⟨c,T,hb⟩,_⟩:=hcell b 0 hmem
 refine⟨T,?_⟩
 have h5:c=cs:=by
  have h6:(W.var? P n)=some c:=by unfold World.var?;rw[hg];simp[hb]
  rw[h6]at e3;exact Option.some.inj e3
 rw[hb,h5,<-hcs]
theorem Ji {H:Type} {enc:TypeId×Value->H} {os:Os} (ld:List (String×DataW Unit)) (hpl:(ld.all fun x=>x.2.handleName?.isNone)=true) (started:os.Started) {f:FuncId} {fn:Func} {s:ChangeSpec} {r:Bool} (hfn:Tryz.prog.funcs[f]? = some fn) (noInit:Tryz.prog.inits.idxOf? f=none)
  (hread:(fn.params.toList.all fun t=>Tryz.prog.readableRec t&&decide (t<Tryz.prog.types.size))=true) (hres:fn.resultTypes = #[4]) (hvars:s.vars=[])
  (hspec:∀ds:List (DataW H),ds.length=fn.params.toList.length->s.fn H ds={results:=[.lit (.bool true)],args:=ds})
  (witness:∃(w:World) (tape:Tape) (i:Input),w.os=os∧(w.forCall tape i).Shaped Tryz.prog∧i.vars=[]∧Input.okWide Tryz.prog (w.forCall tape i) .any w.heap.size f i∧
   ((s.pre enc Tryz.prog fn [] false (w.forCall tape i).memory i.args∧laidMetH Tryz.prog ld (w.forCall tape i).memory)∧sizedMet enc Tryz.prog fn (OpenSpec.ofChange s) false (w.forCall tape i).memory i.args)∧({}:Assume).holds Tryz.prog (lone (Frame.enter Tryz.prog f i.args .normal) [] (w.forCall tape i)))
  (main:∀(W:World) (base:Nat) (args:Array Value) (ds:List (DataW H)) (p:List MemPlace),laidMetH Tryz.prog ld W->(∀(j:Nat) t v,fn.params[j]? = some t->args[j]? = some v->Value.okWide Tryz.prog W .any base t v)->
   DataW.TrodAll enc Tryz.prog W 0 (fun _=>true) true fn.params.toList args.toList ds p->Calls Tryz.prog f args W fun e W'=>e = .returned (.bool true)∧G_ W W'):
  ReturnsInHanded {} Go.Proofs.YtigggfnchamobaaGreatDoor.Tryz.pinned.checked os f .any (fun w args=>(s.pre enc Tryz.prog fn [] false w args∧laidMetH Tryz.prog ld w)∧sizedMet enc Tryz.prog fn (OpenSpec.ofChange s) false w args) (s.post enc Tryz.prog fn false r false false):=by
 refine returnsInHanded_of_change_and (C:=Go.Proofs.YtigggfnchamobaaGreatDoor.Tryz.pinned.checked) (X:=fun w _=>laidMetH Tryz.prog ld w) (fun _ _ _ hh h=>by rw[MakeChecks.laidMetH_plain _ _ _ hpl]at h ⊢;exact h.of_heap hh) Zd started noInit hfn witness ?_
 intro W base args ds gs before hval hW _ _ hL _
 have hlt:=hW.lt
 have hW':=hW
 obtain⟨p,q,hA,hV,rfl,_,_⟩:=hW
 rw[hvars]at hV
 obtain⟨rfl,rfl⟩:=trodVars_none hV
 refine(main W base args ds p hL hval hA).mono ?_
 rintro e W' ⟨rfl,hb⟩
 refine⟨_,rfl,?_⟩
 have hlen:ds.length=fn.params.toList.length:=by
  have:∀(ts:List TypeId) (vs:List Value) (ds:List (DataW H)) (p:List MemPlace),DataW.TrodAll enc Tryz.prog W 0 (fun _=>true) true ts vs ds p->ds.length=ts.length:=by
   intro ts
   induction ts with
   |nil=>intro vs ds p h;cases vs<;>cases ds<;>first|rfl|exact h.elim
   | cons t ts ih =>
    intro vs ds p h
    cases vs with
    |nil=>exact h.elim
    |cons v vs=>
     cases ds with
     |nil=>exact h.elim
     |cons d ds=>obtain⟨_,_,_,h2,_⟩:=h;simp[ih vs ds _ h2]
  exact this _ _ _ _ hA
 have hs:s.fn H (ds++[])={results:=[.lit (.bool true)],args:=ds}:=by rw[List.append_nil];exact hspec ds hlen
 refine⟨ds,[],p++[],[],p,[],hW',?_,?_,?_,hb.frame _,fun h=>by cases h⟩
 ·rw[hs,hres]
  exact trodAll_mk1 (shut_bool Tryz.underlying4 true)
 ·rw[hs]
  exact Bp WK hb _ _ _ _ hread hA (fun x hx=>hlt x (List.mem_append_left _ hx))
 ·rw[hs,hvars];exact rfl
theorem NE {P:Program} {n:String} {k:IntKind} {xs:List Int} {W:World} (h:laidMetH P [(n,.agg (xs.map fun x=> .lit (.int k x)))] W):laidMet P [(n,.agg (xs.map fun x=> .lit (.int k x)))] W:=by
 rw[MakeChecks.laidMetH_plain _ _ _ (by rfl)]at h;exact h
end Go.Sx
end
