/- The model of selfstablaw01.GraphDistancesAreAMetric and the proof that the function meets it, by program (gen/xt.py). Conditions: none. -/
import Derived.Test.YtemhmmcakmidkaaX32
import Derived.Test.YtemhmmcakmidkaaX33
import Derived.Test.YtemhmmcakmidkaaX34
import Derived.Test.YtemhmmcakmidkaaX35
namespace Go.Proofs.Ytemhmmcakmidkaa
open Go.Sx
set_option linter.unusedVariables false
set_option linter.unusedSimpArgs false

def law01_GraphDistancesAreAMetric_k3  (a36 : Bool) : Option (Bool) :=
  some (a36)
def law01_GraphDistancesAreAMetric_k2 (fuel : Nat) (r9 : Int) (r12 : Int) (r15 : Int) (r18 : List (Int)) (r21 : List (Int)) (r24 : List (Int)) (a32 : Bool) : Option (Bool) :=
  if a32 = true then (some (false)) else (Option.bind (m_law01_awake fuel ) fun r38 => (if r38 = true then (ck (0 ≤ r12 ∧ r12 < (List.length r18 : Int)) (ck (0 ≤ r9 ∧ r9 < (List.length r21 : Int)) (if (at' r18 r12) = (at' r21 r9) then (ck (0 ≤ r15 ∧ r15 < (List.length r21 : Int)) (ck (0 ≤ r12 ∧ r12 < (List.length r24 : Int)) (law01_GraphDistancesAreAMetric_k3  (decide ((at' r21 r15) = (at' r24 r12)))))) else (law01_GraphDistancesAreAMetric_k3  (false))))) else (law01_GraphDistancesAreAMetric_k3  (false))))
def law01_GraphDistancesAreAMetric_k1 (fuel : Nat) (r9 : Int) (r12 : Int) (r15 : Int) (r18 : List (Int)) (r21 : List (Int)) (r24 : List (Int)) (a28 : Bool) : Option (Bool) :=
  if a28 = true then (some (false)) else (ck (0 ≤ r12 ∧ r12 < (List.length r18 : Int)) (if (0 : Int) ≤ (at' r18 r12) then (ck (0 ≤ r15 ∧ r15 < (List.length r21 : Int)) (if (0 : Int) ≤ (at' r21 r15) then (ck (0 ≤ r15 ∧ r15 < (List.length r18 : Int)) (if (at' r18 r15) < (0 : Int) then (law01_GraphDistancesAreAMetric_k2 fuel r9 r12 r15 r18 r21 r24 (true)) else (ck (0 ≤ r15 ∧ r15 < (List.length r18 : Int)) (ck (0 ≤ r12 ∧ r12 < (List.length r18 : Int)) (ck (0 ≤ r15 ∧ r15 < (List.length r21 : Int)) (law01_GraphDistancesAreAMetric_k2 fuel r9 r12 r15 r18 r21 r24 (decide ((wI .i64 ((at' r18 r12) + (at' r21 r15))) < (at' r18 r15))))))))) else (law01_GraphDistancesAreAMetric_k2 fuel r9 r12 r15 r18 r21 r24 (false)))) else (law01_GraphDistancesAreAMetric_k2 fuel r9 r12 r15 r18 r21 r24 (false))))
def m_law01_GraphDistancesAreAMetric (fuel : Nat) (p0 : List (Int) × (List (List (Int × Int)))) (p1 : Int) (p2 : Int) (p3 : Int) : Option (Bool) :=
  Option.bind (m_law01_fair fuel ((p0.1, p0.2))) fun r2 => (if (!r2) = true then (Option.bind (m_law01_awake fuel ) fun r6 => (some (r6))) else (Option.bind (m_made_Mod fuel p1 (List.length p0.2 : Int)) fun r9 => (Option.bind (m_made_Mod fuel p2 (List.length p0.2 : Int)) fun r12 => (Option.bind (m_made_Mod fuel p3 (List.length p0.2 : Int)) fun r15 => (Option.bind (m_graph_Distances fuel ((p0.1, p0.2)) r9) fun r18 => (Option.bind (m_graph_Distances fuel ((p0.1, p0.2)) r12) fun r21 => (Option.bind (m_graph_Distances fuel ((p0.1, p0.2)) r15) fun r24 => (if (List.length r18 : Int) ≠ (List.length p0.2 : Int) then (law01_GraphDistancesAreAMetric_k1 fuel r9 r12 r15 r18 r21 r24 (true)) else (if (List.length r21 : Int) ≠ (List.length p0.2 : Int) then (law01_GraphDistancesAreAMetric_k1 fuel r9 r12 r15 r18 r21 r24 (true)) else (law01_GraphDistancesAreAMetric_k1 fuel r9 r12 r15 r18 r21 r24 (decide ((List.length r24 : Int) ≠ (List.length p0.2 : Int)))))))))))))

theorem body5 : HasBody Try.prog 5 := Try.call5

set_option maxHeartbeats 4000000 in
set_option maxRecDepth 20000 in
theorem t_law01_GraphDistancesAreAMetric (fuel : Nat) {p0 : List (Int) × (List (List (Int × Int)))} {p1 : Int} {p2 : Int} {p3 : Int} (v0 : Value)  (v1 : Value)  (z2 : List (Value × List (Int × Int))) (r : Bool) (h : m_law01_GraphDistancesAreAMetric fuel p0 p1 p2 p3 = some r) :
    Meets Try.prog 5 #[Value.agg #[v0, v1], Value.int .i64 (p1), Value.int .i64 (p2), Value.int .i64 (p3)] [Sl RI64 v0 p0.1, S2 RI64I64p v1 z2 p0.2] (fun x : Unit => Value.bool (r)) (fun x l => l) (fun _ l => l) := by
  refine Meets.of (vs := [Value.agg #[v0, v1], Value.int .i64 (p1), Value.int .i64 (p2), Value.int .i64 (p3)]) Try.func5 rfl Try.ntmps5 rfl fun c => ?_
  unfold m_law01_GraphDistancesAreAMetric at h
  refine J.seq ?_
  refine J.region ?_
  refine J.loud (Loud.box (cs := [v0, v1]) rfl rfl) rfl fun b1 => ?_
  refine J.quiet (Y.assign rfl) rfl ?_
  refine J.done ?_
  refine J.thenN ?_
  refine J.seq ?_
  refine J.seq ?_
  refine J.region ?_
  refine J.quiet (Y.loadBAll 0 rfl rfl rfl rfl) rfl ?_
  replace h := bnd h; obtain ⟨r2, hr3, h⟩ := h
  refine J.loud (Loud.callL body32 (t_law01_fair fuel v0 v1 z2 r2 hr3) rfl (LentAll.cons (Lent.fact 0 rfl) (LentAll.cons (Lent.fact 1 rfl) (LentAll.nil))) (fun _ _ => rfl)) rfl fun x4 => ?_
  refine J.quiet (Y.not rfl) rfl ?_
  refine J.done ?_
  refine J.thenN ?_
  refine J.cond (by exact rfl) (fun hp5 => ?_) (fun hp5 => ?_)
  · replace h := ifP hp5 h
    refine J.seq ?_
    refine J.region ?_
    replace h := bnd h; obtain ⟨r6, hr7, h⟩ := h
    refine J.loud (Loud.callL body33 (t_law01_awake fuel  r6 hr7) rfl (LentAll.nil) (fun _ _ => rfl)) rfl fun x8 => ?_
    refine J.quiet (Y.assign rfl) rfl ?_
    refine J.done ?_
    refine J.thenN ?_
    refine J.ret ?_
    refine J.thenR ?_
    obtain rfl := Option.some.inj h
    exact J.retG1 (()) rfl rfl (RV.tmp rfl) (SubM.nil) LentAll.nil
  · replace h := ifBN hp5 h
    refine J.skip ?_
    refine J.thenN ?_
    refine J.seq ?_
    refine J.region ?_
    refine J.quiet (Y.fieldB rfl rfl rfl rfl rfl) rfl ?_
    refine J.quiet (Y.loadB 0 rfl rfl rfl rfl rfl) rfl ?_
    refine J.quiet (Y.lenN rfl (Lent.fact 1 rfl) rfl) rfl ?_
    refine J.quiet (Y.assign rfl) rfl ?_
    refine J.done ?_
    refine J.thenN ?_
    refine J.seq ?_
    refine J.region ?_
    refine J.quiet (Y.move rfl) rfl ?_
    refine J.quiet (Y.move rfl) rfl ?_
    replace h := bnd h; obtain ⟨r9, hr10, h⟩ := h
    refine J.loud (Loud.callL body34 (t_made_Mod fuel  r9 hr10) rfl (LentAll.nil) (fun _ _ => rfl)) rfl fun x11 => ?_
    refine J.quiet (Y.move rfl) rfl ?_
    refine J.quiet (Y.move rfl) rfl ?_
    replace h := bnd h; obtain ⟨r12, hr13, h⟩ := h
    refine J.loud (Loud.callL body34 (t_made_Mod fuel  r12 hr13) rfl (LentAll.nil) (fun _ _ => rfl)) rfl fun x14 => ?_
    refine J.quiet (Y.move rfl) rfl ?_
    refine J.quiet (Y.move rfl) rfl ?_
    replace h := bnd h; obtain ⟨r15, hr16, h⟩ := h
    refine J.loud (Loud.callL body34 (t_made_Mod fuel  r15 hr16) rfl (LentAll.nil) (fun _ _ => rfl)) rfl fun x17 => ?_
    refine J.quiet (Y.assign rfl) rfl ?_
    refine J.quiet (Y.assign rfl) rfl ?_
    refine J.quiet (Y.assign rfl) rfl ?_
    refine J.done ?_
    refine J.thenN ?_
    refine J.seq ?_
    refine JR.start [0, 0, 3, 0, 0, 31, 0, 0, 255, 511, 1023, 2047] 8 mixedOrders (by decide +kernel) ?_
    refine JR.open (by exact rfl) ?_
    refine JR.qt rfl (SubM.refl _) (SubL.nil) (Y.loadBAll 0 rfl rfl rfl rfl) HistOk.z ?_
    refine JR.qt rfl (SubM.nil) (SubL.nil) (Y.move rfl) HistOk.z ?_
    replace h := bnd h; obtain ⟨r18, hr19, h⟩ := h
    refine JR.loud rfl rfl rfl (Loud.callL body35 (t_graph_Distances fuel v0 v1 z2 r18 hr19) rfl (LentAll.cons (Lent.fact 0 rfl) (LentAll.cons (Lent.fact 1 rfl) (LentAll.nil))) (fun _ _ => rfl)) rfl (fun x20 => (BsOk.b rfl (BsOk.b rfl BsOk.z))) fun x20 => ?_
    refine JR.qt rfl (SubM.cons 1 rfl (SubM.nil)) (SubL.nil) (Y.loadBAll 0 rfl rfl rfl rfl) (HistOk.h (SubM.cons 0 rfl (SubM.nil)) (SubL.nil) HistOk.z) ?_
    refine JR.qt rfl (SubM.nil) (SubL.nil) (Y.move rfl) (HistOk.h (SubM.nil) (SubL.nil) HistOk.z) ?_
    replace h := bnd h; obtain ⟨r21, hr22, h⟩ := h
    refine JR.loud rfl rfl rfl (Loud.callL body35 (t_graph_Distances fuel v0 v1 z2 r21 hr22) rfl (LentAll.cons (Lent.fact 0 rfl) (LentAll.cons (Lent.fact 1 rfl) (LentAll.nil))) (fun _ _ => rfl)) rfl (fun x23 => (BsOk.b rfl (BsOk.b rfl (BsOk.b rfl (BsOk.b rfl BsOk.z))))) fun x23 => ?_
    refine JR.qt rfl (SubM.cons 2 rfl (SubM.nil)) (SubL.nil) (Y.loadBAll 0 rfl rfl rfl rfl) (HistOk.h (SubM.cons 1 rfl (SubM.nil)) (SubL.nil) (HistOk.h (SubM.cons 0 rfl (SubM.nil)) (SubL.nil) HistOk.z)) ?_
    refine JR.qt rfl (SubM.nil) (SubL.nil) (Y.move rfl) (HistOk.h (SubM.nil) (SubL.nil) (HistOk.h (SubM.nil) (SubL.nil) HistOk.z)) ?_
    refine JR.tailD 8 rfl rfl ?_
    replace h := bnd h; obtain ⟨r24, hr25, h⟩ := h
    refine J.loud (Loud.callL body35 (t_graph_Distances fuel v0 v1 z2 r24 hr25) rfl (LentAll.cons (Lent.fact 0 rfl) (LentAll.cons (Lent.fact 1 rfl) (LentAll.nil))) (fun _ _ => rfl)) rfl fun x26 => ?_
    refine J.quiet (Y.assign rfl) rfl ?_
    refine J.quiet (Y.assign rfl) rfl ?_
    refine J.quiet (Y.assign rfl) rfl ?_
    refine J.done ?_
    refine J.thenN ?_
    refine J.seq ?_
    refine J.seq ?_
    refine J.midI (A := Bool) (B := Unit) (fun a28 => law01_GraphDistancesAreAMetric_k1 fuel r9 r12 r15 r18 r21 r24 a28 = some r) (fun a28 b29 => [(1, Value.int .i64 (r9)), (2, Value.int .i64 (r12)), (3, Value.int .i64 (r15)), (10, x20), (11, x23), (12, x26), (53, Value.bool (a28))]) (fun a28 b29 => [Ar EI64 x26 r24, Ar EI64 x23 r21, Ar EI64 x20 r18]) (fun a28 b29 => [Sl RI64 v0 p0.1, S2 RI64I64p v1 z2 p0.2]) ?_ ?_
    · refine J.region ?_
      refine J.quiet (Y.move rfl) rfl ?_
      refine J.quiet (Y.lenS rfl (Lent.ar (Lent.res 2 rfl) FI64) rfl) rfl ?_
      refine J.quiet (Y.move rfl) rfl ?_
      refine J.quiet (Y.neq rfl rfl) rfl ?_
      refine J.quiet (Y.move rfl) rfl ?_
      refine J.guardD (by exact rfl) (by exact rfl) (fun hp56 => ?_) (fun hp56 => ?_)
      · replace h := ifP hp56 h
        refine J.guardN rfl rfl rfl ?_
        refine J.guardN rfl rfl rfl ?_
        refine J.guardN rfl rfl rfl ?_
        refine J.guardN rfl rfl rfl ?_
        refine J.quiet (Y.pickT rfl rfl) rfl ?_
        refine J.quiet (Y.move rfl) rfl ?_
        refine J.guardN rfl rfl rfl ?_
        refine J.guardN rfl rfl rfl ?_
        refine J.guardN rfl rfl rfl ?_
        refine J.guardN rfl rfl rfl ?_
        refine J.quiet (Y.pickT rfl rfl) rfl ?_
        refine J.done ?_
        refine J.thenN ?_
        exact J.meetI (true) (()) h (by repeat (first | exact SubF.nil | refine SubF.cons rfl ?_)) (SubM.cons 0 rfl (SubM.cons 0 rfl (SubM.cons 0 rfl (SubM.nil)))) (LentAll.refl _ _)
      · replace h := ifN hp56 h
        refine J.guardY rfl (Y.move rfl) rfl ?_
        refine J.guardY rfl (Y.lenS rfl (Lent.ar (Lent.res 1 rfl) FI64) rfl) rfl ?_
        refine J.guardY rfl (Y.move rfl) rfl ?_
        refine J.guardY rfl (Y.neq rfl rfl) rfl ?_
        refine J.quiet (Y.pickF rfl rfl) rfl ?_
        refine J.quiet (Y.move rfl) rfl ?_
        refine J.guardD (by exact rfl) (by exact rfl) (fun hp57 => ?_) (fun hp57 => ?_)
        · replace h := ifP hp57 h
          refine J.guardN rfl rfl rfl ?_
          refine J.guardN rfl rfl rfl ?_
          refine J.guardN rfl rfl rfl ?_
          refine J.guardN rfl rfl rfl ?_
          refine J.quiet (Y.pickT rfl rfl) rfl ?_
          refine J.done ?_
          refine J.thenN ?_
          exact J.meetI (true) (()) h (by repeat (first | exact SubF.nil | refine SubF.cons rfl ?_)) (SubM.cons 0 rfl (SubM.cons 0 rfl (SubM.cons 0 rfl (SubM.nil)))) (LentAll.refl _ _)
        · replace h := ifN hp57 h
          refine J.guardY rfl (Y.move rfl) rfl ?_
          refine J.guardY rfl (Y.lenS rfl (Lent.ar (Lent.res 0 rfl) FI64) rfl) rfl ?_
          refine J.guardY rfl (Y.move rfl) rfl ?_
          refine J.guardY rfl (Y.neq rfl rfl) rfl ?_
          refine J.quiet (Y.pickF rfl rfl) rfl ?_
          refine J.done ?_
          refine J.thenN ?_
          exact J.meetI (decide ((List.length r24 : Int) ≠ (List.length p0.2 : Int))) (()) h (by repeat (first | exact SubF.nil | refine SubF.cons rfl ?_)) (SubM.cons 0 rfl (SubM.cons 0 rfl (SubM.cons 0 rfl (SubM.nil)))) (LentAll.refl _ _)
    · clear h
      intro a28 b29 h
      unfold law01_GraphDistancesAreAMetric_k1 at h
      refine J.cond (by exact rfl) (fun hp30 => ?_) (fun hp30 => ?_)
      · replace h := ifP hp30 h
        refine J.seq ?_
        refine J.region ?_
        refine J.quiet (Y.assign rfl) rfl ?_
        refine J.done ?_
        refine J.thenN ?_
        refine J.ret ?_
        refine J.thenR ?_
        obtain rfl := Option.some.inj h
        exact J.retG1 (()) rfl rfl (RV.tmp rfl) (SubM.nil) LentAll.nil
      · replace h := ifBN hp30 h
        refine J.skip ?_
        refine J.thenN ?_
        refine J.seq ?_
        refine J.seq ?_
        refine J.midI (A := Bool) (B := Unit) (fun a32 => law01_GraphDistancesAreAMetric_k2 fuel r9 r12 r15 r18 r21 r24 a32 = some r) (fun a32 b33 => [(1, Value.int .i64 (r9)), (2, Value.int .i64 (r12)), (3, Value.int .i64 (r15)), (10, x20), (11, x23), (12, x26), (88, Value.bool (a32))]) (fun a32 b33 => [Ar EI64 x26 r24, Ar EI64 x23 r21, Ar EI64 x20 r18]) (fun a32 b33 => [Sl RI64 v0 p0.1, S2 RI64I64p v1 z2 p0.2]) ?_ ?_
        · refine JR.start [0, 0, 3, 7, 15, 31, 63, 63, 255, 511, 1023, 2047, 4095, 8191, 8191, 32767, 65535, 131071, 262143, 524287, 524287, 2097151, 4194303, 524287, 524287, 25690111, 59244543, 524287, 524287, 403177471, 940048383, 2139619327, 4294967295, 8589934591, 17179869183] 32 mixedOrders (by decide +kernel) ?_
          refine JR.open (by exact rfl) ?_
          refine JR.qt rfl (SubM.nil) (SubL.nil) (Y.move rfl) HistOk.z ?_
          refine JR.qt rfl (SubM.nil) (SubL.nil) (Y.move rfl) HistOk.z ?_
          replace h := ck_some h; obtain ⟨hc47, h⟩ := h
          refine JR.qt rfl (SubM.cons 2 rfl (SubM.nil)) (SubL.nil) (Y.indexS rfl rfl (Lent.ar (Lent.res 0 rfl) FI64) rfl rfl hc47) HistOk.z ?_
          refine JR.qt rfl (SubM.cons 2 rfl (SubM.nil)) (SubL.nil) (Y.loadS0 rfl (Lent.ar (Lent.res 0 rfl) FI64) rfl rfl rfl RI64c0 hc47) HistOk.z ?_
          refine JR.qt rfl (SubM.nil) (SubL.nil) (Y.geq rfl rfl) HistOk.z ?_
          refine JR.qt rfl (SubM.nil) (SubL.nil) (Y.move rfl) HistOk.z ?_
          refine JR.guardD (by exact rfl) (by exact rfl) (by exact rfl) (fun hp48 => ?_) (fun hp48 => ?_)
          · replace h := ifP hp48 h
            refine JR.qtG rfl (SubM.nil) (SubL.nil) (Y.move rfl) HistOk.z ?_
            refine JR.qtG rfl (SubM.nil) (SubL.nil) (Y.move rfl) HistOk.z ?_
            replace h := ck_some h; obtain ⟨hc49, h⟩ := h
            refine JR.qtG rfl (SubM.cons 1 rfl (SubM.nil)) (SubL.nil) (Y.indexS rfl rfl (Lent.ar (Lent.res 0 rfl) FI64) rfl rfl hc49) HistOk.z ?_
            refine JR.qtG rfl (SubM.cons 1 rfl (SubM.nil)) (SubL.nil) (Y.loadS0 rfl (Lent.ar (Lent.res 0 rfl) FI64) rfl rfl rfl RI64c0 hc49) HistOk.z ?_
            refine JR.qtG rfl (SubM.nil) (SubL.nil) (Y.geq rfl rfl) HistOk.z ?_
            refine JR.qt rfl (SubM.nil) (SubL.nil) (Y.pickT rfl rfl) HistOk.z ?_
            refine JR.qt rfl (SubM.nil) (SubL.nil) (Y.move rfl) HistOk.z ?_
            refine JR.guardD (by exact rfl) (by exact rfl) (by exact rfl) (fun hp50 => ?_) (fun hp50 => ?_)
            · replace h := ifP hp50 h
              refine JR.qtG rfl (SubM.nil) (SubL.nil) (Y.move rfl) HistOk.z ?_
              refine JR.qtG rfl (SubM.nil) (SubL.nil) (Y.move rfl) HistOk.z ?_
              replace h := ck_some h; obtain ⟨hc51, h⟩ := h
              refine JR.qtG rfl (SubM.cons 2 rfl (SubM.nil)) (SubL.nil) (Y.indexS rfl rfl (Lent.ar (Lent.res 0 rfl) FI64) rfl rfl hc51) HistOk.z ?_
              refine JR.qtG rfl (SubM.cons 2 rfl (SubM.nil)) (SubL.nil) (Y.loadS0 rfl (Lent.ar (Lent.res 0 rfl) FI64) rfl rfl rfl RI64c0 hc51) HistOk.z ?_
              refine JR.qtG rfl (SubM.nil) (SubL.nil) (Y.lss rfl rfl) HistOk.z ?_
              refine JR.qtG rfl (SubM.nil) (SubL.nil) (Y.move rfl) HistOk.z ?_
              refine JR.guardD (by exact rfl) (by exact rfl) (by exact rfl) (fun hp52 => ?_) (fun hp52 => ?_)
              · replace h := ifP hp52 h
                refine JR.guardN rfl rfl rfl rfl ?_
                refine JR.guardN rfl rfl rfl rfl ?_
                refine JR.guardN rfl rfl rfl rfl ?_
                refine JR.guardN rfl rfl rfl rfl ?_
                refine JR.guardN rfl rfl rfl rfl ?_
                refine JR.guardN rfl rfl rfl rfl ?_
                refine JR.guardN rfl rfl rfl rfl ?_
                refine JR.guardN rfl rfl rfl rfl ?_
                refine JR.guardN rfl rfl rfl rfl ?_
                refine JR.guardN rfl rfl rfl rfl ?_
                refine JR.guardN rfl rfl rfl rfl ?_
                refine JR.guardN rfl rfl rfl rfl ?_
                refine JR.guardN rfl rfl rfl rfl ?_
                refine JR.tailD 32 rfl rfl ?_
                refine J.guardN rfl rfl rfl ?_
                refine J.guardY rfl (Y.pickT rfl rfl) rfl ?_
                refine J.quiet (Y.pickT rfl rfl) rfl ?_
                refine J.done ?_
                refine J.thenN ?_
                exact J.meetI (true) (()) h (by repeat (first | exact SubF.nil | refine SubF.cons rfl ?_)) (SubM.refl _) (LentAll.refl _ _)
              · replace h := ifN hp52 h
                refine JR.qtG rfl (SubM.nil) (SubL.nil) (Y.move rfl) HistOk.z ?_
                refine JR.qtG rfl (SubM.nil) (SubL.nil) (Y.move rfl) HistOk.z ?_
                replace h := ck_some h; obtain ⟨hc53, h⟩ := h
                refine JR.qtG rfl (SubM.cons 2 rfl (SubM.nil)) (SubL.nil) (Y.indexS rfl rfl (Lent.ar (Lent.res 0 rfl) FI64) rfl rfl hc53) HistOk.z ?_
                refine JR.qtG rfl (SubM.cons 2 rfl (SubM.nil)) (SubL.nil) (Y.loadS0 rfl (Lent.ar (Lent.res 0 rfl) FI64) rfl rfl rfl RI64c0 hc53) HistOk.z ?_
                refine JR.qtG rfl (SubM.nil) (SubL.nil) (Y.move rfl) HistOk.z ?_
                refine JR.qtG rfl (SubM.nil) (SubL.nil) (Y.move rfl) HistOk.z ?_
                replace h := ck_some h; obtain ⟨hc54, h⟩ := h
                refine JR.qtG rfl (SubM.cons 2 rfl (SubM.nil)) (SubL.nil) (Y.indexS rfl rfl (Lent.ar (Lent.res 0 rfl) FI64) rfl rfl hc54) HistOk.z ?_
                refine JR.qtG rfl (SubM.cons 2 rfl (SubM.nil)) (SubL.nil) (Y.loadS0 rfl (Lent.ar (Lent.res 0 rfl) FI64) rfl rfl rfl RI64c0 hc54) HistOk.z ?_
                refine JR.qtG rfl (SubM.nil) (SubL.nil) (Y.move rfl) HistOk.z ?_
                refine JR.qtG rfl (SubM.nil) (SubL.nil) (Y.move rfl) HistOk.z ?_
                replace h := ck_some h; obtain ⟨hc55, h⟩ := h
                refine JR.qtG rfl (SubM.cons 1 rfl (SubM.nil)) (SubL.nil) (Y.indexS rfl rfl (Lent.ar (Lent.res 0 rfl) FI64) rfl rfl hc55) HistOk.z ?_
                refine JR.qtG rfl (SubM.cons 1 rfl (SubM.nil)) (SubL.nil) (Y.loadS0 rfl (Lent.ar (Lent.res 0 rfl) FI64) rfl rfl rfl RI64c0 hc55) HistOk.z ?_
                refine JR.qtG rfl (SubM.nil) (SubL.nil) (Y.addW rfl rfl) HistOk.z ?_
                refine JR.tailD 32 rfl rfl ?_
                refine J.guardY rfl (Y.gtr rfl rfl) rfl ?_
                refine J.guardY rfl (Y.pickF rfl rfl) rfl ?_
                refine J.quiet (Y.pickT rfl rfl) rfl ?_
                refine J.done ?_
                refine J.thenN ?_
                exact J.meetI (decide ((wI .i64 ((at' r18 r12) + (at' r21 r15))) < (at' r18 r15))) (()) h (by repeat (first | exact SubF.nil | refine SubF.cons rfl ?_)) (SubM.refl _) (LentAll.refl _ _)
            · replace h := ifN hp50 h
              refine JR.guardN rfl rfl rfl rfl ?_
              refine JR.guardN rfl rfl rfl rfl ?_
              refine JR.guardN rfl rfl rfl rfl ?_
              refine JR.guardN rfl rfl rfl rfl ?_
              refine JR.guardN rfl rfl rfl rfl ?_
              refine JR.guardN rfl rfl rfl rfl ?_
              refine JR.qu (h := ?_)
              refine JR.qu (h := ?_)
              refine JR.qu (h := ?_)
              refine JR.qu (h := ?_)
              refine JR.qu (h := ?_)
              refine JR.qu (h := ?_)
              refine JR.qu (h := ?_)
              refine JR.qu (h := ?_)
              refine JR.qu (h := ?_)
              refine JR.qu (h := ?_)
              refine JR.qu (h := ?_)
              refine JR.qu (h := ?_)
              refine JR.qu (h := ?_)
              refine JR.tailD 32 rfl rfl ?_
              refine J.qu (h := ?_)
              refine J.guardN rfl rfl rfl ?_
              refine J.quiet (Y.pickF rfl rfl) rfl ?_
              refine J.done ?_
              refine J.thenN ?_
              exact J.meetI (false) (()) h (by repeat (first | exact SubF.nil | refine SubF.cons rfl ?_)) (SubM.refl _) (LentAll.refl _ _)
          · replace h := ifN hp48 h
            refine JR.guardN rfl rfl rfl rfl ?_
            refine JR.guardN rfl rfl rfl rfl ?_
            refine JR.guardN rfl rfl rfl rfl ?_
            refine JR.guardN rfl rfl rfl rfl ?_
            refine JR.guardN rfl rfl rfl rfl ?_
            refine JR.qt rfl (SubM.nil) (SubL.nil) (Y.pickF rfl rfl) HistOk.z ?_
            refine JR.qt rfl (SubM.nil) (SubL.nil) (Y.move rfl) HistOk.z ?_
            refine JR.guardN rfl rfl rfl rfl ?_
            refine JR.guardN rfl rfl rfl rfl ?_
            refine JR.guardN rfl rfl rfl rfl ?_
            refine JR.guardN rfl rfl rfl rfl ?_
            refine JR.guardN rfl rfl rfl rfl ?_
            refine JR.guardN rfl rfl rfl rfl ?_
            refine JR.qu (h := ?_)
            refine JR.qu (h := ?_)
            refine JR.qu (h := ?_)
            refine JR.qu (h := ?_)
            refine JR.qu (h := ?_)
            refine JR.qu (h := ?_)
            refine JR.qu (h := ?_)
            refine JR.qu (h := ?_)
            refine JR.qu (h := ?_)
            refine JR.qu (h := ?_)
            refine JR.qu (h := ?_)
            refine JR.qu (h := ?_)
            refine JR.qu (h := ?_)
            refine JR.tailD 32 rfl rfl ?_
            refine J.qu (h := ?_)
            refine J.guardN rfl rfl rfl ?_
            refine J.quiet (Y.pickF rfl rfl) rfl ?_
            refine J.done ?_
            refine J.thenN ?_
            exact J.meetI (false) (()) h (by repeat (first | exact SubF.nil | refine SubF.cons rfl ?_)) (SubM.refl _) (LentAll.refl _ _)
        · clear h
          intro a32 b33 h
          unfold law01_GraphDistancesAreAMetric_k2 at h
          refine J.cond (by exact rfl) (fun hp34 => ?_) (fun hp34 => ?_)
          · replace h := ifP hp34 h
            refine J.seq ?_
            refine J.region ?_
            refine J.quiet (Y.assign rfl) rfl ?_
            refine J.done ?_
            refine J.thenN ?_
            refine J.ret ?_
            refine J.thenR ?_
            obtain rfl := Option.some.inj h
            exact J.retG1 (()) rfl rfl (RV.tmp rfl) (SubM.nil) LentAll.nil
          · replace h := ifBN hp34 h
            refine J.skip ?_
            refine J.thenN ?_
            refine J.seq ?_
            refine J.midI (A := Bool) (B := Unit) (fun a36 => law01_GraphDistancesAreAMetric_k3  a36 = some r) (fun a36 b37 => [(8, Value.bool (a36))]) (fun a36 b37 => []) (fun a36 b37 => [Sl RI64 v0 p0.1, S2 RI64I64p v1 z2 p0.2]) ?_ ?_
            · refine JR.start [0, 1, 3, 3, 15, 31, 3, 3, 195, 451, 1023, 2047, 4095, 8191, 8191, 32767, 65535, 8191, 8191, 401407, 925695, 2097151, 4194303, 8388607] 21 mixedOrders (by decide +kernel) ?_
              refine JR.open (by exact rfl) ?_
              replace h := bnd h; obtain ⟨r38, hr39, h⟩ := h
              refine JR.loud rfl rfl rfl (Loud.callL body33 (t_law01_awake fuel  r38 hr39) rfl (LentAll.nil) (fun _ _ => rfl)) rfl (fun x40 => BsOk.z) fun x40 => ?_
              refine JR.qt rfl (SubM.nil) (SubL.nil) (Y.move rfl) (HistOk.b rfl HistOk.z) ?_
              refine JR.guard (by exact rfl) (by exact rfl) (by exact rfl) (fun hp41 => ?_) (fun hp41 => ?_)
              · replace h := ifP hp41 h
                refine JR.qtG rfl (SubM.nil) (SubL.nil) (Y.move rfl) (HistOk.b rfl HistOk.z) ?_
                refine JR.qtG rfl (SubM.nil) (SubL.nil) (Y.move rfl) (HistOk.b rfl HistOk.z) ?_
                replace h := ck_some h; obtain ⟨hc42, h⟩ := h
                refine JR.qtG rfl (SubM.cons 2 rfl (SubM.nil)) (SubL.nil) (Y.indexS rfl rfl (Lent.ar (Lent.res 0 rfl) FI64) rfl rfl hc42) (HistOk.b rfl HistOk.z) ?_
                refine JR.qtG rfl (SubM.cons 2 rfl (SubM.nil)) (SubL.nil) (Y.loadS0 rfl (Lent.ar (Lent.res 0 rfl) FI64) rfl rfl rfl RI64c0 hc42) (HistOk.b rfl HistOk.z) ?_
                refine JR.qtG rfl (SubM.nil) (SubL.nil) (Y.move rfl) (HistOk.b rfl HistOk.z) ?_
                refine JR.qtG rfl (SubM.nil) (SubL.nil) (Y.move rfl) (HistOk.b rfl HistOk.z) ?_
                replace h := ck_some h; obtain ⟨hc43, h⟩ := h
                refine JR.qtG rfl (SubM.cons 1 rfl (SubM.nil)) (SubL.nil) (Y.indexS rfl rfl (Lent.ar (Lent.res 0 rfl) FI64) rfl rfl hc43) (HistOk.b rfl HistOk.z) ?_
                refine JR.qtG rfl (SubM.cons 1 rfl (SubM.nil)) (SubL.nil) (Y.loadS0 rfl (Lent.ar (Lent.res 0 rfl) FI64) rfl rfl rfl RI64c0 hc43) (HistOk.b rfl HistOk.z) ?_
                refine JR.qtG rfl (SubM.nil) (SubL.nil) (Y.eql rfl rfl) (HistOk.b rfl HistOk.z) ?_
                refine JR.qt rfl (SubM.nil) (SubL.nil) (Y.pickT rfl rfl) (HistOk.b rfl HistOk.z) ?_
                refine JR.qt rfl (SubM.nil) (SubL.nil) (Y.move rfl) (HistOk.b rfl HistOk.z) ?_
                refine JR.guardD (by exact rfl) (by exact rfl) (by exact rfl) (fun hp44 => ?_) (fun hp44 => ?_)
                · replace h := ifP hp44 h
                  refine JR.qtG rfl (SubM.nil) (SubL.nil) (Y.move rfl) (HistOk.b rfl HistOk.z) ?_
                  refine JR.qtG rfl (SubM.nil) (SubL.nil) (Y.move rfl) (HistOk.b rfl HistOk.z) ?_
                  replace h := ck_some h; obtain ⟨hc45, h⟩ := h
                  refine JR.qtG rfl (SubM.cons 1 rfl (SubM.nil)) (SubL.nil) (Y.indexS rfl rfl (Lent.ar (Lent.res 0 rfl) FI64) rfl rfl hc45) (HistOk.b rfl HistOk.z) ?_
                  refine JR.qtG rfl (SubM.cons 1 rfl (SubM.nil)) (SubL.nil) (Y.loadS0 rfl (Lent.ar (Lent.res 0 rfl) FI64) rfl rfl rfl RI64c0 hc45) (HistOk.b rfl HistOk.z) ?_
                  refine JR.qtG rfl (SubM.nil) (SubL.nil) (Y.move rfl) (HistOk.b rfl HistOk.z) ?_
                  refine JR.qtG rfl (SubM.nil) (SubL.nil) (Y.move rfl) (HistOk.b rfl HistOk.z) ?_
                  replace h := ck_some h; obtain ⟨hc46, h⟩ := h
                  refine JR.qtG rfl (SubM.cons 0 rfl (SubM.nil)) (SubL.nil) (Y.indexS rfl rfl (Lent.ar (Lent.res 0 rfl) FI64) rfl rfl hc46) (HistOk.b rfl HistOk.z) ?_
                  refine JR.qtG rfl (SubM.cons 0 rfl (SubM.nil)) (SubL.nil) (Y.loadS0 rfl (Lent.ar (Lent.res 0 rfl) FI64) rfl rfl rfl RI64c0 hc46) (HistOk.b rfl HistOk.z) ?_
                  refine JR.tailD 21 rfl rfl ?_
                  refine J.guardY rfl (Y.eql rfl rfl) rfl ?_
                  refine J.quiet (Y.pickT rfl rfl) rfl ?_
                  refine J.quiet (Y.assign rfl) rfl ?_
                  refine J.done ?_
                  refine J.thenN ?_
                  exact J.meetI (decide ((at' r21 r15) = (at' r24 r12))) (()) h (by repeat (first | exact SubF.nil | refine SubF.cons rfl ?_)) (SubM.nil) (LentAll.refl _ _)
                · replace h := ifN hp44 h
                  refine JR.guardN rfl rfl rfl rfl ?_
                  refine JR.guardN rfl rfl rfl rfl ?_
                  refine JR.guardN rfl rfl rfl rfl ?_
                  refine JR.guardN rfl rfl rfl rfl ?_
                  refine JR.guardN rfl rfl rfl rfl ?_
                  refine JR.guardN rfl rfl rfl rfl ?_
                  refine JR.guardN rfl rfl rfl rfl ?_
                  refine JR.guardN rfl rfl rfl rfl ?_
                  refine JR.tailD 21 rfl rfl ?_
                  refine J.guardN rfl rfl rfl ?_
                  refine J.quiet (Y.pickF rfl rfl) rfl ?_
                  refine J.quiet (Y.assign rfl) rfl ?_
                  refine J.done ?_
                  refine J.thenN ?_
                  exact J.meetI (false) (()) h (by repeat (first | exact SubF.nil | refine SubF.cons rfl ?_)) (SubM.nil) (LentAll.refl _ _)
              · replace h := ifBN hp41 h
                refine JR.guardN rfl rfl rfl rfl ?_
                refine JR.guardN rfl rfl rfl rfl ?_
                refine JR.guardN rfl rfl rfl rfl ?_
                refine JR.guardN rfl rfl rfl rfl ?_
                refine JR.guardN rfl rfl rfl rfl ?_
                refine JR.guardN rfl rfl rfl rfl ?_
                refine JR.guardN rfl rfl rfl rfl ?_
                refine JR.guardN rfl rfl rfl rfl ?_
                refine JR.guardN rfl rfl rfl rfl ?_
                refine JR.qt rfl (SubM.nil) (SubL.nil) (Y.pickF rfl rfl) (HistOk.b rfl HistOk.z) ?_
                refine JR.qt rfl (SubM.nil) (SubL.nil) (Y.move rfl) (HistOk.b rfl HistOk.z) ?_
                refine JR.guardN rfl rfl rfl rfl ?_
                refine JR.guardN rfl rfl rfl rfl ?_
                refine JR.guardN rfl rfl rfl rfl ?_
                refine JR.guardN rfl rfl rfl rfl ?_
                refine JR.guardN rfl rfl rfl rfl ?_
                refine JR.guardN rfl rfl rfl rfl ?_
                refine JR.guardN rfl rfl rfl rfl ?_
                refine JR.guardN rfl rfl rfl rfl ?_
                refine JR.tailD 21 rfl rfl ?_
                refine J.guardN rfl rfl rfl ?_
                refine J.quiet (Y.pickF rfl rfl) rfl ?_
                refine J.quiet (Y.assign rfl) rfl ?_
                refine J.done ?_
                refine J.thenN ?_
                exact J.meetI (false) (()) h (by repeat (first | exact SubF.nil | refine SubF.cons rfl ?_)) (SubM.nil) (LentAll.refl _ _)
            · clear h
              intro a36 b37 h
              unfold law01_GraphDistancesAreAMetric_k3 at h
              refine J.ret ?_
              obtain rfl := Option.some.inj h
              exact J.retG1 (()) rfl rfl (RV.tmp rfl) (SubM.refl _) LentAll.nil

end Go.Proofs.Ytemhmmcakmidkaa
