/- Models of functions with their proofs, by program (gen/xt.py), and plain laws, in one text. Conditions: none. -/
import Derived.Test.YtmajgimhmfeliaaZLCo2
import Derived.Test.YtmajgimhmfeliaaZLCo1
import Derived.Test.YtmajgimhmfeliaaXp
section
set_option linter.unusedVariables false
set_option linter.unusedSimpArgs false
namespace Go.Proofs.Ytmajgimhmfeliaa
open Go.Sx
set_option linter.unusedVariables false
set_option linter.unusedSimpArgs false
def _law39_Claimed__shape_k1 (r3 : Int) (a10 : List (Int) × (List (Int × Int))) : Option (Int × List (Int) × (List (Int × Int))) :=
  some ((wI .i64 ((1 : Int) + r3)), a10.1, a10.2)
def _law39_Claimed__shape_k5 (a18 : List (Int) × (List (Int × Int)) × Int) (ag17 : (List (Int) × (List (Int × Int)) × Int) → Option (Int × List (Int) × (List (Int × Int)))) (a30 : Int) (a34 : Int × Int) : Option (Int × List (Int) × (List (Int × Int))) :=
  ck ((List.length a18.1 : Int) + (List.length ([a30]) : Int) ≤ 1099511627) (ck ((List.length a18.2.1 : Int) + (List.length ([ (a34.1, a34.2)]) : Int) ≤ 1099511627) (ag17 ((a18.1 ++ [a30]), (a18.2.1 ++ ([ (a34.1, a34.2)])), (wI .i64 (a18.2.2 + (1 : Int))))))
def _law39_Claimed__shape_k6 (fuel : Nat) (p1 : List (Int) × (List (List (Int × Int)))) (a18 : List (Int) × (List (Int × Int)) × Int) (ag17 : (List (Int) × (List (Int × Int)) × Int) → Option (Int × List (Int) × (List (Int × Int)))) (a27 : Int × Int) (a30 : Int) (a43 : Bool) : Option (Int × List (Int) × (List (Int × Int))) :=
  if a43 = true then (Option.bind (m_world_Within fuel a27.1 (List.length p1.2 : Int)) fun r46 => (ck (0 ≤ r46 ∧ r46 < (List.length p1.1 : Int)) (Option.bind (m_world_Within fuel a27.2 (wI .i64 ((List.length p1.2 : Int) + (1 : Int)))) fun r50 => (_law39_Claimed__shape_k5 a18 ag17 a30 ((at' p1.1 r46), r50))))) else (Option.bind (m_world_Within fuel a27.1 (3 : Int)) fun r53 => (Option.bind (m_world_Within fuel a27.2 (2 : Int)) fun r56 => (_law39_Claimed__shape_k5 a18 ag17 a30 (r53, r56))))
def _law39_Claimed__shape_k4 (fuel : Nat) (p1 : List (Int) × (List (List (Int × Int)))) (r3 : Int) (a18 : List (Int) × (List (Int × Int)) × Int) (ag17 : (List (Int) × (List (Int × Int)) × Int) → Option (Int × List (Int) × (List (Int × Int)))) (a27 : Int × Int) (a30 : Int) : Option (Int × List (Int) × (List (Int × Int))) :=
  if (wI .i64 ((1 : Int) + r3)) = (1 : Int) then (_law39_Claimed__shape_k6 fuel p1 a18 ag17 a27 a30 (true)) else (_law39_Claimed__shape_k6 fuel p1 a18 ag17 a27 a30 (decide ((wI .i64 ((1 : Int) + r3)) = (2 : Int))))
def _law39_Claimed__shape_k7 (fuel : Nat) (p1 : List (Int) × (List (List (Int × Int)))) (r3 : Int) (a18 : List (Int) × (List (Int × Int)) × Int) (ag17 : (List (Int) × (List (Int × Int)) × Int) → Option (Int × List (Int) × (List (Int × Int)))) (a23 : Int) (a27 : Int × Int) (a61 : Bool) : Option (Int × List (Int) × (List (Int × Int))) :=
  if a61 = true then (ck (0 ≤ a18.2.2 ∧ a18.2.2 < (List.length p1.2 : Int)) (Option.bind (m_world_Within fuel a23 (wI .i64 ((List.length (at' p1.2 a18.2.2) : Int) + (1 : Int)))) fun r65 => (_law39_Claimed__shape_k4 fuel p1 r3 a18 ag17 a27 (wI .i64 (r65 - (1 : Int)))))) else (if (wI .i64 ((1 : Int) + r3)) = (2 : Int) then (Option.bind (m_world_Within fuel a23 (2 : Int)) fun r69 => (_law39_Claimed__shape_k4 fuel p1 r3 a18 ag17 a27 (r69))) else (_law39_Claimed__shape_k4 fuel p1 r3 a18 ag17 a27 (0 : Int)))
def _law39_Claimed__shape_k3 (fuel : Nat) (p1 : List (Int) × (List (List (Int × Int)))) (r3 : Int) (a18 : List (Int) × (List (Int × Int)) × Int) (ag17 : (List (Int) × (List (Int × Int)) × Int) → Option (Int × List (Int) × (List (Int × Int)))) (a23 : Int) (a27 : Int × Int) : Option (Int × List (Int) × (List (Int × Int))) :=
  if (wI .i64 ((1 : Int) + r3)) = (1 : Int) then (_law39_Claimed__shape_k7 fuel p1 r3 a18 ag17 a23 a27 (decide ((wI .i64 ((1 : Int) + r3)) = (1 : Int)))) else (_law39_Claimed__shape_k7 fuel p1 r3 a18 ag17 a23 a27 (decide ((wI .i64 ((1 : Int) + r3)) = (4 : Int))))
def _law39_Claimed__shape_k2 (fuel : Nat) (p0 : Int × List (Int) × List (Int)) (p1 : List (Int) × (List (List (Int × Int)))) (r3 : Int) (a18 : List (Int) × (List (Int × Int)) × Int) (ag17 : (List (Int) × (List (Int × Int)) × Int) → Option (Int × List (Int) × (List (Int × Int)))) (a23 : Int) : Option (Int × List (Int) × (List (Int × Int))) :=
  if (wI .i64 ((wI .i64 ((2 : Int) * a18.2.2)) + (1 : Int))) < (List.length p0.2.2 : Int) then (ck (0 ≤ (wI .i64 ((2 : Int) * a18.2.2)) ∧ (wI .i64 ((2 : Int) * a18.2.2)) < (List.length p0.2.2 : Int)) (ck (0 ≤ (wI .i64 ((wI .i64 ((2 : Int) * a18.2.2)) + (1 : Int))) ∧ (wI .i64 ((wI .i64 ((2 : Int) * a18.2.2)) + (1 : Int))) < (List.length p0.2.2 : Int)) (_law39_Claimed__shape_k3 fuel p1 r3 a18 ag17 a23 ((at' p0.2.2 (wI .i64 ((2 : Int) * a18.2.2))), (at' p0.2.2 (wI .i64 ((wI .i64 ((2 : Int) * a18.2.2)) + (1 : Int)))))))) else (_law39_Claimed__shape_k3 fuel p1 r3 a18 ag17 a23 ((0 : Int), (0 : Int)))
def _law39_Claimed__shape_s1 (fuel : Nat) (p0 : Int × List (Int) × List (Int)) (p1 : List (Int) × (List (List (Int × Int)))) (r3 : Int) (a18 : List (Int) × (List (Int × Int)) × Int) (ag17 : (List (Int) × (List (Int × Int)) × Int) → Option (Int × List (Int) × (List (Int × Int)))) : Option (Int × List (Int) × (List (Int × Int))) :=
  if a18.2.2 < (List.length p1.2 : Int) then (if a18.2.2 < (List.length p0.2.1 : Int) then (ck (0 ≤ a18.2.2 ∧ a18.2.2 < (List.length p0.2.1 : Int)) (_law39_Claimed__shape_k2 fuel p0 p1 r3 a18 ag17 (at' p0.2.1 a18.2.2))) else (_law39_Claimed__shape_k2 fuel p0 p1 r3 a18 ag17 (0 : Int))) else (_law39_Claimed__shape_k1 r3 (a18.1, a18.2.1))
def m__law39_Claimed__shape (fuel : Nat) (p0 : Int × List (Int) × List (Int)) (p1 : List (Int) × (List (List (Int × Int)))) : Option (Int × List (Int) × (List (Int × Int))) :=
  Option.bind (m_world_Within fuel p0.1 (4 : Int)) fun r3 => (iter (_law39_Claimed__shape_s1 fuel p0 p1 r3) fuel (([] : List Int), ([] : List (Int × Int)), (0 : Int)))

theorem body11 : HasBody Try.prog 11 := Try.call11

set_option maxHeartbeats 4000000 in
set_option maxRecDepth 20000 in
theorem t__law39_Claimed__shape (fuel : Nat) {p0 : Int × List (Int) × List (Int)} {p1 : List (Int) × (List (List (Int × Int)))} (v0 : Value)  (v1 : Value)  (v2 : Value)  (v3 : Value)  (z4 : List (Value × List (Int × Int))) (r : Int × List (Int) × (List (Int × Int))) (h : m__law39_Claimed__shape fuel p0 p1 = some r) :
    Meets Try.prog 11 #[Value.agg #[Value.int .i64 (p0.1), v0, v1], Value.agg #[v2, v3]] [Sl RI64 v0 p0.2.1, Sl RI64 v1 p0.2.2, Sl RI64 v2 p1.1, S2 RI64I64p v3 z4 p1.2] (fun x : Value × Value => Value.tuple #[Value.int .i64 (r.1), x.1, x.2]) (fun x l => Ar EI64 x.1 r.2.1 :: Ar EI64I64p x.2 r.2.2 :: l) (fun _ l => l) := by
  refine Meets.of (vs := [Value.agg #[Value.int .i64 (p0.1), v0, v1], Value.agg #[v2, v3]]) Try.func11 rfl Try.ntmps11 rfl fun c => ?_
  unfold m__law39_Claimed__shape at h
  refine J.seq ?_
  refine J.region ?_
  refine J.loud (Loud.box (cs := [Value.int .i64 (p0.1), v0, v1]) rfl rfl) rfl fun b1 => ?_
  refine J.loud (Loud.box (cs := [v2, v3]) rfl rfl) rfl fun b2 => ?_
  refine J.quiet (Y.assign rfl) rfl ?_
  refine J.quiet (Y.assign rfl) rfl ?_
  refine J.quiet (Y.assign rfl) rfl ?_
  refine J.done ?_
  refine J.thenN ?_
  refine J.seq ?_
  refine JR.start [0, 1, 3, 7, 0, 16, 48, 15, 255] 8 mixedOrders (by decide +kernel) ?_
  refine JR.open (by exact rfl) ?_
  refine JR.qt rfl (SubM.nil) (SubL.nil) (Y.fieldB rfl rfl rfl rfl rfl) HistOk.z ?_
  refine JR.qt rfl (SubM.cons 1 rfl (SubM.nil)) (SubL.nil) (Y.loadB 0 rfl rfl rfl rfl rfl) HistOk.z ?_
  replace h := bnd h; obtain ⟨r3, hr4, h⟩ := h
  refine JR.loud rfl rfl rfl (Loud.callL body14 (t_world_Within fuel  r3 hr4) rfl (LentAll.nil) (fun _ _ => rfl)) rfl (fun x5 => (BsOk.b rfl (BsOk.b rfl BsOk.z))) fun x5 => ?_
  refine JR.qt rfl (SubM.nil) (SubL.nil) (Y.addW rfl rfl) (HistOk.b rfl HistOk.z) ?_
  refine JR.qt rfl (SubM.nil) (SubL.nil) (Y.fieldB rfl rfl rfl rfl rfl) (HistOk.h (SubM.nil) (SubL.nil) HistOk.z) ?_
  refine JR.qt rfl (SubM.cons 0 rfl (SubM.nil)) (SubL.nil) (Y.loadB 0 rfl rfl rfl rfl rfl) (HistOk.h (SubM.cons 0 rfl (SubM.nil)) (SubL.nil) HistOk.z) ?_
  refine JR.qt rfl (SubM.nil) (SubL.cons (List.mem_of_getElem? (i := 3) rfl) (SubL.nil)) (Y.lenN rfl (Lent.fact 0 rfl) rfl) (HistOk.h (SubM.nil) (SubL.cons (List.mem_of_getElem? (i := 3) rfl) (SubL.nil)) HistOk.z) ?_
  refine JR.qt rfl (SubM.nil) (SubL.nil) (Y.assign rfl) (HistOk.b rfl HistOk.z) ?_
  refine JR.tailD 8 rfl rfl ?_
  refine J.quiet (Y.assign rfl) rfl ?_
  refine J.done ?_
  refine J.thenN ?_
  refine J.seq ?_
  refine J.region ?_
  refine J.quiet (Y.assign rfl) rfl ?_
  refine J.done ?_
  refine J.thenN ?_
  refine J.seq ?_
  refine J.region ?_
  refine J.quiet (Y.assign rfl) rfl ?_
  refine J.done ?_
  refine J.thenN ?_
  refine J.seq ?_
  refine J.midI (A := List (Int) × (List (Int × Int))) (B := Value × Value) (fun a10 => _law39_Claimed__shape_k1 r3 a10 = some r) (fun a10 b11 => [(7, Value.int .i64 (wI .i64 ((1 : Int) + r3))), (9, b11.1), (10, b11.2)]) (fun a10 b11 => [Ar EI64 b11.1 a10.1, Ar EI64I64p b11.2 a10.2]) (fun a10 b11 => [Sl RI64 v0 p0.2.1, Sl RI64 v1 p0.2.2, Sl RI64 v2 p1.1, S2 RI64I64p v3 z4 p1.2]) ?_ ?_
  · refine J.seq ?_
    refine J.region ?_
    refine J.quiet (Y.assign rfl) rfl ?_
    refine J.done ?_
    refine J.thenN ?_
    refine J.block ?_
    refine J.stp (Stp.nilAr EI64) ?_
    refine J.stp (Stp.nilAr EI64I64p) ?_
    refine J.loopI (A := List (Int) × (List (Int × Int)) × Int) (B := Value × Value) (_law39_Claimed__shape_s1 fuel p0 p1 r3) (fun a18 b19 => [(2, Value.pointer (some ⟨b1, 0, none⟩)), (3, Value.pointer (some ⟨b2, 0, none⟩)), (7, Value.int .i64 (wI .i64 ((1 : Int) + r3))), (8, Value.int .i64 (List.length p1.2 : Int)), (9, b19.1), (10, b19.2), (11, Value.int .i64 (a18.2.2))]) (fun a18 b19 => [Blk b2 [v2, v3] 29, Blk b1 [Value.int .i64 (p0.1), v0, v1] 26, Ar EI64 b19.1 a18.1, Ar EI64I64p b19.2 a18.2.1]) (fun a18 b19 => [Sl RI64 v0 p0.2.1, Sl RI64 v1 p0.2.2, Sl RI64 v2 p1.1, S2 RI64I64p v3 z4 p1.2]) (([] : List Int), ([] : List (Int × Int)), (0 : Int)) ((Value.slice none 0 0), (Value.slice none 0 0)) h (by repeat (first | exact SubF.nil | refine SubF.cons rfl ?_)) (SubM.cons 2 rfl (SubM.cons 2 rfl (SubM.cons 1 rfl (SubM.cons 0 rfl (SubM.nil))))) (LentAll.refl _ _) ?_
    clear h
    intro k20 a18 b19 h
    unfold _law39_Claimed__shape_s1 at h
    refine J.seq ?_
    refine J.seq ?_
    refine J.region ?_
    refine J.quiet (Y.move rfl) rfl ?_
    refine J.quiet (Y.move rfl) rfl ?_
    refine J.quiet (Y.lss rfl rfl) rfl ?_
    refine J.done ?_
    refine J.thenN ?_
    refine J.condD (by exact rfl) (fun hp21 => ?_) (fun hp21 => ?_)
    · replace h := ifP hp21 h
      refine J.skip ?_
      refine J.thenN ?_
      refine J.seq ?_
      refine J.block ?_
      refine J.seq ?_
      refine J.region ?_
      refine J.quiet (Y.assign rfl) rfl ?_
      refine J.quiet (Y.assign rfl) rfl ?_
      refine J.quiet (Y.assign rfl) rfl ?_
      refine J.done ?_
      refine J.thenN ?_
      refine J.seq ?_
      refine J.midI (A := Int) (B := Unit) (fun a23 => _law39_Claimed__shape_k2 fuel p0 p1 r3 a18 (iter (_law39_Claimed__shape_s1 fuel p0 p1 r3) k20) a23 = some r) (fun a23 b24 => [(2, Value.pointer (some ⟨b1, 0, none⟩)), (3, Value.pointer (some ⟨b2, 0, none⟩)), (7, Value.int .i64 (wI .i64 ((1 : Int) + r3))), (8, Value.int .i64 (List.length p1.2 : Int)), (9, b19.1), (10, b19.2), (11, Value.int .i64 (a18.2.2)), (12, Value.int .i64 (a23)), (13, Value.int .i64 (0 : Int)), (14, Value.int .i64 (0 : Int))]) (fun a23 b24 => [Blk b2 [v2, v3] 29, Blk b1 [Value.int .i64 (p0.1), v0, v1] 26, Ar EI64 b19.1 a18.1, Ar EI64I64p b19.2 a18.2.1]) (fun a23 b24 => [Sl RI64 v0 p0.2.1, Sl RI64 v1 p0.2.2, Sl RI64 v2 p1.1, S2 RI64I64p v3 z4 p1.2]) ?_ ?_
      · refine J.seq ?_
        refine J.region ?_
        refine J.quiet (Y.move rfl) rfl ?_
        refine J.quiet (Y.fieldB rfl rfl rfl rfl rfl) rfl ?_
        refine J.quiet (Y.loadB 1 rfl rfl rfl rfl rfl) rfl ?_
        refine J.quiet (Y.lenS rfl (Lent.fact 0 rfl) rfl) rfl ?_
        refine J.quiet (Y.lss rfl rfl) rfl ?_
        refine J.done ?_
        refine J.thenN ?_
        refine J.condD (by exact rfl) (fun hp76 => ?_) (fun hp76 => ?_)
        · replace h := ifP hp76 h
          refine J.region ?_
          refine J.quiet (Y.fieldB rfl rfl rfl rfl rfl) rfl ?_
          refine J.quiet (Y.loadB 1 rfl rfl rfl rfl rfl) rfl ?_
          refine J.quiet (Y.move rfl) rfl ?_
          replace h := ck_some h; obtain ⟨hc77, h⟩ := h
          refine J.quiet (Y.indexS rfl rfl (Lent.fact 0 rfl) rfl rfl hc77) rfl ?_
          refine J.quiet (Y.loadS0 rfl (Lent.fact 0 rfl) rfl rfl rfl RI64c0 hc77) rfl ?_
          refine J.quiet (Y.assign rfl) rfl ?_
          refine J.done ?_
          refine J.thenN ?_
          exact J.meetI (at' p0.2.1 a18.2.2) (()) h (by repeat (first | exact SubF.nil | refine SubF.cons rfl ?_)) (SubM.refl _) (LentAll.refl _ _)
        · replace h := ifN hp76 h
          refine J.skip ?_
          refine J.thenN ?_
          exact J.meetI (0 : Int) (()) h (by repeat (first | exact SubF.nil | refine SubF.cons rfl ?_)) (SubM.refl _) (LentAll.refl _ _)
      · clear h
        intro a23 b24 h
        unfold _law39_Claimed__shape_k2 at h
        refine J.seq ?_
        refine J.midI (A := Int × Int) (B := Unit) (fun a27 => _law39_Claimed__shape_k3 fuel p1 r3 a18 (iter (_law39_Claimed__shape_s1 fuel p0 p1 r3) k20) a23 a27 = some r) (fun a27 b28 => [(2, Value.pointer (some ⟨b1, 0, none⟩)), (3, Value.pointer (some ⟨b2, 0, none⟩)), (7, Value.int .i64 (wI .i64 ((1 : Int) + r3))), (8, Value.int .i64 (List.length p1.2 : Int)), (9, b19.1), (10, b19.2), (11, Value.int .i64 (a18.2.2)), (12, Value.int .i64 (a23)), (13, Value.int .i64 (a27.1)), (14, Value.int .i64 (a27.2))]) (fun a27 b28 => [Blk b2 [v2, v3] 29, Blk b1 [Value.int .i64 (p0.1), v0, v1] 26, Ar EI64 b19.1 a18.1, Ar EI64I64p b19.2 a18.2.1]) (fun a27 b28 => [Sl RI64 v0 p0.2.1, Sl RI64 v1 p0.2.2, Sl RI64 v2 p1.1, S2 RI64I64p v3 z4 p1.2]) ?_ ?_
        · refine J.seq ?_
          refine J.region ?_
          refine J.quiet (Y.move rfl) rfl ?_
          refine J.quiet (Y.mulW rfl rfl) rfl ?_
          refine J.quiet (Y.addW rfl rfl) rfl ?_
          refine J.quiet (Y.fieldB rfl rfl rfl rfl rfl) rfl ?_
          refine J.quiet (Y.loadB 1 rfl rfl rfl rfl rfl) rfl ?_
          refine J.quiet (Y.lenS rfl (Lent.fact 1 rfl) rfl) rfl ?_
          refine J.quiet (Y.lss rfl rfl) rfl ?_
          refine J.done ?_
          refine J.thenN ?_
          refine J.condD (by exact rfl) (fun hp73 => ?_) (fun hp73 => ?_)
          · replace h := ifP hp73 h
            refine JR.start [0, 1, 0, 4, 15, 31, 0, 64, 0, 256, 768, 1984, 4032, 63, 16383] 14 mixedOrders (by decide +kernel) ?_
            refine JR.open (by exact rfl) ?_
            refine JR.qt rfl (SubM.nil) (SubL.nil) (Y.fieldB rfl rfl rfl rfl rfl) HistOk.z ?_
            refine JR.qt rfl (SubM.cons 1 rfl (SubM.nil)) (SubL.nil) (Y.loadB 0 rfl rfl rfl rfl rfl) HistOk.z ?_
            refine JR.qt rfl (SubM.nil) (SubL.nil) (Y.move rfl) HistOk.z ?_
            refine JR.qt rfl (SubM.nil) (SubL.nil) (Y.mulW rfl rfl) HistOk.z ?_
            replace h := ck_some h; obtain ⟨hc74, h⟩ := h
            refine JR.qt rfl (SubM.nil) (SubL.cons (List.mem_of_getElem? (i := 1) rfl) (SubL.nil)) (Y.indexS rfl rfl (Lent.fact 0 rfl) rfl rfl hc74) HistOk.z ?_
            refine JR.qt rfl (SubM.nil) (SubL.cons (List.mem_of_getElem? (i := 1) rfl) (SubL.nil)) (Y.loadS0 rfl (Lent.fact 0 rfl) rfl rfl rfl RI64c0 hc74) HistOk.z ?_
            refine JR.qt rfl (SubM.nil) (SubL.nil) (Y.fieldB rfl rfl rfl rfl rfl) HistOk.z ?_
            refine JR.qt rfl (SubM.cons 1 rfl (SubM.nil)) (SubL.nil) (Y.loadB 0 rfl rfl rfl rfl rfl) HistOk.z ?_
            refine JR.qt rfl (SubM.nil) (SubL.nil) (Y.move rfl) HistOk.z ?_
            refine JR.qt rfl (SubM.nil) (SubL.nil) (Y.mulW rfl rfl) HistOk.z ?_
            refine JR.qt rfl (SubM.nil) (SubL.nil) (Y.addW rfl rfl) HistOk.z ?_
            replace h := ck_some h; obtain ⟨hc75, h⟩ := h
            refine JR.qt rfl (SubM.nil) (SubL.cons (List.mem_of_getElem? (i := 1) rfl) (SubL.nil)) (Y.indexS rfl rfl (Lent.fact 0 rfl) rfl rfl hc75) HistOk.z ?_
            refine JR.qt rfl (SubM.nil) (SubL.cons (List.mem_of_getElem? (i := 1) rfl) (SubL.nil)) (Y.loadS0 rfl (Lent.fact 0 rfl) rfl rfl rfl RI64c0 hc75) HistOk.z ?_
            refine JR.qt rfl (SubM.nil) (SubL.nil) (Y.assign rfl) HistOk.z ?_
            refine JR.tailD 14 rfl rfl ?_
            refine J.quiet (Y.assign rfl) rfl ?_
            refine J.done ?_
            refine J.thenN ?_
            exact J.meetI ((at' p0.2.2 (wI .i64 ((2 : Int) * a18.2.2))), (at' p0.2.2 (wI .i64 ((wI .i64 ((2 : Int) * a18.2.2)) + (1 : Int))))) (()) h (by repeat (first | exact SubF.nil | refine SubF.cons rfl ?_)) (SubM.refl _) (LentAll.refl _ _)
          · replace h := ifN hp73 h
            refine J.skip ?_
            refine J.thenN ?_
            exact J.meetI ((0 : Int), (0 : Int)) (()) h (by repeat (first | exact SubF.nil | refine SubF.cons rfl ?_)) (SubM.refl _) (LentAll.refl _ _)
        · clear h
          intro a27 b28 h
          unfold _law39_Claimed__shape_k3 at h
          refine J.seq ?_
          refine J.midI (A := Int) (B := Unit) (fun a30 => _law39_Claimed__shape_k4 fuel p1 r3 a18 (iter (_law39_Claimed__shape_s1 fuel p0 p1 r3) k20) a27 a30 = some r) (fun a30 b31 => [(2, Value.pointer (some ⟨b1, 0, none⟩)), (3, Value.pointer (some ⟨b2, 0, none⟩)), (7, Value.int .i64 (wI .i64 ((1 : Int) + r3))), (8, Value.int .i64 (List.length p1.2 : Int)), (9, b19.1), (10, b19.2), (11, Value.int .i64 (a18.2.2)), (12, Value.int .i64 (a30)), (13, Value.int .i64 (a27.1)), (14, Value.int .i64 (a27.2))]) (fun a30 b31 => [Blk b2 [v2, v3] 29, Blk b1 [Value.int .i64 (p0.1), v0, v1] 26, Ar EI64 b19.1 a18.1, Ar EI64I64p b19.2 a18.2.1]) (fun a30 b31 => [Sl RI64 v0 p0.2.1, Sl RI64 v1 p0.2.2, Sl RI64 v2 p1.1, S2 RI64I64p v3 z4 p1.2]) ?_ ?_
          · refine J.seq ?_
            refine J.region ?_
            refine J.quiet (Y.move rfl) rfl ?_
            refine J.done ?_
            refine J.thenN ?_
            refine J.block ?_
            refine J.seq ?_
            refine J.midI (A := Bool) (B := Unit) (fun a61 => _law39_Claimed__shape_k7 fuel p1 r3 a18 (iter (_law39_Claimed__shape_s1 fuel p0 p1 r3) k20) a23 a27 a61 = some r) (fun a61 b62 => [(2, Value.pointer (some ⟨b1, 0, none⟩)), (3, Value.pointer (some ⟨b2, 0, none⟩)), (7, Value.int .i64 (wI .i64 ((1 : Int) + r3))), (8, Value.int .i64 (List.length p1.2 : Int)), (9, b19.1), (10, b19.2), (11, Value.int .i64 (a18.2.2)), (12, Value.int .i64 (a23)), (13, Value.int .i64 (a27.1)), (14, Value.int .i64 (a27.2)), (57, Value.int .i64 (wI .i64 ((1 : Int) + r3))), (58, Value.bool (a61))]) (fun a61 b62 => [Blk b2 [v2, v3] 29, Blk b1 [Value.int .i64 (p0.1), v0, v1] 26, Ar EI64 b19.1 a18.1, Ar EI64I64p b19.2 a18.2.1]) (fun a61 b62 => [Sl RI64 v0 p0.2.1, Sl RI64 v1 p0.2.2, Sl RI64 v2 p1.1, S2 RI64I64p v3 z4 p1.2]) ?_ ?_
            · refine J.seq ?_
              refine J.region ?_
              refine J.quiet (Y.eql rfl rfl) rfl ?_
              refine J.quiet (Y.assign rfl) rfl ?_
              refine J.done ?_
              refine J.thenN ?_
              refine J.condD (by exact rfl) (fun hp72 => ?_) (fun hp72 => ?_)
              · replace h := ifP hp72 h
                refine J.skip ?_
                refine J.thenN ?_
                exact J.meetI (decide ((wI .i64 ((1 : Int) + r3)) = (1 : Int))) (()) h (by repeat (first | exact SubF.nil | refine SubF.cons rfl ?_)) (SubM.refl _) (LentAll.refl _ _)
              · replace h := ifN hp72 h
                refine J.region ?_
                refine J.quiet (Y.eql rfl rfl) rfl ?_
                refine J.quiet (Y.assign rfl) rfl ?_
                refine J.done ?_
                refine J.thenN ?_
                exact J.meetI (decide ((wI .i64 ((1 : Int) + r3)) = (4 : Int))) (()) h (by repeat (first | exact SubF.nil | refine SubF.cons rfl ?_)) (SubM.refl _) (LentAll.refl _ _)
            · clear h
              intro a61 b62 h
              unfold _law39_Claimed__shape_k7 at h
              refine J.cond (by exact rfl) (fun hp63 => ?_) (fun hp63 => ?_)
              · replace h := ifP hp63 h
                refine J.region ?_
                refine J.quiet (Y.move rfl) rfl ?_
                refine J.quiet (Y.fieldB rfl rfl rfl rfl rfl) rfl ?_
                refine J.quiet (Y.loadB 0 rfl rfl rfl rfl rfl) rfl ?_
                refine J.quiet (Y.move rfl) rfl ?_
                replace h := ck_some h; obtain ⟨hc64, h⟩ := h
                refine J.quiet (Y.indexN rfl rfl (Lent.fact 3 rfl) rfl rfl hc64) rfl ?_
                refine J.quiet (Y.loadRow rfl (Lent.fact 3 rfl) rfl rfl hc64) rfl ?_
                refine J.quiet (Y.lenS rfl (Lent.el (Lent.fact 3 rfl) hc64.1 hc64.2) rfl) rfl ?_
                refine J.quiet (Y.addW rfl rfl) rfl ?_
                replace h := bnd h; obtain ⟨r65, hr66, h⟩ := h
                refine J.loud (Loud.callL body14 (t_world_Within fuel  r65 hr66) rfl (LentAll.nil) (fun _ _ => rfl)) rfl fun x67 => ?_
                refine J.quiet (Y.subW rfl rfl) rfl ?_
                refine J.quiet (Y.assign rfl) rfl ?_
                refine J.done ?_
                refine J.inN ?_
                refine J.thenN ?_
                exact J.meetI (wI .i64 (r65 - (1 : Int))) (()) h (by repeat (first | exact SubF.nil | refine SubF.cons rfl ?_)) (SubM.refl _) (LentAll.refl _ _)
              · replace h := ifBN hp63 h
                refine J.seq ?_
                refine J.region ?_
                refine J.quiet (Y.eql rfl rfl) rfl ?_
                refine J.quiet (Y.assign rfl) rfl ?_
                refine J.done ?_
                refine J.thenN ?_
                refine J.condD (by exact rfl) (fun hp68 => ?_) (fun hp68 => ?_)
                · replace h := ifP hp68 h
                  refine J.region ?_
                  refine J.quiet (Y.move rfl) rfl ?_
                  replace h := bnd h; obtain ⟨r69, hr70, h⟩ := h
                  refine J.loud (Loud.callL body14 (t_world_Within fuel  r69 hr70) rfl (LentAll.nil) (fun _ _ => rfl)) rfl fun x71 => ?_
                  refine J.quiet (Y.assign rfl) rfl ?_
                  refine J.done ?_
                  refine J.inN ?_
                  refine J.thenN ?_
                  exact J.meetI (r69) (()) h (by repeat (first | exact SubF.nil | refine SubF.cons rfl ?_)) (SubM.refl _) (LentAll.refl _ _)
                · replace h := ifN hp68 h
                  refine J.region ?_
                  refine J.quiet (Y.assign rfl) rfl ?_
                  refine J.done ?_
                  refine J.inN ?_
                  refine J.thenN ?_
                  exact J.meetI (0 : Int) (()) h (by repeat (first | exact SubF.nil | refine SubF.cons rfl ?_)) (SubM.refl _) (LentAll.refl _ _)
          · clear h
            intro a30 b31 h
            unfold _law39_Claimed__shape_k4 at h
            refine J.seq ?_
            refine J.midI (A := Int × Int) (B := Unit) (fun a34 => _law39_Claimed__shape_k5 a18 (iter (_law39_Claimed__shape_s1 fuel p0 p1 r3) k20) a30 a34 = some r) (fun a34 b35 => [(2, Value.pointer (some ⟨b1, 0, none⟩)), (3, Value.pointer (some ⟨b2, 0, none⟩)), (7, Value.int .i64 (wI .i64 ((1 : Int) + r3))), (8, Value.int .i64 (List.length p1.2 : Int)), (9, b19.1), (10, b19.2), (11, Value.int .i64 (a18.2.2)), (12, Value.int .i64 (a30)), (13, Value.int .i64 (a34.1)), (14, Value.int .i64 (a34.2))]) (fun a34 b35 => [Blk b2 [v2, v3] 29, Blk b1 [Value.int .i64 (p0.1), v0, v1] 26, Ar EI64 b19.1 a18.1, Ar EI64I64p b19.2 a18.2.1]) (fun a34 b35 => [Sl RI64 v0 p0.2.1, Sl RI64 v1 p0.2.2, Sl RI64 v2 p1.1, S2 RI64I64p v3 z4 p1.2]) ?_ ?_
            · refine J.seq ?_
              refine J.midI (A := Bool) (B := Unit) (fun a43 => _law39_Claimed__shape_k6 fuel p1 a18 (iter (_law39_Claimed__shape_s1 fuel p0 p1 r3) k20) a27 a30 a43 = some r) (fun a43 b44 => [(2, Value.pointer (some ⟨b1, 0, none⟩)), (3, Value.pointer (some ⟨b2, 0, none⟩)), (7, Value.int .i64 (wI .i64 ((1 : Int) + r3))), (8, Value.int .i64 (List.length p1.2 : Int)), (9, b19.1), (10, b19.2), (11, Value.int .i64 (a18.2.2)), (12, Value.int .i64 (a30)), (13, Value.int .i64 (a27.1)), (14, Value.int .i64 (a27.2)), (80, Value.bool (a43))]) (fun a43 b44 => [Blk b2 [v2, v3] 29, Blk b1 [Value.int .i64 (p0.1), v0, v1] 26, Ar EI64 b19.1 a18.1, Ar EI64I64p b19.2 a18.2.1]) (fun a43 b44 => [Sl RI64 v0 p0.2.1, Sl RI64 v1 p0.2.2, Sl RI64 v2 p1.1, S2 RI64I64p v3 z4 p1.2]) ?_ ?_
              · refine J.region ?_
                refine J.quiet (Y.move rfl) rfl ?_
                refine J.quiet (Y.eql rfl rfl) rfl ?_
                refine J.quiet (Y.move rfl) rfl ?_
                refine J.guardD (by exact rfl) (by exact rfl) (fun hp59 => ?_) (fun hp59 => ?_)
                · replace h := ifP hp59 h
                  refine J.guardN rfl rfl rfl ?_
                  refine J.guardN rfl rfl rfl ?_
                  refine J.quiet (Y.pickT rfl rfl) rfl ?_
                  refine J.done ?_
                  refine J.thenN ?_
                  exact J.meetI (true) (()) h (by repeat (first | exact SubF.nil | refine SubF.cons rfl ?_)) (SubM.refl _) (LentAll.refl _ _)
                · replace h := ifN hp59 h
                  refine J.guardY rfl (Y.move rfl) rfl ?_
                  refine J.guardY rfl (Y.eql rfl rfl) rfl ?_
                  refine J.quiet (Y.pickF rfl rfl) rfl ?_
                  refine J.done ?_
                  refine J.thenN ?_
                  exact J.meetI (decide ((wI .i64 ((1 : Int) + r3)) = (2 : Int))) (()) h (by repeat (first | exact SubF.nil | refine SubF.cons rfl ?_)) (SubM.refl _) (LentAll.refl _ _)
              · clear h
                intro a43 b44 h
                unfold _law39_Claimed__shape_k6 at h
                refine J.cond (by exact rfl) (fun hp45 => ?_) (fun hp45 => ?_)
                · replace h := ifP hp45 h
                  refine JR.start [0, 1, 0, 0, 12, 31, 63, 0, 0, 256, 924, 2047, 4095] 11 mixedOrders (by decide +kernel) ?_
                  refine JR.open (by exact rfl) ?_
                  refine JR.qt rfl (SubM.nil) (SubL.nil) (Y.fieldB rfl rfl rfl rfl rfl) HistOk.z ?_
                  refine JR.qt rfl (SubM.cons 0 rfl (SubM.nil)) (SubL.nil) (Y.loadB 0 rfl rfl rfl rfl rfl) HistOk.z ?_
                  refine JR.qt rfl (SubM.nil) (SubL.nil) (Y.move rfl) HistOk.z ?_
                  refine JR.qt rfl (SubM.nil) (SubL.nil) (Y.move rfl) HistOk.z ?_
                  replace h := bnd h; obtain ⟨r46, hr47, h⟩ := h
                  refine JR.loud rfl rfl rfl (Loud.callL body14 (t_world_Within fuel  r46 hr47) rfl (LentAll.nil) (fun _ _ => rfl)) rfl (fun x48 => (BsOk.b rfl (BsOk.b rfl (BsOk.h (SubM.cons 0 rfl (SubM.nil)) (SubL.nil) (BsOk.h (SubM.nil) (SubL.nil) BsOk.z))))) fun x48 => ?_
                  replace h := ck_some h; obtain ⟨hc49, h⟩ := h
                  refine JR.qt rfl (SubM.nil) (SubL.cons (List.mem_of_getElem? (i := 2) rfl) (SubL.nil)) (Y.indexS rfl rfl (Lent.fact 0 rfl) rfl rfl hc49) (HistOk.b rfl HistOk.z) ?_
                  refine JR.qt rfl (SubM.nil) (SubL.cons (List.mem_of_getElem? (i := 2) rfl) (SubL.nil)) (Y.loadS0 rfl (Lent.fact 0 rfl) rfl rfl rfl RI64c0 hc49) (HistOk.b rfl HistOk.z) ?_
                  refine JR.qt rfl (SubM.nil) (SubL.nil) (Y.move rfl) (HistOk.h (SubM.nil) (SubL.nil) HistOk.z) ?_
                  refine JR.qt rfl (SubM.nil) (SubL.nil) (Y.move rfl) (HistOk.h (SubM.nil) (SubL.nil) HistOk.z) ?_
                  refine JR.qt rfl (SubM.nil) (SubL.nil) (Y.addW rfl rfl) (HistOk.h (SubM.nil) (SubL.nil) HistOk.z) ?_
                  replace h := bnd h; obtain ⟨r50, hr51, h⟩ := h
                  refine JR.loud rfl rfl rfl (Loud.callL body14 (t_world_Within fuel  r50 hr51) rfl (LentAll.nil) (fun _ _ => rfl)) rfl (fun x52 => (BsOk.b rfl (BsOk.b rfl (BsOk.b rfl (BsOk.h (SubM.nil) (SubL.cons (List.mem_of_getElem? (i := 2) rfl) (SubL.nil)) (BsOk.h (SubM.nil) (SubL.cons (List.mem_of_getElem? (i := 2) rfl) (SubL.nil)) (BsOk.b rfl (BsOk.b rfl (BsOk.h (SubM.cons 0 rfl (SubM.nil)) (SubL.nil) (BsOk.h (SubM.nil) (SubL.nil) BsOk.z)))))))))) fun x52 => ?_
                  refine JR.tailD 11 rfl rfl ?_
                  refine J.quiet (Y.assign rfl) rfl ?_
                  refine J.quiet (Y.assign rfl) rfl ?_
                  refine J.done ?_
                  refine J.thenN ?_
                  exact J.meetI ((at' p1.1 r46), r50) (()) h (by repeat (first | exact SubF.nil | refine SubF.cons rfl ?_)) (SubM.refl _) (LentAll.refl _ _)
                · replace h := ifBN hp45 h
                  refine J.region ?_
                  refine J.quiet (Y.move rfl) rfl ?_
                  replace h := bnd h; obtain ⟨r53, hr54, h⟩ := h
                  refine J.loud (Loud.callL body14 (t_world_Within fuel  r53 hr54) rfl (LentAll.nil) (fun _ _ => rfl)) rfl fun x55 => ?_
                  refine J.quiet (Y.move rfl) rfl ?_
                  replace h := bnd h; obtain ⟨r56, hr57, h⟩ := h
                  refine J.loud (Loud.callL body14 (t_world_Within fuel  r56 hr57) rfl (LentAll.nil) (fun _ _ => rfl)) rfl fun x58 => ?_
                  refine J.quiet (Y.assign rfl) rfl ?_
                  refine J.quiet (Y.assign rfl) rfl ?_
                  refine J.done ?_
                  refine J.thenN ?_
                  exact J.meetI (r53, r56) (()) h (by repeat (first | exact SubF.nil | refine SubF.cons rfl ?_)) (SubM.refl _) (LentAll.refl _ _)
            · clear h
              intro a34 b35 h
              unfold _law39_Claimed__shape_k5 at h
              refine J.region ?_
              refine J.quiet (Y.move rfl) rfl ?_
              refine J.quiet (Y.move rfl) rfl ?_
              refine J.loud (Loud.buildS (e := EI64) ([a30]) [(0, Value.int .i64 (a30))] rfl rfl rfl rfl (fill_1_1 (Value.int .i64 (a30)) rfl) rfl rfl rfl) rfl fun u36 => ?_
              replace h := ck_some h; obtain ⟨hc38, h⟩ := h
              refine J.loud (Loud.appendL 3 FI64 rfl rfl rfl (Lent.ar (Lent.res 0 rfl) FI64) rfl rfl rfl rfl hc38 rfl) rfl fun u37 => ?_
              refine J.quiet (Y.move rfl) rfl ?_
              refine J.quiet (Y.move rfl) rfl ?_
              refine J.quiet (Y.move rfl) rfl ?_
              refine J.quiet (Y.bld2 (r := Value.agg #[Value.int .i64 (a34.1), Value.int .i64 (a34.2)]) rfl rfl (by intro w; simp [Instr.build, Instr.fill, cells_intV, cells_boolV, cells_sliceV, cells_ptrV, cells_strV, cells_funcV, cells_agg])) rfl ?_
              refine J.loud (Loud.buildS (e := EI64I64p) ([((a34.1, a34.2))]) [(0, Value.agg #[Value.int .i64 (a34.1), Value.int .i64 (a34.2)])] rfl rfl rfl rfl (fill_1_2 (Value.int .i64 (a34.1)) (Value.int .i64 (a34.2))) rfl rfl rfl) rfl fun u39 => ?_
              replace h := ck_some h; obtain ⟨hc41, h⟩ := h
              refine J.loud (Loud.appendL 5 FI64I64p rfl rfl rfl (Lent.ar (Lent.res 0 rfl) FI64I64p) rfl rfl rfl rfl hc41 rfl) rfl fun u40 => ?_
              refine J.quiet (Y.assign rfl) rfl ?_
              refine J.quiet (Y.assign rfl) rfl ?_
              refine J.done ?_
              refine J.inN ?_
              refine J.thenN ?_
              refine J.region ?_
              refine J.quiet (Y.move rfl) rfl ?_
              refine J.quiet (Y.addW rfl rfl) rfl ?_
              refine J.quiet (Y.assign rfl) rfl ?_
              refine J.done ?_
              refine J.thenN ?_
              exact J.againI ((a18.1 ++ [a30]), (a18.2.1 ++ ([ (a34.1, a34.2)])), (wI .i64 (a18.2.2 + (1 : Int)))) (u37, u40) h (by repeat (first | exact SubF.nil | refine SubF.cons rfl ?_)) (SubM.cons 2 rfl (SubM.cons 2 rfl (SubM.cons 2 rfl (SubM.cons 2 rfl (SubM.nil))))) (LentAll.refl _ _)
    · replace h := ifN hp21 h
      refine J.exit ?_
      refine J.thenX ?_
      refine J.thenX ?_
      refine J.inX ?_
      refine J.thenN ?_
      exact J.meetI (a18.1, a18.2.1) (b19.1, b19.2) h (by repeat (first | exact SubF.nil | refine SubF.cons rfl ?_)) (SubM.cons 2 rfl (SubM.cons 2 rfl (SubM.nil))) (LentAll.refl _ _)
  · clear h
    intro a10 b11 h
    unfold _law39_Claimed__shape_k1 at h
    refine J.seq ?_
    refine J.region ?_
    refine J.quiet (Y.move rfl) rfl ?_
    refine J.quiet (Y.move rfl) rfl ?_
    refine J.quiet (Y.move rfl) rfl ?_
    refine J.quiet (Y.assign rfl) rfl ?_
    refine J.quiet (Y.assign rfl) rfl ?_
    refine J.quiet (Y.assign rfl) rfl ?_
    refine J.done ?_
    refine J.thenN ?_
    refine J.ret ?_
    obtain rfl := Option.some.inj h
    exact J.retG3 (b11.1, b11.2) rfl rfl (RV.tmp rfl) (RV.tmp rfl) (RV.tmp rfl) (SubM.refl _) LentAll.nil

end Go.Proofs.Ytmajgimhmfeliaa
end
section
set_option linter.unusedVariables false
set_option linter.unusedSimpArgs false
namespace Go.Proofs.Ytmajgimhmfeliaa
open Go.Sx
/-- what shape answers -/
structure Shaped (g : GR) (y0 : Int) (r : Int × List Int × List (Int × Int)) : Prop where
  kindEq : r.1 = 1 + y0 % 4
  kind : 1 ≤ r.1 ∧ r.1 ≤ 4
  st : r.2.1.length = g.2.length
  lb : r.2.2.length = g.2.length
  fit : ∀ v : Nat, v < g.2.length → FitAt r.1 g v (at' r.2.1 (v : Int))

theorem shape_ok (y : Int × List (Int) × List (Int)) {g : GR} (h : VM g.1 g.2) : OK (Shaped g y.1) (m__law39_Claimed__shape 1000 y g) := by
  have h24 := h.n24
  have h1 := h.n1
  have hlen := h.len
  have hV := h.vg
  unfold m__law39_Claimed__shape
  rw [bindS (within_eq _ _ (by decide) (by decide))]
  generalize hr : y.1 % 4 = r
  have r0 : 0 ≤ r := by rw [← hr]; exact Int.emod_nonneg _ (by decide)
  have r1 : r < 4 := by rw [← hr]; exact Int.emod_lt_of_pos _ (by decide)
  have ew : wI .i64 (1 + r) = 1 + r := wr (by omega) (by omega)
  refine iter_ok (fun s : List Int × List (Int × Int) × Int => ∃ k : Nat, s.2.2 = k ∧ k ≤ g.2.length ∧ s.1.length = k ∧ s.2.1.length = k ∧ ∀ v : Nat, v < k → FitAt (1 + r) g v (at' s.1 (v : Int))) (fun s => g.2.length - s.2.2.toNat) ?_ 1000 _ ⟨0, rfl, by omega, rfl, rfl, fun v hv => by omega⟩ (by dsimp only; omega)
  rintro ⟨st, l, i⟩ ag ⟨k, hk, hk2, hs, hl, hf⟩ hrec
  dsimp only at hk hs hl hf
  subst hk
  -- the last step: the lists grow
  have last : ∀ (s : Int) (p : Int × Int), FitAt (1 + r) g k s → k < g.2.length → OK (Shaped g y.1) (_law39_Claimed__shape_k5 (st, l, (k : Int)) ag s p) := by
    intro s p hs' hkn
    unfold _law39_Claimed__shape_k5
    dsimp only
    rw [ckT (by simp; omega), ckT (by simp; omega), wr (by omega) (by omega)]
    refine hrec _ ⟨k + 1, by dsimp only; omega, by omega, by simp [hs], by simp [hl], fun v hv => ?_⟩ (by dsimp only; omega)
    by_cases hvk : v = k
    · subst hvk
      dsimp only
      rw [at_append st [] s v hs]; exact hs'
    · dsimp only
      have : at' (st ++ [s]) (v : Int) = at' st (v : Int) := by
        rw [at'_nat, at'_nat, List.getD_eq_getElem?_getD, List.getD_eq_getElem?_getD, List.getElem?_append_left (by omega)]
      rw [this]; exact hf v (by omega)
  have k6 : ∀ (ab : Int × Int) (s : Int) (b : Bool), FitAt (1 + r) g k s → k < g.2.length → OK (Shaped g y.1) (_law39_Claimed__shape_k6 1000 g (st, l, (k : Int)) ag ab s b) := by
    intro ab s b hs' hkn
    unfold _law39_Claimed__shape_k6
    cases b with
    | true =>
      rw [if_pos rfl, bindS (within_eq _ _ (by omega) (by omega))]
      have a0 := Int.emod_nonneg ab.1 (show (g.2.length : Int) ≠ 0 by omega)
      have a1 := Int.emod_lt_of_pos ab.1 (show (0 : Int) < (g.2.length : Int) by omega)
      rw [ckT (by omega), wr (by omega) (by omega), bindS (within_eq _ _ (by omega) (by omega))]
      exact last _ _ hs' hkn
    | false =>
      rw [if_neg (by simp), bindS (within_eq _ _ (by decide) (by decide)), bindS (within_eq _ _ (by decide) (by decide))]
      exact last _ _ hs' hkn
  have k4 : ∀ (ab : Int × Int) (s : Int), FitAt (1 + r) g k s → k < g.2.length → OK (Shaped g y.1) (_law39_Claimed__shape_k4 1000 g r (st, l, (k : Int)) ag ab s) := by
    intro ab s hs' hkn
    unfold _law39_Claimed__shape_k4
    rw [ew]
    by_cases h1 : 1 + r = 1
    · rw [if_pos h1]; exact k6 _ _ _ hs' hkn
    · rw [if_neg h1]; exact k6 _ _ _ hs' hkn
  have k7 : ∀ (x : Int) (ab : Int × Int) (b : Bool), (b = true ↔ 1 + r = 1 ∨ 1 + r = 4) → k < g.2.length → OK (Shaped g y.1) (_law39_Claimed__shape_k7 1000 g r (st, l, (k : Int)) ag x ab b) := by
    intro x ab b hb hkn
    unfold _law39_Claimed__shape_k7
    cases b with
    | true =>
      have hd : (row g k).length < g.2.length := (hV.node k hkn).deg
      dsimp only
      have e : (at' g.2 (k : Int)).length = (row g k).length := rfl
      rw [if_pos rfl, ckT (by omega), wr (by omega) (by omega), bindS (within_eq _ _ (by omega) (by omega))]
      have a0 := Int.emod_nonneg x (show ((at' g.2 (k : Int)).length : Int) + 1 ≠ 0 by omega)
      have a1 := Int.emod_lt_of_pos x (show (0 : Int) < ((at' g.2 (k : Int)).length : Int) + 1 by omega)
      rw [wr (by omega) (by omega)]
      refine k4 _ _ ?_ hkn
      unfold FitAt
      rw [if_pos (hb.1 rfl)]
      omega
    | false =>
      have hb' : ¬ (1 + r = 1 ∨ 1 + r = 4) := fun hc => by have := hb.2 hc; cases this
      rw [if_neg (by simp), ew]
      by_cases h2 : 1 + r = 2
      · rw [if_pos h2, bindS (within_eq _ _ (by decide) (by decide))]
        refine k4 _ _ ?_ hkn
        unfold FitAt
        rw [if_neg hb', if_pos h2]
        omega
      · rw [if_neg h2]
        refine k4 _ _ ?_ hkn
        unfold FitAt
        rw [if_neg hb', if_neg h2]
  have k3 : ∀ (x : Int) (ab : Int × Int), k < g.2.length → OK (Shaped g y.1) (_law39_Claimed__shape_k3 1000 g r (st, l, (k : Int)) ag x ab) := by
    intro x ab hkn
    unfold _law39_Claimed__shape_k3
    rw [ew]
    by_cases h1 : 1 + r = 1
    · rw [if_pos h1]; exact k7 _ _ _ (by rw [decide_eq_true_eq]; exact ⟨.inl, fun _ => h1⟩) hkn
    · rw [if_neg h1]; exact k7 _ _ _ (by rw [decide_eq_true_eq]; exact ⟨.inr, fun h => h.resolve_left h1⟩) hkn
  have k2 : ∀ (x : Int), k < g.2.length → OK (Shaped g y.1) (_law39_Claimed__shape_k2 1000 y g r (st, l, (k : Int)) ag x) := by
    intro x hkn
    unfold _law39_Claimed__shape_k2
    dsimp only
    rw [wr (x := 2 * (k : Int)) (by omega) (by omega), wr (by omega) (by omega)]
    by_cases hc : 2 * (k : Int) + 1 < (y.2.2.length : Int)
    · rw [if_pos hc, ckT (by omega), ckT (by omega)]; exact k3 _ _ hkn
    · rw [if_neg hc]; exact k3 _ _ hkn
  unfold _law39_Claimed__shape_s1
  dsimp only
  by_cases hkn : (k : Int) < (g.2.length : Int)
  · rw [if_pos hkn]
    by_cases hc : (k : Int) < (y.2.1.length : Int)
    · rw [if_pos hc, ckT (by omega)]; exact k2 _ (by omega)
    · rw [if_neg hc]; exact k2 _ (by omega)
  · rw [if_neg hkn]
    unfold _law39_Claimed__shape_k1
    rw [ew]
    have hkk : k = g.2.length := by omega
    exact ⟨_, rfl, by dsimp only; omega, by dsimp only; omega, by dsimp only; omega, by dsimp only; omega, fun v hv => hf v (by omega)⟩

end Go.Proofs.Ytmajgimhmfeliaa
end
section
set_option linter.unusedVariables false
set_option linter.unusedSimpArgs false
namespace Go.Proofs.Ytmajgimhmfeliaa
open Go.Sx
/-! ## values of nodes -/
section
variable {g : GR} {ps vals vals' : List Int} {v : Nat} {S : Nat → Prop}
/-- nothing about a node is left to do -/
structure Clo (g : GR) (ps vals : List Int) (v : Nat) : Prop where
  two : at' vals (v : Int) = 0 ∨ at' vals (v : Int) = 1
  no : at' ps (v : Int) < 0 → at' vals (v : Int) = 0
  pt : 0 ≤ at' ps (v : Int) → at' vals (at' ps (v : Int)) = 1 - at' vals (v : Int)
  nb : at' vals (v : Int) = 0 → ∀ x ∈ at' g.2 (v : Int), at' vals x.1 = 1

structure Prt (g : GR) (ps : List Int) : Prop where
  len : ps.length = g.2.length
  rng : ∀ v : Nat, v < g.2.length → at' ps (v : Int) ≤ (g.2.length : Int) - 1

structure Inv (g : GR) (ps : List Int) (S : Nat → Prop) (vals : List Int) : Prop where
  len : vals.length = g.2.length
  val : ∀ v : Nat, v < g.2.length → at' vals (v : Int) = -1 ∨ at' vals (v : Int) = 0 ∨ at' vals (v : Int) = 1
  clo : ∀ v : Nat, v < g.2.length → ¬ S v → at' vals (v : Int) ≠ -1 → Clo g ps vals v

def Ext2 (g : GR) (vals vals' : List Int) : Prop := ∀ v : Nat, v < g.2.length → at' vals (v : Int) ≠ -1 → at' vals' (v : Int) = at' vals (v : Int)

theorem Ext2.refl : Ext2 g vals vals := fun _ _ _ => rfl
theorem Ext2.trans {v3 : List Int} (h1 : Ext2 g vals vals') (h2 : Ext2 g vals' v3) : Ext2 g vals v3 := fun v hv hne => by
  rw [h2 v hv (by rw [h1 v hv hne]; exact hne), h1 v hv hne]

theorem Clo.ext (hV : VM g.1 g.2) (hp : Prt g ps) (hv : v < g.2.length) (h : Clo g ps vals v) (he : Ext2 g vals vals') : Clo g ps vals' v := by
  have h2 := h.two
  have e : at' vals' (v : Int) = at' vals (v : Int) := he v hv (by omega)
  refine ⟨by rw [e]; exact h2, fun hc => by rw [e]; exact h.no hc, fun hc => ?_, fun hc x hx => ?_⟩
  · obtain ⟨u, hu⟩ : ∃ u : Nat, at' ps (v : Int) = u := ⟨(at' ps (v : Int)).toNat, by omega⟩
    have := h.pt hc
    have hr := hp.rng v hv
    rw [hu] at this hr ⊢
    rw [e, he u (by omega) (by omega)]; exact this
  · rw [e] at hc
    have h1 := h.nb hc x hx
    have hr := (hV.lk v hv x hx).1
    obtain ⟨u, hu⟩ : ∃ u : Nat, x.1 = u := ⟨x.1.toNat, by omega⟩
    rw [hu] at h1 hr ⊢
    rw [he u (by omega) (by omega)]; exact h1

theorem at_set1 (l : List Int) (i : Nat) (x : Int) (hi : i < l.length) (v : Nat) : at' (l.set i x) (v : Int) = if v = i then x else at' l (v : Int) := by
  rw [at'_nat, at'_nat, List.getD_eq_getElem?_getD, List.getD_eq_getElem?_getD, List.getElem?_set]
  by_cases h : v = i
  · subst h; rw [if_pos rfl, if_pos rfl, if_pos hi]; rfl
  · rw [if_neg (fun hc => h hc.symm), if_neg h]

/-- the number of nodes of which nothing is known -/
def un (vals : List Int) : Nat := vals.count (-1)

theorem un_set {x : Int} (hv : v < vals.length) (h : at' vals (v : Int) = -1) (hx : x ≠ -1) : un (vals.set v x) + 1 = un vals := by
  have hg : vals[v] = -1 := by
    rw [at'_nat, List.getD_eq_getElem?_getD, List.getElem?_eq_getElem hv] at h
    exact h
  unfold un
  rw [List.count_set hv, hg]
  have h1 : 0 < vals.count (-1) := List.count_pos_iff.2 (hg ▸ List.getElem_mem hv)
  have e1 : ((-1 : Int) == -1) = true := rfl
  have e2 : (x == (-1 : Int)) = false := by simpa using hx
  rw [e1, e2]
  simp
  omega

abbrev Ans := Bool × List Int

/-- what spread and set promise -/
def Spr (g : GR) (ps : List Int) (S : Nat → Prop) (vals : List Int) (v : Nat) (val : Int) (r : Ans) : Prop :=
  r.1 = true → Inv g ps S r.2 ∧ Ext2 g vals r.2 ∧ at' r.2 (v : Int) = val ∧ un r.2 ≤ un vals

theorem spread_ok (hV : VM g.1 g.2) (hp : Prt g ps) : ∀ (f : Nat) (S : Nat → Prop) (vals : List Int) (v : Nat) (val : Int), Inv g ps S vals → v < g.2.length → (val = 0 ∨ val = 1) → un vals + 40 < f →
    OK (Spr g ps S vals v val) (m___labels_coverer__spread f (g, ps, vals) v val) := by
  intro f
  have h24 := hV.n24
  induction f with
  | zero => intro S vals v val _ _ _ hf; omega
  | succ f ih =>
    intro S vals v val hI hv hval hf
    have hlen := hI.len
    have hpl := hp.len
    have hpr := hp.rng v hv
    show OK _ (__labels_coverer__spread_b (m___labels_coverer__spread f) f (g, ps, vals) v val)
    unfold __labels_coverer__spread_b
    dsimp only
    rw [ckT (by omega)]
    by_cases hun : at' vals (v : Int) ≠ -1
    · rw [if_pos hun, ckT (by omega)]
      refine ⟨_, rfl, fun hr => ?_⟩
      exact ⟨hI, Ext2.refl, of_decide_eq_true hr, Nat.le_refl _⟩
    have hun' : at' vals (v : Int) = -1 := by omega
    rw [if_neg hun, ckT (by omega)]
    -- with the node's value set
    have hI1 : Inv g ps (fun u => S u ∨ u = v) (vals.set v val) := by
      have hx : Ext2 g vals (vals.set v val) := fun u hu hne => by
        rw [at_set1 _ _ _ (by omega), if_neg (fun hc : u = v => hne (by rw [hc]; exact hun'))]
      refine ⟨by simpa using hlen, fun u hu => ?_, fun u hu hS hne => ?_⟩
      · rw [at_set1 _ _ _ (by omega)]
        by_cases hc : u = v
        · rw [if_pos hc]; omega
        · rw [if_neg hc]; exact hI.val u hu
      · have huv : u ≠ v := fun hc => hS (.inr hc)
        rw [at_set1 _ _ _ (by omega), if_neg huv] at hne
        exact (hI.clo u hu (fun hc => hS (.inl hc)) hne).ext hV hp hu hx
    have hx1 : Ext2 g vals (vals.set v val) := fun u hu hne => by
      rw [at_set1 _ _ _ (by omega), if_neg (fun hc : u = v => hne (by rw [hc]; exact hun'))]
    have hv1 : at' (vals.set v val) (v : Int) = val := by rw [at_set1 _ _ _ (by omega), if_pos rfl]
    have hu1 := un_set (vals := vals) (v := v) (x := val) (by omega) hun' (by omega)
    -- behind the partner
    have k2 : ∀ (b : Bool) (vs : List Int), (b = false → Inv g ps (fun u => S u ∨ u = v) vs ∧ Ext2 g (vals.set v val) vs ∧ un vs ≤ un (vals.set v val) ∧ (at' ps (v : Int) < 0 → val = 0) ∧ (0 ≤ at' ps (v : Int) → at' vs (at' ps (v : Int)) = 1 - val)) →
        OK (Spr g ps S vals v val) (__labels_coverer__spread_k2 f (g, ps, vals) v val (m___labels_coverer__spread f) (b, vs)) := by
      intro b vs hb
      unfold __labels_coverer__spread_k2
      dsimp only
      cases b with
      | true => rw [if_pos rfl]; exact ⟨_, rfl, fun hc => by cases hc⟩
      | false =>
        obtain ⟨b1, b2, b3, b4, b5⟩ := hb rfl
        rw [if_neg (by simp)]
        -- the end, from any later values
        have fin : ∀ ws : List Int, Inv g ps (fun u => S u ∨ u = v) ws → Ext2 g vs ws → un ws ≤ un vs → (val = 0 → ∀ x ∈ at' g.2 (v : Int), at' ws x.1 = 1) → Spr g ps S vals v val (true, ws) := by
          intro ws w1 w2 w3 w4 _
          have hx2 : Ext2 g (vals.set v val) ws := b2.trans w2
          have hwv : at' ws (v : Int) = val := by rw [hx2 v hv (by rw [hv1]; omega), hv1]
          refine ⟨⟨w1.len, w1.val, fun u hu hS hne => ?_⟩, hx1.trans hx2, hwv, by dsimp only; omega⟩
          by_cases huv : u = v
          · subst huv
            refine ⟨by rw [hwv]; exact hval, fun hc => by rw [hwv]; exact b4 hc, fun hc => ?_, fun hc => w4 (by rw [hwv] at hc; exact hc)⟩
            have h5 := b5 hc
            obtain ⟨q, hq⟩ : ∃ q : Nat, at' ps (u : Int) = q := ⟨(at' ps (u : Int)).toNat, by omega⟩
            rw [hq] at h5 hpr ⊢
            rw [hwv, w2 q (by omega) (by omega), h5]
          · exact w1.clo u hu (fun hc => hc.elim hS huv) hne
        by_cases h1 : val = 1
        · rw [if_pos h1]
          exact ⟨_, rfl, fin vs b1 Ext2.refl (Nat.le_refl _) (fun hc => by omega)⟩
        · rw [if_neg h1, ckT (by omega)]
          have hd := (hV.vg.node v hv).deg
          have e : (at' g.2 (v : Int)).length = (row (g.1, g.2) v).length := rfl
          dsimp only at hd
          refine iter_ok (fun s : Int × List Int => ∃ k : Nat, s.1 = k ∧ k ≤ (at' g.2 (v : Int)).length ∧ Inv g ps (fun u => S u ∨ u = v) s.2 ∧ Ext2 g vs s.2 ∧ un s.2 ≤ un vs ∧ ∀ j : Nat, j < k → at' s.2 (at' (at' g.2 (v : Int)) (j : Int)).1 = 1) (fun s => (at' g.2 (v : Int)).length - s.1.toNat) ?_ f _ ⟨0, rfl, by omega, b1, Ext2.refl, Nat.le_refl _, fun j hj => by omega⟩ (by dsimp only; omega)
          rintro ⟨i, ws⟩ ag ⟨k, hk, hk2, w1, w2, w3, w4⟩ hrec
          dsimp only at hk w1 w2 w3 w4
          subst hk
          unfold __labels_coverer__spread_s1 __labels_coverer__spread_k3
          dsimp only
          by_cases hkd : (k : Int) < ((at' g.2 (v : Int)).length : Int)
          · rw [if_pos hkd, ckT (by omega)]
            have hm : at' (at' g.2 (v : Int)) (k : Int) ∈ at' g.2 (v : Int) := mem_of_at (by omega)
            have hr := (hV.lk v hv _ hm).1
            obtain ⟨q, hq⟩ : ∃ q : Nat, (at' (at' g.2 (v : Int)) (k : Int)).1 = q := ⟨(at' (at' g.2 (v : Int)) (k : Int)).1.toNat, by omega⟩
            rw [hq] at hr ⊢
            obtain ⟨⟨r, xs⟩, er, hs⟩ := ih (fun u => S u ∨ u = v) ws q 1 w1 (by omega) (.inr rfl) (by omega)
            rw [bindS er]
            dsimp only
            cases r with
            | false => exact ⟨_, rfl, fun hc => by cases hc⟩
            | true =>
              obtain ⟨s1, s2, s3, s4⟩ := hs rfl
              dsimp only at s1 s2 s3 s4
              rw [if_neg (by simp), wr (by omega) (by omega)]
              refine hrec _ ⟨k + 1, by dsimp only; omega, by omega, s1, w2.trans s2, by dsimp only; omega, fun j hj => ?_⟩ (by dsimp only; omega)
              dsimp only
              by_cases hjk : j = k
              · subst hjk; rw [hq]; exact s3
              · have h4 := w4 j (by omega)
                have hm2 : at' (at' g.2 (v : Int)) (j : Int) ∈ at' g.2 (v : Int) := mem_of_at (by omega)
                have hr2 := (hV.lk v hv _ hm2).1
                obtain ⟨q2, hq2⟩ : ∃ q : Nat, (at' (at' g.2 (v : Int)) (j : Int)).1 = q := ⟨(at' (at' g.2 (v : Int)) (j : Int)).1.toNat, by omega⟩
                rw [hq2] at h4 hr2 ⊢
                rw [s2 q2 (by omega) (by omega)]; exact h4
          · rw [if_neg hkd]
            refine ⟨_, rfl, fin ws w1 w2 w3 fun _ x hx => ?_⟩
            obtain ⟨j, hj, he⟩ := at_of_mem hx
            rw [← he]; exact w4 j (by omega)
    have k1 : ∀ b : Bool, (b = false → at' ps (v : Int) < 0 → val = 0) → OK (Spr g ps S vals v val) (__labels_coverer__spread_k1 f (g, ps, vals) v val (m___labels_coverer__spread f) b) := by
      intro b hb
      unfold __labels_coverer__spread_k1
      dsimp only
      cases b with
      | true => rw [if_pos rfl]; exact ⟨_, rfl, fun hc => by cases hc⟩
      | false =>
        rw [if_neg (by simp), ckT (by omega)]
        have e0 : Int.toNat (v : Int) = v := by omega
        rw [e0]
        by_cases hpt : 0 ≤ at' ps (v : Int)
        · rw [if_pos hpt, wr (by omega) (by omega)]
          obtain ⟨q, hq⟩ : ∃ q : Nat, at' ps (v : Int) = q := ⟨(at' ps (v : Int)).toNat, by omega⟩
          rw [hq] at hpr
          obtain ⟨⟨r, xs⟩, er, hs⟩ := ih (fun u => S u ∨ u = v) (vals.set v val) q (1 - val) hI1 (by omega) (by omega) (by omega)
          rw [hq, bindS er]
          dsimp only
          refine k2 _ _ fun hr => ?_
          obtain ⟨s1, s2, s3, s4⟩ := hs (by simpa using hr)
          exact ⟨s1, s2, s4, fun hc => by omega, fun _ => by rw [hq]; exact s3⟩
        · rw [if_neg hpt]
          exact k2 _ _ fun _ => ⟨hI1, Ext2.refl, Nat.le_refl _, hb rfl, fun hc => absurd hc hpt⟩
    by_cases hpt : at' ps (v : Int) < 0
    · rw [if_pos hpt]
      refine k1 _ fun hc _ => ?_
      have : ¬ val = 1 := of_decide_eq_false hc
      omega
    · rw [if_neg hpt]; exact k1 _ fun _ hc => absurd hc hpt

theorem set_ok (hV : VM g.1 g.2) (hp : Prt g ps) (hI : Inv g ps (fun _ => False) vals) (hv : v < g.2.length) {val : Int} (hval : val = 0 ∨ val = 1) :
    OK (fun r : Ans => Inv g ps (fun _ => False) r.2 ∧ Ext2 g vals r.2 ∧ (r.1 = true → at' r.2 (v : Int) = val)) (m___labels_coverer__set 1000 (g, ps, vals) v val) := by
  have h24 := hV.n24
  have hlen := hI.len
  have hu : un vals ≤ vals.length := List.count_le_length
  unfold m___labels_coverer__set
  dsimp only
  rw [ckT (by simp; omega)]
  obtain ⟨⟨r, xs⟩, er, hs⟩ := spread_ok hV hp 1000 _ vals v val hI hv hval (by omega)
  rw [bindS er]
  cases r with
  | true =>
    obtain ⟨s1, s2, s3, s4⟩ := hs rfl
    exact ⟨_, rfl, s1, s2, fun _ => s3⟩
  | false => exact ⟨_, rfl, hI, Ext2.refl, fun hc => by cases hc⟩
end
end Go.Proofs.Ytmajgimhmfeliaa
end
section
set_option linter.unusedVariables false
set_option linter.unusedSimpArgs false
namespace Go.Proofs.Ytmajgimhmfeliaa
open Go.Sx
section
variable {g : GR} {st : List Int}
/-- the partner of a node, or -1 -/
def ptn (g : GR) (st : List Int) (v : Nat) : Int := if 0 ≤ at' st (v : Int) then (at' (at' g.2 (v : Int)) (at' st (v : Int))).1 else -1

structure CoverOK (g : GR) (st : List Int) (l : List (Int × Int)) : Prop where
  len : l.length = g.2.length
  two : ∀ v : Nat, v < g.2.length → (at' l (v : Int)).1 = 0 ∨ (at' l (v : Int)).1 = 1
  zero : ∀ v : Nat, v < g.2.length → (at' l (v : Int)).2 = 0
  no : ∀ v : Nat, v < g.2.length → ptn g st v < 0 → (at' l (v : Int)).1 = 0
  pt : ∀ v : Nat, v < g.2.length → 0 ≤ ptn g st v → ptn g st (ptn g st v).toNat = v ∧ (at' l (ptn g st v)).1 = 1 - (at' l (v : Int)).1
  nb : ∀ v : Nat, v < g.2.length → (at' l (v : Int)).1 = 0 → ∀ x ∈ at' g.2 (v : Int), (at' l x.1).1 = 1

theorem ptn_rng (hV : VM g.1 g.2) {v : Nat} (hv : v < g.2.length) (hf : FitAt 4 g v (at' st (v : Int))) : -1 ≤ ptn g st v ∧ ptn g st v ≤ (g.2.length : Int) - 1 := by
  rw [FitAt, if_pos (.inr rfl)] at hf
  have e : (at' g.2 (v : Int)).length = (row g v).length := rfl
  have := hV.n1
  unfold ptn
  by_cases h : 0 ≤ at' st (v : Int)
  · rw [if_pos h]
    obtain ⟨k, hk⟩ : ∃ k : Nat, at' st (v : Int) = k := ⟨(at' st (v : Int)).toNat, by omega⟩
    rw [hk] at hf ⊢
    have hm : at' (at' g.2 (v : Int)) (k : Int) ∈ at' g.2 (v : Int) := mem_of_at (by omega)
    have := (hV.lk v hv _ hm).1
    omega
  · rw [if_neg h]; omega

theorem at_replicate {α : Type} [Inhabited α] (n : Nat) (x : α) {v : Nat} (h : v < n) : at' (List.replicate n x) (v : Int) = x := by
  rw [at'_nat, List.getD_eq_getElem?_getD, List.getElem?_replicate, if_pos h]; rfl

theorem at_setP {α : Type} [Inhabited α] (l : List α) (i : Nat) (x : α) (hi : i < l.length) (v : Nat) : at' (l.set i x) (v : Int) = if v = i then x else at' l (v : Int) := by
  rw [at'_nat, at'_nat, List.getD_eq_getElem?_getD, List.getD_eq_getElem?_getD, List.getElem?_set]
  by_cases h : v = i
  · subst h; rw [if_pos rfl, if_pos rfl, if_pos hi]; rfl
  · rw [if_neg (fun hc => h hc.symm), if_neg h]

abbrev AnsC := List (Int × Int) × Bool
def CovQ (g : GR) (st : List Int) (r : AnsC) : Prop := r.2 = true → CoverOK g st r.1

theorem cover_k5 (hV : VM g.1 g.2) {ps vals : List Int} (hst : st.length = g.2.length) (hps : ps.length = g.2.length) (hpe : ∀ v : Nat, v < g.2.length → at' ps (v : Int) = ptn g st v)
    (hmut : ∀ v : Nat, v < g.2.length → 0 ≤ ptn g st v → ptn g st (ptn g st v).toNat = v) (hrng : ∀ v : Nat, v < g.2.length → ptn g st v ≤ (g.2.length : Int) - 1)
    (hI : Inv g ps (fun _ => False) vals) (hall : ∀ v : Nat, v < g.2.length → at' vals (v : Int) ≠ -1) : OK (CovQ g st) (labels_cover_k5 1000 st vals) := by
  have h24 := hV.n24
  have hvl := hI.len
  unfold labels_cover_k5
  rw [ckT (by omega)]
  have e0 : Int.toNat (st.length : Int) = g.2.length := by omega
  rw [e0]
  refine iter_ok (fun s : Int × List (Int × Int) => ∃ k : Nat, s.1 = k ∧ k ≤ g.2.length ∧ s.2.length = g.2.length ∧ ∀ v : Nat, v < g.2.length → at' s.2 (v : Int) = (if v < k then at' vals (v : Int) else 0, 0)) (fun s => g.2.length - s.1.toNat) ?_ 1000 _ ⟨0, rfl, by omega, by simp, fun v hv => by dsimp only; rw [at_replicate _ _ hv, if_neg (by omega)]⟩ (by dsimp only; omega)
  rintro ⟨i, l⟩ ag ⟨k, hk, hk2, hl, hle⟩ hrec
  dsimp only at hk hl hle
  subst hk
  unfold labels_cover_s1 labels_cover_k6
  dsimp only
  by_cases hkn : (k : Int) < (vals.length : Int)
  · rw [if_pos hkn, ckT (by omega), ckT (by omega), wr (by omega) (by omega)]
    refine hrec _ ⟨k + 1, by dsimp only; omega, by omega, by simpa using hl, fun v hv => ?_⟩ (by dsimp only; omega)
    dsimp only
    have e1 : Int.toNat (k : Int) = k := by omega
    rw [e1, at_setP _ _ _ (by omega)]
    by_cases hvk : v = k
    · subst hvk
      rw [if_pos rfl, if_pos (by omega), hle v hv]
    · rw [if_neg hvk, hle v hv]
      by_cases h2 : v < k
      · rw [if_pos h2, if_pos (by omega)]
      · rw [if_neg h2, if_neg (by omega)]
  · rw [if_neg hkn]
    refine ⟨_, rfl, fun _ => ?_⟩
    have hkk : k = g.2.length := by omega
    have hle' : ∀ v : Nat, v < g.2.length → at' l (v : Int) = (at' vals (v : Int), 0) := fun v hv => by rw [hle v hv, if_pos (by omega)]
    have hc : ∀ v : Nat, v < g.2.length → Clo g ps vals v := fun v hv => hI.clo v hv (fun h => h) (hall v hv)
    refine ⟨hl, fun v hv => by dsimp only; rw [hle' v hv]; exact (hc v hv).two, fun v hv => by dsimp only; rw [hle' v hv], fun v hv hn => ?_, fun v hv hn => ⟨hmut v hv hn, ?_⟩, fun v hv h0 x hx => ?_⟩
    · dsimp only; rw [hle' v hv]; exact (hc v hv).no (by rw [hpe v hv]; exact hn)
    · dsimp only
      have h1 := (hc v hv).pt (by rw [hpe v hv]; exact hn)
      rw [hpe v hv] at h1
      have h2 := hrng v hv
      obtain ⟨q, hq⟩ : ∃ q : Nat, ptn g st v = q := ⟨(ptn g st v).toNat, by omega⟩
      rw [hq] at h1 h2 ⊢
      rw [hle' q (by omega), hle' v hv]; exact h1
    · dsimp only at h0 ⊢
      rw [hle' v hv] at h0
      have h1 := (hc v hv).nb h0 x hx
      have hr := (hV.lk v hv x hx).1
      obtain ⟨q, hq⟩ : ∃ q : Nat, x.1 = q := ⟨x.1.toNat, by omega⟩
      rw [hq] at h1 hr ⊢
      rw [hle' q (by omega)]; exact h1

theorem cover_ok (hV : VM g.1 g.2) (hst : st.length = g.2.length) (hfit : ∀ v : Nat, v < g.2.length → FitAt 4 g v (at' st (v : Int))) : OK (CovQ g st) (m_labels_cover 1000 g st) := by
  have h24 := hV.n24
  have hrng : ∀ v : Nat, v < g.2.length → -1 ≤ ptn g st v ∧ ptn g st v ≤ (g.2.length : Int) - 1 := fun v hv => ptn_rng hV hv (hfit v hv)
  have no : OK (CovQ g st) (some (([] : List (Int × Int)), false)) := ⟨_, rfl, fun hc => by cases hc⟩
  unfold m_labels_cover
  rw [ckT (by omega), ckT (by omega)]
  unfold labels_cover_k1
  have e0 : Int.toNat (st.length : Int) = g.2.length := by omega
  rw [e0]
  refine iter_ok (fun s : Int × List Int × List Int => ∃ k : Nat, s.1 = k ∧ k ≤ g.2.length ∧ s.2.1.length = g.2.length ∧ s.2.2.length = g.2.length ∧ (∀ v : Nat, v < k → at' s.2.1 (v : Int) = -1) ∧ ∀ v : Nat, v < k → at' s.2.2 (v : Int) = ptn g st v) (fun s => g.2.length - s.1.toNat) ?_ 1000 _ ⟨0, rfl, by omega, by simp, by simp, fun v hv => by omega, fun v hv => by omega⟩ (by dsimp only; omega)
  rintro ⟨i, vs, ps⟩ ag ⟨k, hk, hk2, hl1, hl2, hv1, hp1⟩ hrec
  dsimp only at hk hl1 hl2 hv1 hp1
  subst hk
  have e1 : Int.toNat (k : Int) = k := by omega
  unfold labels_cover_s5
  dsimp only
  by_cases hkn : (k : Int) < (st.length : Int)
  · rw [if_pos hkn, ckT (by omega), ckT (by omega), ckT (by omega), e1]
    -- the next partner
    have nxt : ∀ p : Int, p = ptn g st k → OK (CovQ g st) (labels_cover_k10 ((k : Int), vs, ps) ag (List.set ps k p)) := by
      intro p hp
      unfold labels_cover_k10
      dsimp only
      rw [wr (by omega) (by omega), e1]
      refine hrec _ ⟨k + 1, by dsimp only; omega, by omega, by simpa using hl1, by simpa using hl2, fun v hv => ?_, fun v hv => ?_⟩ (by dsimp only; omega)
      · dsimp only
        rw [at_setP _ _ _ (by omega)]
        by_cases hvk : v = k
        · rw [if_pos hvk]
        · rw [if_neg hvk]; exact hv1 v (by omega)
      · dsimp only
        rw [at_setP _ _ _ (by omega)]
        by_cases hvk : v = k
        · rw [if_pos hvk, hp, hvk]
        · rw [if_neg hvk]; exact hp1 v (by omega)
    have hf := hfit k (by omega)
    rw [FitAt, if_pos (.inr rfl)] at hf
    have e : (at' g.2 (k : Int)).length = (row g k).length := rfl
    by_cases h0 : 0 ≤ at' st (k : Int)
    · rw [if_pos h0, ckT (by omega), ckT (by omega), ckT (by simp; omega), List.set_set]
      exact nxt _ (by unfold ptn; rw [if_pos h0])
    · rw [if_neg h0]
      exact nxt _ (by unfold ptn; rw [if_neg h0])
  rw [if_neg hkn]
  have hkk : k = g.2.length := by omega
  subst hkk
  -- are they mutual?
  unfold labels_cover_k2
  refine iter_ok (fun s : Int => ∃ k : Nat, s = k ∧ k ≤ g.2.length ∧ ∀ v : Nat, v < k → 0 ≤ ptn g st v → ptn g st (ptn g st v).toNat = v) (fun s => g.2.length - s.toNat) ?_ 1000 _ ⟨0, rfl, by omega, fun v hv => by omega⟩ (by omega)
  rintro i ag2 ⟨j, rfl, hj2, hmu⟩ hrec2
  unfold labels_cover_s4 labels_cover_k9
  dsimp only
  by_cases hjn : (j : Int) < (ps.length : Int)
  · have hpj := hp1 j (by omega)
    have hrj := hrng j (by omega)
    rw [if_pos hjn, ckT (by omega), hpj]
    have nxt : (0 ≤ ptn g st j → ptn g st (ptn g st j).toNat = j) → OK (CovQ g st) (ag2 ((j : Int) + 1)) := fun hn =>
      hrec2 _ ⟨j + 1, by omega, by omega, fun v hv => by
        by_cases hvj : v = j
        · subst hvj; exact hn
        · exact hmu v (by omega)⟩ (by omega)
    by_cases h0 : 0 ≤ ptn g st j
    · rw [if_pos h0, ckT (by omega)]
      obtain ⟨q, hq⟩ : ∃ q : Nat, ptn g st j = q := ⟨(ptn g st j).toNat, by omega⟩
      rw [hq] at hrj ⊢
      have hpq := hp1 q (by omega)
      rw [hpq, wr (by omega) (by omega)]
      by_cases hm : ptn g st q = j
      · rw [decide_eq_false (fun hne => hne hm), if_neg (by simp)]
        exact nxt (fun _ => by rw [hq]; exact hm)
      · rw [decide_eq_true hm, if_pos rfl]; exact no
    · rw [if_neg h0, if_neg (by simp), wr (by omega) (by omega)]; exact nxt fun hc => absurd hc h0
  rw [if_neg hjn]
  have hmut : ∀ v : Nat, v < g.2.length → 0 ≤ ptn g st v → ptn g st (ptn g st v).toNat = v := fun v hv => hmu v (by omega)
  have hP : Prt g ps := ⟨hl2, fun v hv => by rw [hp1 v hv]; exact (hrng v hv).2⟩
  have hI0 : Inv g ps (fun _ => False) vs := ⟨hl1, fun v hv => .inl (hv1 v hv), fun v hv _ hne => absurd (hv1 v hv) hne⟩
  -- those without a partner
  unfold labels_cover_k3
  dsimp only
  refine iter_ok (fun s : Int × List Int => ∃ k : Nat, s.1 = k ∧ k ≤ g.2.length ∧ Inv g ps (fun _ => False) s.2) (fun s => g.2.length - s.1.toNat) ?_ 1000 _ ⟨0, rfl, by omega, hI0⟩ (by dsimp only; omega)
  rintro ⟨i, ws⟩ ag3 ⟨m, hm, hm2, hIw⟩ hrec3
  dsimp only at hm hIw
  subst hm
  unfold labels_cover_s3 labels_cover_k8
  dsimp only
  by_cases hmn : (m : Int) < (ps.length : Int)
  · rw [if_pos hmn, ckT (by omega)]
    by_cases hneg : at' ps (m : Int) < 0
    · rw [if_pos hneg]
      obtain ⟨⟨r, xs⟩, er, s1, s2, s3⟩ := set_ok hV hP hIw (v := m) (by omega) (val := 0) (.inl rfl)
      rw [bindS er]
      dsimp only
      cases r with
      | false => exact no
      | true =>
        rw [if_neg (by simp), wr (by omega) (by omega)]
        exact hrec3 _ ⟨m + 1, by dsimp only; omega, by omega, s1⟩ (by dsimp only; omega)
    · rw [if_neg hneg, if_neg (by simp), wr (by omega) (by omega)]
      exact hrec3 _ ⟨m + 1, by dsimp only; omega, by omega, hIw⟩ (by dsimp only; omega)
  rw [if_neg hmn]
  -- the others
  unfold labels_cover_k4
  refine iter_ok (fun s : Int × List Int => ∃ k : Nat, s.1 = k ∧ k ≤ g.2.length ∧ Inv g ps (fun _ => False) s.2 ∧ ∀ v : Nat, v < k → at' s.2 (v : Int) ≠ -1) (fun s => g.2.length - s.1.toNat) ?_ 1000 _ ⟨0, rfl, by omega, hIw, fun v hv => by omega⟩ (by dsimp only; omega)
  rintro ⟨i, zs⟩ ag4 ⟨t, ht, ht2, hIz, hz⟩ hrec4
  dsimp only at ht hIz hz
  subst ht
  have hzl := hIz.len
  unfold labels_cover_s2 labels_cover_k7
  dsimp only
  by_cases htn : (t : Int) < (st.length : Int)
  · rw [if_pos htn, ckT (by omega)]
    have nxt : ∀ xs : List Int, Inv g ps (fun _ => False) xs → Ext2 g zs xs → at' xs (t : Int) ≠ -1 → OK (CovQ g st) (ag4 ((t : Int) + 1, xs)) := by
      intro xs x1 x2 x3
      refine hrec4 _ ⟨t + 1, by dsimp only; omega, by omega, x1, fun v hv => ?_⟩ (by dsimp only; omega)
      dsimp only
      by_cases hvt : v = t
      · subst hvt; exact x3
      · have := hz v (by omega)
        rw [x2 v (by omega) this]; exact this
    by_cases hun : at' zs (t : Int) = -1
    · rw [if_pos hun]
      obtain ⟨⟨r, xs⟩, er, s1, s2, s3⟩ := set_ok hV hP hIz (v := t) (by omega) (val := 0) (.inl rfl)
      rw [bindS er]
      dsimp only at s1 s2 s3 ⊢
      cases r with
      | true =>
        rw [if_neg (by simp), if_neg (by simp), wr (by omega) (by omega)]
        exact nxt xs s1 s2 (by rw [s3 rfl]; decide)
      | false =>
        rw [if_pos (by rfl)]
        obtain ⟨⟨r, ys⟩, er', q1, q2, q3⟩ := set_ok hV hP s1 (v := t) (by omega) (val := 1) (.inr rfl)
        rw [bindS er']
        dsimp only at q1 q2 q3 ⊢
        cases r with
        | true =>
          rw [if_neg (by simp), wr (by omega) (by omega)]
          exact nxt ys q1 (s2.trans q2) (by rw [q3 rfl]; decide)
        | false => exact no
    · rw [if_neg hun, if_neg (by simp), wr (by omega) (by omega)]
      exact nxt zs hIz Ext2.refl hun
  rw [if_neg htn]
  exact cover_k5 hV hst hl2 hp1 hmut (fun v hv => (hrng v hv).2) hIz fun v hv => hz v (by omega)

theorem prove4_ok (hV : VM g.1 g.2) (hst : st.length = g.2.length) (hfit : ∀ v : Nat, v < g.2.length → FitAt 4 g v (at' st (v : Int))) :
    OK (fun r : List (Int × Int) × Int => r.2 = 0 → CoverOK g st r.1) (m_labels_Prove 1000 4 g st) := by
  have h24 := hV.n24
  have hlen := hV.len
  have hc : ∃ b, m_graph_Connected 1000 g = some b := by
    by_cases h : Conn g
    · exact ⟨_, (connected_eq hV.vg).1 h⟩
    · exact ⟨_, (connected_eq hV.vg).2 h⟩
  obtain ⟨b, hb⟩ := hc
  unfold m_labels_Prove
  rw [bindS hb]
  cases b with
  | false => exact ⟨_, rfl, fun hc => by cases hc⟩
  | true =>
    rw [if_neg (by simp)]
    have hkn : m_labels_known 1000 4 = some true := rfl
    rw [bindS hkn, if_neg (by simp)]
    have hft : m_labels_fits 1000 4 g st = some true := by
      unfold m_labels_fits
      rw [if_neg (by omega)]
      refine iter_eq (fun s : Int => ∃ k : Nat, s = k ∧ k ≤ g.2.length) (fun s => g.2.length - s.toNat) ?_ 1000 0 ⟨0, rfl, by omega⟩ (by omega)
      rintro i ag ⟨k, rfl, hk⟩ hrec
      unfold labels_fits_s1
      by_cases hkn : (k : Int) < (st.length : Int)
      · rw [if_pos hkn, ckT (by omega), bindS ((number_eq (by omega) 4 _).1 (hfit k (by omega))), if_neg (by simp), wr (by omega) (by omega)]
        exact hrec _ ⟨k + 1, by omega, by omega⟩ (by omega)
      · rw [if_neg hkn]; rfl
    rw [bindS hft, if_neg (by simp)]
    have e3 : wI .i64 ((4 : Int) - 1) = 3 := rfl
    rw [e3, ckT (by decide), if_neg (by decide), if_neg (by decide), if_neg (by decide)]
    obtain ⟨⟨l, r⟩, er, hq⟩ := cover_ok hV hst hfit
    rw [bindS er]
    dsimp only
    cases r with
    | false => exact ⟨_, rfl, fun hc => by cases hc⟩
    | true => exact ⟨_, rfl, fun _ => hq rfl⟩
end
end Go.Proofs.Ytmajgimhmfeliaa
end
section
set_option linter.unusedVariables false
set_option linter.unusedSimpArgs false
namespace Go.Proofs.Ytmajgimhmfeliaa
open Go.Sx
set_option linter.unusedVariables false
set_option linter.unusedSimpArgs false
def world_Bit_k1  (a2 : Bool) : Option (Bool) :=
  some (a2)
def m_world_Bit (fuel : Nat) (p0 : Int) (p1 : Int) : Option (Bool) :=
  if (0 : Int) ≤ p1 then (if p1 < (32 : Int) then (ck (0 ≤ (wI .u64 p1)) (world_Bit_k1  (decide ((bAnd .u32 (bShr .u32 p0 (wI .u64 p1)) (1 : Int)) = (1 : Int))))) else (world_Bit_k1  (false))) else (world_Bit_k1  (false))

theorem body16 : HasBody Try.prog 16 := Try.call16

set_option maxHeartbeats 4000000 in
set_option maxRecDepth 20000 in
theorem t_world_Bit (fuel : Nat) {p0 : Int} {p1 : Int} (r : Bool) (h : m_world_Bit fuel p0 p1 = some r) :
    Meets Try.prog 16 #[Value.int .u32 (p0), Value.int .i64 (p1)] [] (fun x : Unit => Value.bool (r)) (fun x l => l) (fun _ l => l) := by
  refine Meets.of (vs := [Value.int .u32 (p0), Value.int .i64 (p1)]) Try.func16 rfl Try.ntmps16 rfl fun c => ?_
  unfold m_world_Bit at h
  refine J.seq ?_
  refine J.region ?_
  refine J.quiet (Y.assign rfl) rfl ?_
  refine J.done ?_
  refine J.thenN ?_
  refine J.seq ?_
  refine J.midI (A := Bool) (B := Unit) (fun a2 => world_Bit_k1  a2 = some r) (fun a2 b3 => [(4, Value.bool (a2))]) (fun a2 b3 => []) (fun a2 b3 => []) ?_ ?_
  · refine J.region ?_
    refine J.quiet (Y.move rfl) rfl ?_
    refine J.quiet (Y.geq rfl rfl) rfl ?_
    refine J.quiet (Y.move rfl) rfl ?_
    refine J.guardD (by exact rfl) (by exact rfl) (fun hp4 => ?_) (fun hp4 => ?_)
    · replace h := ifP hp4 h
      refine J.guardY rfl (Y.move rfl) rfl ?_
      refine J.guardY rfl (Y.lss rfl rfl) rfl ?_
      refine J.quiet (Y.pickT rfl rfl) rfl ?_
      refine J.quiet (Y.move rfl) rfl ?_
      refine J.guardD (by exact rfl) (by exact rfl) (fun hp5 => ?_) (fun hp5 => ?_)
      · replace h := ifP hp5 h
        refine J.guardY rfl (Y.move rfl) rfl ?_
        refine J.guardY rfl (Y.move rfl) rfl ?_
        refine J.guardY rfl (Y.conv rfl rfl rfl) rfl ?_
        replace h := ck_some h; obtain ⟨hc6, h⟩ := h
        refine J.guardY rfl (Y.shr rfl rfl hc6) rfl ?_
        refine J.guardY rfl (Y.and rfl rfl) rfl ?_
        refine J.guardY rfl (Y.eql rfl rfl) rfl ?_
        refine J.quiet (Y.pickT rfl rfl) rfl ?_
        refine J.quiet (Y.assign rfl) rfl ?_
        refine J.done ?_
        refine J.thenN ?_
        exact J.meetI (decide ((bAnd .u32 (bShr .u32 p0 (wI .u64 p1)) (1 : Int)) = (1 : Int))) (()) h (by repeat (first | exact SubF.nil | refine SubF.cons rfl ?_)) (SubM.refl _) (LentAll.refl _ _)
      · replace h := ifN hp5 h
        refine J.guardN rfl rfl rfl ?_
        refine J.guardN rfl rfl rfl ?_
        refine J.guardN rfl rfl rfl ?_
        refine J.guardN rfl rfl rfl ?_
        refine J.guardN rfl rfl rfl ?_
        refine J.guardN rfl rfl rfl ?_
        refine J.quiet (Y.pickF rfl rfl) rfl ?_
        refine J.quiet (Y.assign rfl) rfl ?_
        refine J.done ?_
        refine J.thenN ?_
        exact J.meetI (false) (()) h (by repeat (first | exact SubF.nil | refine SubF.cons rfl ?_)) (SubM.refl _) (LentAll.refl _ _)
    · replace h := ifN hp4 h
      refine J.guardN rfl rfl rfl ?_
      refine J.guardN rfl rfl rfl ?_
      refine J.quiet (Y.pickF rfl rfl) rfl ?_
      refine J.quiet (Y.move rfl) rfl ?_
      refine J.guardN rfl rfl rfl ?_
      refine J.guardN rfl rfl rfl ?_
      refine J.guardN rfl rfl rfl ?_
      refine J.guardN rfl rfl rfl ?_
      refine J.guardN rfl rfl rfl ?_
      refine J.guardN rfl rfl rfl ?_
      refine J.quiet (Y.pickF rfl rfl) rfl ?_
      refine J.quiet (Y.assign rfl) rfl ?_
      refine J.done ?_
      refine J.thenN ?_
      exact J.meetI (false) (()) h (by repeat (first | exact SubF.nil | refine SubF.cons rfl ?_)) (SubM.refl _) (LentAll.refl _ _)
  · clear h
    intro a2 b3 h
    unfold world_Bit_k1 at h
    refine J.ret ?_
    obtain rfl := Option.some.inj h
    exact J.retG1 (()) rfl rfl (RV.tmp rfl) (SubM.refl _) LentAll.nil

end Go.Proofs.Ytmajgimhmfeliaa
end
section
set_option linter.unusedVariables false
set_option linter.unusedSimpArgs false
namespace Go.Proofs.Ytmajgimhmfeliaa
open Go.Sx
set_option linter.unusedVariables false
set_option linter.unusedSimpArgs false
def law39_LabelsCover_k4  (a31 : Bool) : Option (Bool) :=
  some (a31)
def law39_LabelsCover_k3 (fuel : Nat) (a22 : Int × Int) (a25 : Int) (a28 : Int) : Option (Bool) :=
  Option.bind (m_law39_known fuel ) fun r33 => (if r33 = true then (if a25 ≤ a22.1 then (law39_LabelsCover_k4  (decide (a28 = a22.1))) else (law39_LabelsCover_k4  (false))) else (law39_LabelsCover_k4  (false)))
def law39_LabelsCover_k5 (a41 : Int × Int) (ag40 : (Int × Int) → Option (Bool)) (a46 : Int) : Option (Bool) :=
  ag40 (a46, (wI .i64 (a41.2 + (1 : Int))))
def law39_LabelsCover_k7 (a53 : Int) (ag52 : (Int) → Option (Bool)) (a60 : Bool) : Option (Bool) :=
  if a60 = true then (some (false)) else (ag52 (wI .i64 (a53 + (1 : Int))))
def law39_LabelsCover_s2 (fuel : Nat) (r3 : (List (Int) × (List (List (Int × Int))))) (a22 : Int × Int) (a41 : Int × Int) (ag40 : (Int × Int) → Option (Bool)) (a49 : Int) (a53 : Int) (ag52 : (Int) → Option (Bool)) : Option (Bool) :=
  ck (0 ≤ a41.2 ∧ a41.2 < (List.length r3.2 : Int)) (if a53 < (List.length (at' r3.2 a41.2) : Int) then (Option.bind (m_world_Bit fuel a22.2 a41.2) fun r63 => (if (!r63) = true then (ck (0 ≤ a41.2 ∧ a41.2 < (List.length r3.2 : Int)) (ck (0 ≤ a53 ∧ a53 < (List.length (at' r3.2 a41.2) : Int)) (Option.bind (m_world_Bit fuel a22.2 ((at' (at' r3.2 a41.2) a53).1)) fun r70 => (law39_LabelsCover_k7 a53 ag52 ((!r70)))))) else (law39_LabelsCover_k7 a53 ag52 (false)))) else (law39_LabelsCover_k5 a41 ag40 (a49)))
def law39_LabelsCover_k6 (fuel : Nat) (r3 : (List (Int) × (List (List (Int × Int))))) (a22 : Int × Int) (a41 : Int × Int) (ag40 : (Int × Int) → Option (Bool)) (a49 : Int) : Option (Bool) :=
  iter (law39_LabelsCover_s2 fuel r3 a22 a41 ag40 a49) fuel (0 : Int)
def law39_LabelsCover_s1 (fuel : Nat) (r3 : (List (Int) × (List (List (Int × Int))))) (r9 : Int × List (Int) × (List (Int × Int))) (a22 : Int × Int) (a25 : Int) (a41 : Int × Int) (ag40 : (Int × Int) → Option (Bool)) : Option (Bool) :=
  if a41.2 < (List.length r9.2.1 : Int) then (Option.bind (m_world_Bit fuel a22.2 a41.2) fun r73 => (if r73 = true then (law39_LabelsCover_k6 fuel r3 a22 a41 ag40 (wI .i64 (a41.1 + (1 : Int)))) else (law39_LabelsCover_k6 fuel r3 a22 a41 ag40 (a41.1)))) else (law39_LabelsCover_k3 fuel a22 a25 (a41.1))
def law39_LabelsCover_k2 (fuel : Nat) (r3 : (List (Int) × (List (List (Int × Int))))) (r9 : Int × List (Int) × (List (Int × Int))) (a22 : Int × Int) (a25 : Int) : Option (Bool) :=
  iter (law39_LabelsCover_s1 fuel r3 r9 a22 a25) fuel ((0 : Int), (0 : Int))
def law39_LabelsCover_k9 (a81 : Int × Int × Int) (ag80 : (Int × Int × Int) → Option (Bool)) (a90 : Int × Int) : Option (Bool) :=
  ag80 (a90.2, a90.1, (wI .i64 (a81.2.2 + (2 : Int))))
def law39_LabelsCover_k10 (a81 : Int × Int × Int) (ag80 : (Int × Int × Int) → Option (Bool)) (r93 : Int) (r97 : Int) (a101 : Bool) : Option (Bool) :=
  if a101 = true then (ck (0 ≤ (wI .u64 r93)) (ck (0 ≤ (wI .u64 r97)) (law39_LabelsCover_k9 a81 ag80 ((bOr .u32 a81.2.1 (bOr .u32 (bShl .u32 (1 : Int) (wI .u64 r93)) (bShl .u32 (1 : Int) (wI .u64 r97)))), (wI .i64 (a81.1 + (1 : Int))))))) else (law39_LabelsCover_k9 a81 ag80 (a81.2.1, a81.1))
def law39_LabelsCover_k8 (fuel : Nat) (p2 : List (Int)) (r3 : (List (Int) × (List (List (Int × Int))))) (r9 : Int × List (Int) × (List (Int × Int))) (a22 : Int × Int) (a81 : Int × Int × Int) (ag80 : (Int × Int × Int) → Option (Bool)) (a85 : Bool) : Option (Bool) :=
  if a85 = true then (ck (0 ≤ a81.2.2 ∧ a81.2.2 < (List.length p2 : Int)) (Option.bind (m_world_Within fuel (at' p2 a81.2.2) (List.length r9.2.1 : Int)) fun r93 => (ck (0 ≤ (wI .i64 (a81.2.2 + (1 : Int))) ∧ (wI .i64 (a81.2.2 + (1 : Int))) < (List.length p2 : Int)) (Option.bind (m_world_Within fuel (at' p2 (wI .i64 (a81.2.2 + (1 : Int)))) (List.length r9.2.1 : Int)) fun r97 => (Option.bind (m_ref01_Port fuel ((r3.1, r3.2)) r93 r97) fun r106 => (if (0 : Int) ≤ r106 then (Option.bind (m_world_Bit fuel a81.2.1 r93) fun r110 => (if (!r110) = true then (Option.bind (m_world_Bit fuel a81.2.1 r97) fun r114 => (law39_LabelsCover_k10 a81 ag80 r93 r97 ((!r114)))) else (law39_LabelsCover_k10 a81 ag80 r93 r97 (false)))) else (law39_LabelsCover_k10 a81 ag80 r93 r97 (false)))))))) else (law39_LabelsCover_k2 fuel r3 r9 a22 (a81.1))
def law39_LabelsCover_s3 (fuel : Nat) (p2 : List (Int)) (r3 : (List (Int) × (List (List (Int × Int))))) (r9 : Int × List (Int) × (List (Int × Int))) (a22 : Int × Int) (a81 : Int × Int × Int) (ag80 : (Int × Int × Int) → Option (Bool)) : Option (Bool) :=
  if (wI .i64 (a81.2.2 + (1 : Int))) < (List.length p2 : Int) then (law39_LabelsCover_k8 fuel p2 r3 r9 a22 a81 ag80 (decide (a81.2.2 < (80 : Int)))) else (law39_LabelsCover_k8 fuel p2 r3 r9 a22 a81 ag80 (false))
def law39_LabelsCover_k1 (fuel : Nat) (p2 : List (Int)) (r3 : (List (Int) × (List (List (Int × Int))))) (r9 : Int × List (Int) × (List (Int × Int))) (a22 : Int × Int) : Option (Bool) :=
  iter (law39_LabelsCover_s3 fuel p2 r3 r9 a22) fuel ((0 : Int), (0 : Int), (0 : Int))
def law39_LabelsCover_k11 (a122 : Int × Int × Int) (ag121 : (Int × Int × Int) → Option (Bool)) (a128 : Int × Int) : Option (Bool) :=
  ag121 (a128.1, a128.2, (wI .i64 (a122.2.2 + (1 : Int))))
def law39_LabelsCover_k12 (r12 : (List (Int × Int)) × Int) (a122 : Int × Int × Int) (ag121 : (Int × Int × Int) → Option (Bool)) (a131 : Int) : Option (Bool) :=
  ck (0 ≤ a122.2.2 ∧ a122.2.2 < (List.length r12.1 : Int)) (if ((at' r12.1 a122.2.2).1) = (1 : Int) then (ck (0 ≤ (wI .u64 a122.2.2)) (law39_LabelsCover_k11 a122 ag121 (a131, (bOr .u32 a122.2.1 (bShl .u32 (1 : Int) (wI .u64 a122.2.2)))))) else (law39_LabelsCover_k11 a122 ag121 (a131, a122.2.1)))
def law39_LabelsCover_k13 (r12 : (List (Int × Int)) × Int) (a122 : Int × Int × Int) (ag121 : (Int × Int × Int) → Option (Bool)) (a137 : Bool) : Option (Bool) :=
  if a137 = true then (law39_LabelsCover_k12 r12 a122 ag121 (wI .i64 (a122.1 + (1 : Int)))) else (law39_LabelsCover_k12 r12 a122 ag121 (a122.1))
def law39_LabelsCover_s4 (fuel : Nat) (p2 : List (Int)) (r3 : (List (Int) × (List (List (Int × Int))))) (r9 : Int × List (Int) × (List (Int × Int))) (r12 : (List (Int × Int)) × Int) (a122 : Int × Int × Int) (ag121 : (Int × Int × Int) → Option (Bool)) : Option (Bool) :=
  if a122.2.2 < (List.length r9.2.1 : Int) then (ck (0 ≤ a122.2.2 ∧ a122.2.2 < (List.length r9.2.1 : Int)) (if (0 : Int) ≤ (at' r9.2.1 a122.2.2) then (ck (0 ≤ a122.2.2 ∧ a122.2.2 < (List.length r3.2 : Int)) (ck (0 ≤ a122.2.2 ∧ a122.2.2 < (List.length r9.2.1 : Int)) (ck (0 ≤ (at' r9.2.1 a122.2.2) ∧ (at' r9.2.1 a122.2.2) < (List.length (at' r3.2 a122.2.2) : Int)) (law39_LabelsCover_k13 r12 a122 ag121 (decide (a122.2.2 < ((at' (at' r3.2 a122.2.2) (at' r9.2.1 a122.2.2)).1))))))) else (law39_LabelsCover_k13 r12 a122 ag121 (false)))) else (law39_LabelsCover_k1 fuel p2 r3 r9 (a122.1, a122.2.1))
def m_law39_LabelsCover (fuel : Nat) (p0 : Int × List (Int) × List (Int) × List (Int) × Bool × Bool) (p1 : Int × List (Int) × List (Int)) (p2 : List (Int)) : Option (Bool) :=
  Option.bind (m__world_Net__Connected fuel ((p0.1, p0.2.1, p0.2.2.1, p0.2.2.2.1, p0.2.2.2.2.1, p0.2.2.2.2.2)) (8 : Int)) fun r3 => (Option.bind (m__law39_Claimed__shape fuel (((3 : Int), p1.2.1, p1.2.2)) ((r3.1, r3.2))) fun r9 => (Option.bind (m_labels_Prove fuel r9.1 ((r3.1, r3.2)) r9.2.1) fun r12 => (if r12.2 ≠ (0 : Int) then (Option.bind (m_law39_known fuel ) fun r16 => (some (r16))) else (if (List.length r12.1 : Int) ≠ (List.length r9.2.1 : Int) then (some (false)) else (iter (law39_LabelsCover_s4 fuel p2 r3 r9 r12) fuel ((0 : Int), (0 : Int), (0 : Int)))))))

set_option maxHeartbeats 4000000 in
set_option maxRecDepth 20000 in
theorem t_law39_LabelsCover (fuel : Nat) {p0 : Int × List (Int) × List (Int) × List (Int) × Bool × Bool} {p1 : Int × List (Int) × List (Int)} {p2 : List (Int)} (v0 : Value)  (v1 : Value)  (v2 : Value)  (v3 : Value)  (v4 : Value)  (v5 : Value) (r : Bool) (h : m_law39_LabelsCover fuel p0 p1 p2 = some r) :
    Meets Try.prog 3 #[Value.agg #[Value.int .i64 (p0.1), v0, v1, v2, Value.bool (p0.2.2.2.2.1), Value.bool (p0.2.2.2.2.2)], Value.agg #[Value.int .i64 (p1.1), v3, v4], v5] [Sl RI64 v0 p0.2.1, Sl RI64 v1 p0.2.2.1, Sl RI64 v2 p0.2.2.2.1, Sl RI64 v3 p1.2.1, Sl RI64 v4 p1.2.2, Sl RI64 v5 p2] (fun x : Unit => Value.bool (r)) (fun x l => l) (fun _ l => l) := by
  refine Meets.of (vs := [Value.agg #[Value.int .i64 (p0.1), v0, v1, v2, Value.bool (p0.2.2.2.2.1), Value.bool (p0.2.2.2.2.2)], Value.agg #[Value.int .i64 (p1.1), v3, v4], v5]) Try.func3 rfl Try.ntmps3 rfl fun c => ?_
  unfold m_law39_LabelsCover at h
  refine J.seq ?_
  refine J.region ?_
  refine J.loud (Loud.box (cs := [Value.int .i64 (p0.1), v0, v1, v2, Value.bool (p0.2.2.2.2.1), Value.bool (p0.2.2.2.2.2)]) rfl rfl) rfl fun b1 => ?_
  refine J.loud (Loud.box (cs := [Value.int .i64 (p1.1), v3, v4]) rfl rfl) rfl fun b2 => ?_
  refine J.quiet (Y.assign rfl) rfl ?_
  refine J.done ?_
  refine J.thenN ?_
  refine J.seq ?_
  refine J.region ?_
  refine J.quiet (Y.loadBAll 1 rfl rfl rfl rfl) rfl ?_
  replace h := bnd h; obtain ⟨r3, hr4, h⟩ := h
  refine J.loud (Loud.callL body10 (t__world_Net__Connected fuel v0 v1 v2 r3 hr4) rfl (LentAll.cons (Lent.fact 0 rfl) (LentAll.cons (Lent.fact 1 rfl) (LentAll.cons (Lent.fact 2 rfl) (LentAll.nil)))) (fun _ _ => rfl)) rfl fun x5 => ?_
  refine J.loud (Loud.alloc (cs := [Value.slice none 0 0, Value.slice none 0 0]) rfl rfl) rfl fun b6 => ?_
  refine J.know (Know.one ((Lent.ar (Lent.res 1 rfl) FI64))) fun ho7 => ?_
  refine J.know (Know.one (Lent.sl (Lent.rows (i := 2) (j := 3) rfl rfl FI64I64p))) fun ho8 => ?_
  refine J.storeAll 0 (vs := [x5.1, x5.2.1]) rfl rfl (all1 ho7 (all1 ho8 rfl)) rfl rfl rfl ?_
  refine J.done ?_
  refine J.thenN ?_
  refine J.seq ?_
  refine J.region ?_
  refine J.quiet (Y.fieldB rfl rfl rfl rfl rfl) rfl ?_
  refine J.store1 4 rfl rfl rfl rfl rfl rfl ?_
  refine J.done ?_
  refine J.thenN ?_
  refine J.seq ?_
  refine J.region ?_
  refine J.quiet (Y.loadBAll 4 rfl rfl rfl rfl) rfl ?_
  refine J.quiet (Y.loadBAll 0 rfl rfl rfl rfl) rfl ?_
  replace h := bnd h; obtain ⟨r9, hr10, h⟩ := h
  refine J.loud (Loud.callL body11 (t__law39_Claimed__shape fuel v3 v4 x5.1 x5.2.1 (List.zip x5.2.2 r3.2) r9 hr10) rfl (LentAll.cons (Lent.fact 3 rfl) (LentAll.cons (Lent.fact 4 rfl) (LentAll.cons (Lent.ar (Lent.res 1 rfl) FI64) (LentAll.cons (Lent.rows (i := 2) (j := 3) rfl rfl FI64I64p) (LentAll.nil))))) (fun _ _ => rfl)) rfl fun x11 => ?_
  refine J.quiet (Y.move rfl) rfl ?_
  refine J.quiet (Y.extract rfl rfl) rfl ?_
  refine J.quiet (Y.extract rfl rfl) rfl ?_
  refine J.quiet (Y.extract rfl rfl) rfl ?_
  refine J.quiet (Y.assign rfl) rfl ?_
  refine J.quiet (Y.assign rfl) rfl ?_
  refine J.quiet (Y.assign rfl) rfl ?_
  refine J.done ?_
  refine J.thenN ?_
  refine J.seq ?_
  refine J.region ?_
  refine J.quiet (Y.move rfl) rfl ?_
  refine J.quiet (Y.loadBAll 2 rfl rfl rfl rfl) rfl ?_
  refine J.quiet (Y.move rfl) rfl ?_
  replace h := bnd h; obtain ⟨r12, hr13, h⟩ := h
  refine J.loud (Loud.callL body12 (t_labels_Prove fuel x5.1 x5.2.1 (List.zip x5.2.2 r3.2) x11.1 r12 hr13) rfl (LentAll.cons (Lent.ar (Lent.res 3 rfl) FI64) (LentAll.cons (Lent.rows (i := 4) (j := 5) rfl rfl FI64I64p) (LentAll.cons (Lent.ar (Lent.res 0 rfl) FI64) (LentAll.nil)))) (fun _ _ => rfl)) rfl fun x14 => ?_
  refine J.quiet (Y.move rfl) rfl ?_
  refine J.quiet (Y.extract rfl rfl) rfl ?_
  refine J.quiet (Y.extract rfl rfl) rfl ?_
  refine J.quiet (Y.assign rfl) rfl ?_
  refine J.quiet (Y.assign rfl) rfl ?_
  refine J.done ?_
  refine J.thenN ?_
  refine J.seq ?_
  refine J.seq ?_
  refine J.region ?_
  refine J.quiet (Y.move rfl) rfl ?_
  refine J.quiet (Y.neq rfl rfl) rfl ?_
  refine J.done ?_
  refine J.thenN ?_
  refine J.condD (by exact rfl) (fun hp15 => ?_) (fun hp15 => ?_)
  · replace h := ifP hp15 h
    refine J.seq ?_
    refine J.region ?_
    replace h := bnd h; obtain ⟨r16, hr17, h⟩ := h
    refine J.loud (Loud.callL body13 (t_law39_known fuel  r16 hr17) rfl (LentAll.nil) (fun _ _ => rfl)) rfl fun x18 => ?_
    refine J.quiet (Y.assign rfl) rfl ?_
    refine J.done ?_
    refine J.thenN ?_
    refine J.ret ?_
    refine J.thenR ?_
    obtain rfl := Option.some.inj h
    exact J.retG1 (()) rfl rfl (RV.tmp rfl) (SubM.nil) LentAll.nil
  · replace h := ifN hp15 h
    refine J.skip ?_
    refine J.thenN ?_
    refine J.seq ?_
    refine J.seq ?_
    refine J.region ?_
    refine J.quiet (Y.move rfl) rfl ?_
    refine J.quiet (Y.lenS rfl (Lent.ar (Lent.res 0 rfl) FI64I64p) rfl) rfl ?_
    refine J.quiet (Y.move rfl) rfl ?_
    refine J.quiet (Y.lenS rfl (Lent.ar (Lent.res 1 rfl) FI64) rfl) rfl ?_
    refine J.quiet (Y.neq rfl rfl) rfl ?_
    refine J.done ?_
    refine J.thenN ?_
    refine J.condD (by exact rfl) (fun hp19 => ?_) (fun hp19 => ?_)
    · replace h := ifP hp19 h
      refine J.seq ?_
      refine J.region ?_
      refine J.quiet (Y.assign rfl) rfl ?_
      refine J.done ?_
      refine J.thenN ?_
      refine J.ret ?_
      refine J.thenR ?_
      obtain rfl := Option.some.inj h
      exact J.retG1 (()) rfl rfl (RV.tmp rfl) (SubM.nil) LentAll.nil
    · replace h := ifN hp19 h
      refine J.skip ?_
      refine J.thenN ?_
      refine J.seq ?_
      refine J.region ?_
      refine J.quiet (Y.assign rfl) rfl ?_
      refine J.quiet (Y.assign rfl) rfl ?_
      refine J.done ?_
      refine J.thenN ?_
      refine J.seq ?_
      refine J.midI (A := Int × Int) (B := Unit) (fun a22 => law39_LabelsCover_k1 fuel p2 r3 r9 a22 = some r) (fun a22 b23 => [(2, v5), (7, Value.pointer (some ⟨b6, 0, none⟩)), (9, x11.1), (13, Value.int .i64 (a22.1)), (14, Value.int .u32 (a22.2))]) (fun a22 b23 => [Ar EI64 x11.1 r9.2.1, Blk b6 [x5.1, x5.2.1] 29, Ar EI64 x5.1 r3.1, Ar Enc.raw x5.2.1 x5.2.2, Rws EI64I64p x5.2.2 r3.2]) (fun a22 b23 => [Sl RI64 v0 p0.2.1, Sl RI64 v1 p0.2.2.1, Sl RI64 v2 p0.2.2.2.1, Sl RI64 v3 p1.2.1, Sl RI64 v4 p1.2.2, Sl RI64 v5 p2]) ?_ ?_
      · refine J.seq ?_
        refine J.region ?_
        refine J.quiet (Y.assign rfl) rfl ?_
        refine J.done ?_
        refine J.thenN ?_
        refine J.block ?_
        refine J.loopI (A := Int × Int × Int) (B := Unit) (law39_LabelsCover_s4 fuel p2 r3 r9 r12) (fun a122 b123 => [(2, v5), (7, Value.pointer (some ⟨b6, 0, none⟩)), (9, x11.1), (11, x14), (13, Value.int .i64 (a122.1)), (14, Value.int .u32 (a122.2.1)), (15, Value.int .i64 (a122.2.2))]) (fun a122 b123 => [Ar EI64I64p x14 r12.1, Ar EI64 x11.1 r9.2.1, Blk b6 [x5.1, x5.2.1] 29, Ar EI64 x5.1 r3.1, Ar Enc.raw x5.2.1 x5.2.2, Rws EI64I64p x5.2.2 r3.2]) (fun a122 b123 => [Sl RI64 v0 p0.2.1, Sl RI64 v1 p0.2.2.1, Sl RI64 v2 p0.2.2.2.1, Sl RI64 v3 p1.2.1, Sl RI64 v4 p1.2.2, Sl RI64 v5 p2]) ((0 : Int), (0 : Int), (0 : Int)) (()) h (by repeat (first | exact SubF.nil | refine SubF.cons rfl ?_)) (SubM.cons 0 rfl (SubM.cons 0 rfl (SubM.cons 1 rfl (SubM.cons 1 rfl (SubM.cons 1 rfl (SubM.cons 1 rfl (SubM.nil))))))) (LentAll.refl _ _) ?_
        clear h
        intro k124 a122 b123 h
        unfold law39_LabelsCover_s4 at h
        refine J.seq ?_
        refine J.seq ?_
        refine J.region ?_
        refine J.quiet (Y.move rfl) rfl ?_
        refine J.quiet (Y.move rfl) rfl ?_
        refine J.quiet (Y.lenS rfl (Lent.ar (Lent.res 1 rfl) FI64) rfl) rfl ?_
        refine J.quiet (Y.lss rfl rfl) rfl ?_
        refine J.done ?_
        refine J.thenN ?_
        refine J.condD (by exact rfl) (fun hp125 => ?_) (fun hp125 => ?_)
        · replace h := ifP hp125 h
          refine J.skip ?_
          refine J.thenN ?_
          refine J.seq ?_
          refine J.midI (A := Int × Int) (B := Unit) (fun a128 => law39_LabelsCover_k11 a122 (iter (law39_LabelsCover_s4 fuel p2 r3 r9 r12) k124) a128 = some r) (fun a128 b129 => [(2, v5), (7, Value.pointer (some ⟨b6, 0, none⟩)), (9, x11.1), (11, x14), (13, Value.int .i64 (a128.1)), (14, Value.int .u32 (a128.2)), (15, Value.int .i64 (a122.2.2))]) (fun a128 b129 => [Ar EI64I64p x14 r12.1, Ar EI64 x11.1 r9.2.1, Blk b6 [x5.1, x5.2.1] 29, Ar EI64 x5.1 r3.1, Ar Enc.raw x5.2.1 x5.2.2, Rws EI64I64p x5.2.2 r3.2]) (fun a128 b129 => [Sl RI64 v0 p0.2.1, Sl RI64 v1 p0.2.2.1, Sl RI64 v2 p0.2.2.2.1, Sl RI64 v3 p1.2.1, Sl RI64 v4 p1.2.2, Sl RI64 v5 p2]) ?_ ?_
          · refine J.block ?_
            refine J.seq ?_
            refine J.midI (A := Int) (B := Unit) (fun a131 => law39_LabelsCover_k12 r12 a122 (iter (law39_LabelsCover_s4 fuel p2 r3 r9 r12) k124) a131 = some r) (fun a131 b132 => [(2, v5), (7, Value.pointer (some ⟨b6, 0, none⟩)), (9, x11.1), (11, x14), (13, Value.int .i64 (a131)), (14, Value.int .u32 (a122.2.1)), (15, Value.int .i64 (a122.2.2))]) (fun a131 b132 => [Ar EI64I64p x14 r12.1, Ar EI64 x11.1 r9.2.1, Blk b6 [x5.1, x5.2.1] 29, Ar EI64 x5.1 r3.1, Ar Enc.raw x5.2.1 x5.2.2, Rws EI64I64p x5.2.2 r3.2]) (fun a131 b132 => [Sl RI64 v0 p0.2.1, Sl RI64 v1 p0.2.2.1, Sl RI64 v2 p0.2.2.2.1, Sl RI64 v3 p1.2.1, Sl RI64 v4 p1.2.2, Sl RI64 v5 p2]) ?_ ?_
            · refine J.seq ?_
              refine J.midI (A := Bool) (B := Unit) (fun a137 => law39_LabelsCover_k13 r12 a122 (iter (law39_LabelsCover_s4 fuel p2 r3 r9 r12) k124) a137 = some r) (fun a137 b138 => [(2, v5), (7, Value.pointer (some ⟨b6, 0, none⟩)), (9, x11.1), (11, x14), (13, Value.int .i64 (a122.1)), (14, Value.int .u32 (a122.2.1)), (15, Value.int .i64 (a122.2.2)), (75, Value.bool (a137))]) (fun a137 b138 => [Ar EI64I64p x14 r12.1, Ar EI64 x11.1 r9.2.1, Blk b6 [x5.1, x5.2.1] 29, Ar EI64 x5.1 r3.1, Ar Enc.raw x5.2.1 x5.2.2, Rws EI64I64p x5.2.2 r3.2]) (fun a137 b138 => [Sl RI64 v0 p0.2.1, Sl RI64 v1 p0.2.2.1, Sl RI64 v2 p0.2.2.2.1, Sl RI64 v3 p1.2.1, Sl RI64 v4 p1.2.2, Sl RI64 v5 p2]) ?_ ?_
              · refine JR.start [0, 0, 3, 7, 15, 31, 63, 127, 63, 511, 1023, 63, 63, 6207, 14399, 32767, 65535, 131071, 63, 524287, 1048575] 19 mixedOrders (by decide +kernel) ?_
                refine JR.open (by exact rfl) ?_
                refine JR.qt rfl (SubM.nil) (SubL.nil) (Y.move rfl) HistOk.z ?_
                refine JR.qt rfl (SubM.nil) (SubL.nil) (Y.move rfl) HistOk.z ?_
                replace h := ck_some h; obtain ⟨hc140, h⟩ := h
                refine JR.qt rfl (SubM.cons 1 rfl (SubM.nil)) (SubL.nil) (Y.indexS rfl rfl (Lent.ar (Lent.res 0 rfl) FI64) rfl rfl hc140) HistOk.z ?_
                refine JR.qt rfl (SubM.cons 1 rfl (SubM.nil)) (SubL.nil) (Y.loadS0 rfl (Lent.ar (Lent.res 0 rfl) FI64) rfl rfl rfl RI64c0 hc140) HistOk.z ?_
                refine JR.qt rfl (SubM.nil) (SubL.nil) (Y.geq rfl rfl) HistOk.z ?_
                refine JR.qt rfl (SubM.nil) (SubL.nil) (Y.move rfl) HistOk.z ?_
                refine JR.guardD (by exact rfl) (by exact rfl) (by exact rfl) (fun hp141 => ?_) (fun hp141 => ?_)
                · replace h := ifP hp141 h
                  refine JR.qtG rfl (SubM.nil) (SubL.nil) (Y.fieldB rfl rfl rfl rfl rfl) HistOk.z ?_
                  refine JR.qtG rfl (SubM.cons 2 rfl (SubM.nil)) (SubL.nil) (Y.loadB 0 rfl rfl rfl rfl rfl) HistOk.z ?_
                  refine JR.qtG rfl (SubM.nil) (SubL.nil) (Y.move rfl) HistOk.z ?_
                  replace h := ck_some h; obtain ⟨hc142, h⟩ := h
                  refine JR.know (Know.rws 5 rfl) fun hl143 => ?_
                  refine JR.qtG rfl (SubM.cons 4 rfl (SubM.nil)) (SubL.nil) (Y.indexA 0 rfl rfl rfl rfl rfl hc142.1 (by have q1 := hc142.2; have q2 := hl143; (try simp only [List.length_set] at q1); (try simp only [List.length_set] at q2); (try simp only [List.length_set]); omega)) HistOk.z ?_
                  refine JR.know (Know.rws 5 rfl) fun hl144 => ?_
                  refine JR.qtG rfl (SubM.cons 4 rfl (SubM.nil)) (SubL.nil) (Y.loadRaw 0 rfl rfl hl144 rfl rfl hc142) HistOk.z ?_
                  refine JR.qtG rfl (SubM.nil) (SubL.nil) (Y.move rfl) HistOk.z ?_
                  refine JR.qtG rfl (SubM.nil) (SubL.nil) (Y.move rfl) HistOk.z ?_
                  replace h := ck_some h; obtain ⟨hc145, h⟩ := h
                  refine JR.qtG rfl (SubM.cons 1 rfl (SubM.nil)) (SubL.nil) (Y.indexS rfl rfl (Lent.ar (Lent.res 0 rfl) FI64) rfl rfl hc145) HistOk.z ?_
                  refine JR.qtG rfl (SubM.cons 1 rfl (SubM.nil)) (SubL.nil) (Y.loadS0 rfl (Lent.ar (Lent.res 0 rfl) FI64) rfl rfl rfl RI64c0 hc145) HistOk.z ?_
                  replace h := ck_some h; obtain ⟨hc146, h⟩ := h
                  refine JR.qtG rfl (SubM.cons 5 rfl (SubM.nil)) (SubL.nil) (Y.indexS rfl rfl (Lent.row (j := 0) rfl FI64I64p hc142.1 hc142.2) rfl rfl hc146) HistOk.z ?_
                  refine JR.qtG rfl (SubM.nil) (SubL.nil) (Y.fieldEl rfl rfl rfl rfl rfl) HistOk.z ?_
                  refine JR.qtG rfl (SubM.cons 5 rfl (SubM.nil)) (SubL.nil) (Y.loadS rfl (Lent.row (j := 0) rfl FI64I64p hc142.1 hc142.2) rfl rfl rfl RI64I64pc0 hc146) HistOk.z ?_
                  refine JR.qtG rfl (SubM.nil) (SubL.nil) (Y.move rfl) HistOk.z ?_
                  refine JR.tailD 19 rfl rfl ?_
                  refine J.guardY rfl (Y.gtr rfl rfl) rfl ?_
                  refine J.quiet (Y.pickT rfl rfl) rfl ?_
                  refine J.done ?_
                  refine J.thenN ?_
                  exact J.meetI (decide (a122.2.2 < ((at' (at' r3.2 a122.2.2) (at' r9.2.1 a122.2.2)).1))) (()) h (by repeat (first | exact SubF.nil | refine SubF.cons rfl ?_)) (SubM.refl _) (LentAll.refl _ _)
                · replace h := ifN hp141 h
                  refine JR.guardN rfl rfl rfl rfl ?_
                  refine JR.guardN rfl rfl rfl rfl ?_
                  refine JR.guardN rfl rfl rfl rfl ?_
                  refine JR.guardN rfl rfl rfl rfl ?_
                  refine JR.guardN rfl rfl rfl rfl ?_
                  refine JR.guardN rfl rfl rfl rfl ?_
                  refine JR.guardN rfl rfl rfl rfl ?_
                  refine JR.guardN rfl rfl rfl rfl ?_
                  refine JR.guardN rfl rfl rfl rfl ?_
                  refine JR.guardN rfl rfl rfl rfl ?_
                  refine JR.guardN rfl rfl rfl rfl ?_
                  refine JR.guardN rfl rfl rfl rfl ?_
                  refine JR.guardN rfl rfl rfl rfl ?_
                  refine JR.tailD 19 rfl rfl ?_
                  refine J.guardN rfl rfl rfl ?_
                  refine J.quiet (Y.pickF rfl rfl) rfl ?_
                  refine J.done ?_
                  refine J.thenN ?_
                  exact J.meetI (false) (()) h (by repeat (first | exact SubF.nil | refine SubF.cons rfl ?_)) (SubM.refl _) (LentAll.refl _ _)
              · clear h
                intro a137 b138 h
                unfold law39_LabelsCover_k13 at h
                refine J.cond (by exact rfl) (fun hp139 => ?_) (fun hp139 => ?_)
                · replace h := ifP hp139 h
                  refine J.region ?_
                  refine J.quiet (Y.move rfl) rfl ?_
                  refine J.quiet (Y.addW rfl rfl) rfl ?_
                  refine J.quiet (Y.assign rfl) rfl ?_
                  refine J.done ?_
                  refine J.thenN ?_
                  exact J.meetI (wI .i64 (a122.1 + (1 : Int))) (()) h (by repeat (first | exact SubF.nil | refine SubF.cons rfl ?_)) (SubM.refl _) (LentAll.refl _ _)
                · replace h := ifBN hp139 h
                  refine J.skip ?_
                  refine J.thenN ?_
                  exact J.meetI (a122.1) (()) h (by repeat (first | exact SubF.nil | refine SubF.cons rfl ?_)) (SubM.refl _) (LentAll.refl _ _)
            · clear h
              intro a131 b132 h
              unfold law39_LabelsCover_k12 at h
              refine J.seq ?_
              refine J.region ?_
              refine J.quiet (Y.move rfl) rfl ?_
              refine J.quiet (Y.move rfl) rfl ?_
              replace h := ck_some h; obtain ⟨hc133, h⟩ := h
              refine J.quiet (Y.indexS rfl rfl (Lent.ar (Lent.res 0 rfl) FI64I64p) rfl rfl hc133) rfl ?_
              refine J.quiet (Y.indexEl (i := 0) rfl rfl rfl rfl rfl (by decide)) rfl ?_
              refine J.quiet (Y.loadS rfl (Lent.ar (Lent.res 0 rfl) FI64I64p) rfl rfl rfl RI64I64pc0 hc133) rfl ?_
              refine J.quiet (Y.eql rfl rfl) rfl ?_
              refine J.done ?_
              refine J.thenN ?_
              refine J.condD (by exact rfl) (fun hp134 => ?_) (fun hp134 => ?_)
              · replace h := ifP hp134 h
                refine J.region ?_
                refine J.quiet (Y.move rfl) rfl ?_
                refine J.quiet (Y.move rfl) rfl ?_
                refine J.quiet (Y.conv rfl rfl rfl) rfl ?_
                replace h := ck_some h; obtain ⟨hc135, h⟩ := h
                refine J.quiet (Y.shl rfl rfl hc135) rfl ?_
                refine J.quiet (Y.or rfl rfl) rfl ?_
                refine J.quiet (Y.assign rfl) rfl ?_
                refine J.done ?_
                refine J.inN ?_
                refine J.thenN ?_
                exact J.meetI (a131, (bOr .u32 a122.2.1 (bShl .u32 (1 : Int) (wI .u64 a122.2.2)))) (()) h (by repeat (first | exact SubF.nil | refine SubF.cons rfl ?_)) (SubM.refl _) (LentAll.refl _ _)
              · replace h := ifN hp134 h
                refine J.skip ?_
                refine J.inN ?_
                refine J.thenN ?_
                exact J.meetI (a131, a122.2.1) (()) h (by repeat (first | exact SubF.nil | refine SubF.cons rfl ?_)) (SubM.refl _) (LentAll.refl _ _)
          · clear h
            intro a128 b129 h
            unfold law39_LabelsCover_k11 at h
            refine J.region ?_
            refine J.quiet (Y.move rfl) rfl ?_
            refine J.quiet (Y.addW rfl rfl) rfl ?_
            refine J.quiet (Y.assign rfl) rfl ?_
            refine J.done ?_
            refine J.thenN ?_
            exact J.againI (a128.1, a128.2, (wI .i64 (a122.2.2 + (1 : Int)))) (()) h (by repeat (first | exact SubF.nil | refine SubF.cons rfl ?_)) (SubM.refl _) (LentAll.refl _ _)
        · replace h := ifN hp125 h
          refine J.exit ?_
          refine J.thenX ?_
          refine J.thenX ?_
          refine J.inX ?_
          refine J.thenN ?_
          exact J.meetI (a122.1, a122.2.1) (()) h (by repeat (first | exact SubF.nil | refine SubF.cons rfl ?_)) (SubM.cons 1 rfl (SubM.cons 1 rfl (SubM.cons 1 rfl (SubM.cons 1 rfl (SubM.cons 1 rfl (SubM.nil)))))) (LentAll.refl _ _)
      · clear h
        intro a22 b23 h
        unfold law39_LabelsCover_k1 at h
        refine J.seq ?_
        refine J.region ?_
        refine J.quiet (Y.assign rfl) rfl ?_
        refine J.quiet (Y.assign rfl) rfl ?_
        refine J.quiet (Y.assign rfl) rfl ?_
        refine J.done ?_
        refine J.thenN ?_
        refine J.seq ?_
        refine J.midI (A := Int) (B := Unit) (fun a25 => law39_LabelsCover_k2 fuel r3 r9 a22 a25 = some r) (fun a25 b26 => [(7, Value.pointer (some ⟨b6, 0, none⟩)), (9, x11.1), (13, Value.int .i64 (a22.1)), (14, Value.int .u32 (a22.2)), (16, Value.int .i64 (a25)), (18, Value.int .i64 (0 : Int))]) (fun a25 b26 => [Ar EI64 x11.1 r9.2.1, Blk b6 [x5.1, x5.2.1] 29, Ar EI64 x5.1 r3.1, Ar Enc.raw x5.2.1 x5.2.2, Rws EI64I64p x5.2.2 r3.2]) (fun a25 b26 => [Sl RI64 v0 p0.2.1, Sl RI64 v1 p0.2.2.1, Sl RI64 v2 p0.2.2.2.1, Sl RI64 v3 p1.2.1, Sl RI64 v4 p1.2.2, Sl RI64 v5 p2]) ?_ ?_
        · refine J.seq ?_
          refine J.region ?_
          refine J.quiet (Y.assign rfl) rfl ?_
          refine J.done ?_
          refine J.thenN ?_
          refine J.block ?_
          refine J.loopI (A := Int × Int × Int) (B := Unit) (law39_LabelsCover_s3 fuel p2 r3 r9 a22) (fun a81 b82 => [(2, v5), (7, Value.pointer (some ⟨b6, 0, none⟩)), (9, x11.1), (13, Value.int .i64 (a22.1)), (14, Value.int .u32 (a22.2)), (16, Value.int .i64 (a81.1)), (17, Value.int .u32 (a81.2.1)), (18, Value.int .i64 (0 : Int)), (19, Value.int .i64 (a81.2.2))]) (fun a81 b82 => [Ar EI64 x11.1 r9.2.1, Blk b6 [x5.1, x5.2.1] 29, Ar EI64 x5.1 r3.1, Ar Enc.raw x5.2.1 x5.2.2, Rws EI64I64p x5.2.2 r3.2]) (fun a81 b82 => [Sl RI64 v0 p0.2.1, Sl RI64 v1 p0.2.2.1, Sl RI64 v2 p0.2.2.2.1, Sl RI64 v3 p1.2.1, Sl RI64 v4 p1.2.2, Sl RI64 v5 p2]) ((0 : Int), (0 : Int), (0 : Int)) (()) h (by repeat (first | exact SubF.nil | refine SubF.cons rfl ?_)) (SubM.refl _) (LentAll.refl _ _) ?_
          clear h
          intro k83 a81 b82 h
          unfold law39_LabelsCover_s3 at h
          refine J.seq ?_
          refine J.seq ?_
          refine J.midI (A := Bool) (B := Unit) (fun a85 => law39_LabelsCover_k8 fuel p2 r3 r9 a22 a81 (iter (law39_LabelsCover_s3 fuel p2 r3 r9 a22) k83) a85 = some r) (fun a85 b86 => [(2, v5), (7, Value.pointer (some ⟨b6, 0, none⟩)), (9, x11.1), (13, Value.int .i64 (a22.1)), (14, Value.int .u32 (a22.2)), (16, Value.int .i64 (a81.1)), (17, Value.int .u32 (a81.2.1)), (18, Value.int .i64 (0 : Int)), (19, Value.int .i64 (a81.2.2)), (97, Value.bool (a85))]) (fun a85 b86 => [Ar EI64 x11.1 r9.2.1, Blk b6 [x5.1, x5.2.1] 29, Ar EI64 x5.1 r3.1, Ar Enc.raw x5.2.1 x5.2.2, Rws EI64I64p x5.2.2 r3.2]) (fun a85 b86 => [Sl RI64 v0 p0.2.1, Sl RI64 v1 p0.2.2.1, Sl RI64 v2 p0.2.2.2.1, Sl RI64 v3 p1.2.1, Sl RI64 v4 p1.2.2, Sl RI64 v5 p2]) ?_ ?_
          · refine J.region ?_
            refine J.quiet (Y.move rfl) rfl ?_
            refine J.quiet (Y.addW rfl rfl) rfl ?_
            refine J.quiet (Y.move rfl) rfl ?_
            refine J.quiet (Y.lenS rfl (Lent.fact 5 rfl) rfl) rfl ?_
            refine J.quiet (Y.lss rfl rfl) rfl ?_
            refine J.quiet (Y.move rfl) rfl ?_
            refine J.guardD (by exact rfl) (by exact rfl) (fun hp117 => ?_) (fun hp117 => ?_)
            · replace h := ifP hp117 h
              refine J.guardY rfl (Y.move rfl) rfl ?_
              refine J.guardY rfl (Y.lss rfl rfl) rfl ?_
              refine J.quiet (Y.pickT rfl rfl) rfl ?_
              refine J.done ?_
              refine J.thenN ?_
              exact J.meetI (decide (a81.2.2 < (80 : Int))) (()) h (by repeat (first | exact SubF.nil | refine SubF.cons rfl ?_)) (SubM.refl _) (LentAll.refl _ _)
            · replace h := ifN hp117 h
              refine J.guardN rfl rfl rfl ?_
              refine J.guardN rfl rfl rfl ?_
              refine J.quiet (Y.pickF rfl rfl) rfl ?_
              refine J.done ?_
              refine J.thenN ?_
              exact J.meetI (false) (()) h (by repeat (first | exact SubF.nil | refine SubF.cons rfl ?_)) (SubM.refl _) (LentAll.refl _ _)
          · clear h
            intro a85 b86 h
            unfold law39_LabelsCover_k8 at h
            refine J.cond (by exact rfl) (fun hp87 => ?_) (fun hp87 => ?_)
            · replace h := ifP hp87 h
              refine J.skip ?_
              refine J.thenN ?_
              refine J.seq ?_
              refine J.midI (A := Int × Int) (B := Unit) (fun a90 => law39_LabelsCover_k9 a81 (iter (law39_LabelsCover_s3 fuel p2 r3 r9 a22) k83) a90 = some r) (fun a90 b91 => [(2, v5), (7, Value.pointer (some ⟨b6, 0, none⟩)), (9, x11.1), (13, Value.int .i64 (a22.1)), (14, Value.int .u32 (a22.2)), (16, Value.int .i64 (a90.2)), (17, Value.int .u32 (a90.1)), (18, Value.int .i64 (0 : Int)), (19, Value.int .i64 (a81.2.2))]) (fun a90 b91 => [Ar EI64 x11.1 r9.2.1, Blk b6 [x5.1, x5.2.1] 29, Ar EI64 x5.1 r3.1, Ar Enc.raw x5.2.1 x5.2.2, Rws EI64I64p x5.2.2 r3.2]) (fun a90 b91 => [Sl RI64 v0 p0.2.1, Sl RI64 v1 p0.2.2.1, Sl RI64 v2 p0.2.2.2.1, Sl RI64 v3 p1.2.1, Sl RI64 v4 p1.2.2, Sl RI64 v5 p2]) ?_ ?_
              · refine J.block ?_
                refine J.seq ?_
                refine JR.start [0, 0, 3, 7, 0, 16, 63, 0, 0, 256, 896, 1920, 0, 4096, 16383, 32767, 65535] 14 mixedOrders (by decide +kernel) ?_
                refine JR.open (by exact rfl) ?_
                refine JR.qt rfl (SubM.nil) (SubL.nil) (Y.move rfl) HistOk.z ?_
                refine JR.qt rfl (SubM.nil) (SubL.nil) (Y.move rfl) HistOk.z ?_
                replace h := ck_some h; obtain ⟨hc92, h⟩ := h
                refine JR.qt rfl (SubM.nil) (SubL.cons (List.mem_of_getElem? (i := 5) rfl) (SubL.nil)) (Y.indexS rfl rfl (Lent.fact 0 rfl) rfl rfl hc92) HistOk.z ?_
                refine JR.qt rfl (SubM.nil) (SubL.cons (List.mem_of_getElem? (i := 5) rfl) (SubL.nil)) (Y.loadS0 rfl (Lent.fact 0 rfl) rfl rfl rfl RI64c0 hc92) HistOk.z ?_
                refine JR.qt rfl (SubM.nil) (SubL.nil) (Y.move rfl) HistOk.z ?_
                refine JR.qt rfl (SubM.cons 0 rfl (SubM.nil)) (SubL.nil) (Y.lenS rfl (Lent.ar (Lent.res 0 rfl) FI64) rfl) HistOk.z ?_
                replace h := bnd h; obtain ⟨r93, hr94, h⟩ := h
                refine JR.loud rfl rfl rfl (Loud.callL body14 (t_world_Within fuel  r93 hr94) rfl (LentAll.nil) (fun _ _ => rfl)) rfl (fun x95 => (BsOk.b rfl (BsOk.b rfl (BsOk.b rfl (BsOk.b rfl (BsOk.b rfl (BsOk.b rfl BsOk.z))))))) fun x95 => ?_
                refine JR.qt rfl (SubM.nil) (SubL.nil) (Y.move rfl) (HistOk.h (SubM.nil) (SubL.nil) HistOk.z) ?_
                refine JR.qt rfl (SubM.nil) (SubL.nil) (Y.move rfl) (HistOk.h (SubM.nil) (SubL.nil) HistOk.z) ?_
                refine JR.qt rfl (SubM.nil) (SubL.nil) (Y.addW rfl rfl) (HistOk.h (SubM.nil) (SubL.nil) HistOk.z) ?_
                replace h := ck_some h; obtain ⟨hc96, h⟩ := h
                refine JR.qt rfl (SubM.nil) (SubL.cons (List.mem_of_getElem? (i := 5) rfl) (SubL.nil)) (Y.indexS rfl rfl (Lent.fact 0 rfl) rfl rfl hc96) (HistOk.h (SubM.nil) (SubL.cons (List.mem_of_getElem? (i := 5) rfl) (SubL.nil)) HistOk.z) ?_
                refine JR.qt rfl (SubM.nil) (SubL.cons (List.mem_of_getElem? (i := 5) rfl) (SubL.nil)) (Y.loadS0 rfl (Lent.fact 0 rfl) rfl rfl rfl RI64c0 hc96) (HistOk.h (SubM.nil) (SubL.cons (List.mem_of_getElem? (i := 5) rfl) (SubL.nil)) HistOk.z) ?_
                refine JR.qt rfl (SubM.nil) (SubL.nil) (Y.move rfl) (HistOk.h (SubM.nil) (SubL.nil) HistOk.z) ?_
                refine JR.qt rfl (SubM.cons 0 rfl (SubM.nil)) (SubL.nil) (Y.lenS rfl (Lent.ar (Lent.res 0 rfl) FI64) rfl) (HistOk.h (SubM.cons 0 rfl (SubM.nil)) (SubL.nil) HistOk.z) ?_
                refine JR.tailD 14 rfl rfl ?_
                replace h := bnd h; obtain ⟨r97, hr98, h⟩ := h
                refine J.loud (Loud.callL body14 (t_world_Within fuel  r97 hr98) rfl (LentAll.nil) (fun _ _ => rfl)) rfl fun x99 => ?_
                refine J.quiet (Y.assign rfl) rfl ?_
                refine J.quiet (Y.assign rfl) rfl ?_
                refine J.done ?_
                refine J.thenN ?_
                refine J.seq ?_
                refine J.midI (A := Bool) (B := Unit) (fun a101 => law39_LabelsCover_k10 a81 (iter (law39_LabelsCover_s3 fuel p2 r3 r9 a22) k83) r93 r97 a101 = some r) (fun a101 b102 => [(2, v5), (7, Value.pointer (some ⟨b6, 0, none⟩)), (9, x11.1), (13, Value.int .i64 (a22.1)), (14, Value.int .u32 (a22.2)), (16, Value.int .i64 (a81.1)), (17, Value.int .u32 (a81.2.1)), (18, Value.int .i64 (0 : Int)), (19, Value.int .i64 (a81.2.2)), (20, Value.int .i64 (r93)), (21, Value.int .i64 (r97)), (131, Value.bool (a101))]) (fun a101 b102 => [Ar EI64 x11.1 r9.2.1, Blk b6 [x5.1, x5.2.1] 29, Ar EI64 x5.1 r3.1, Ar Enc.raw x5.2.1 x5.2.2, Rws EI64I64p x5.2.2 r3.2]) (fun a101 b102 => [Sl RI64 v0 p0.2.1, Sl RI64 v1 p0.2.2.1, Sl RI64 v2 p0.2.2.2.1, Sl RI64 v3 p1.2.1, Sl RI64 v4 p1.2.2, Sl RI64 v5 p2]) ?_ ?_
                · refine J.region ?_
                  refine J.quiet (Y.loadBAll 1 rfl rfl rfl rfl) rfl ?_
                  refine J.quiet (Y.move rfl) rfl ?_
                  refine J.quiet (Y.move rfl) rfl ?_
                  replace h := bnd h; obtain ⟨r106, hr107, h⟩ := h
                  refine J.loud (Loud.callL body15 (t_ref01_Port fuel x5.1 x5.2.1 (List.zip x5.2.2 r3.2) r106 hr107) rfl (LentAll.cons (Lent.ar (Lent.res 2 rfl) FI64) (LentAll.cons (Lent.rows (i := 3) (j := 4) rfl rfl FI64I64p) (LentAll.nil))) (fun _ _ => rfl)) rfl fun x108 => ?_
                  refine J.quiet (Y.geq rfl rfl) rfl ?_
                  refine J.quiet (Y.move rfl) rfl ?_
                  refine J.guardD (by exact rfl) (by exact rfl) (fun hp109 => ?_) (fun hp109 => ?_)
                  · replace h := ifP hp109 h
                    refine J.guardY rfl (Y.move rfl) rfl ?_
                    refine J.guardY rfl (Y.move rfl) rfl ?_
                    replace h := bnd h; obtain ⟨r110, hr111, h⟩ := h
                    refine J.loudG rfl (Loud.callL body16 (t_world_Bit fuel  r110 hr111) rfl (LentAll.nil) (fun _ _ => rfl)) rfl fun x112 => ?_
                    refine J.guardY rfl (Y.not rfl) rfl ?_
                    refine J.quiet (Y.pickT rfl rfl) rfl ?_
                    refine J.quiet (Y.move rfl) rfl ?_
                    refine J.guard (by exact rfl) (by exact rfl) (fun hp113 => ?_) (fun hp113 => ?_)
                    · replace h := ifP hp113 h
                      refine J.guardY rfl (Y.move rfl) rfl ?_
                      refine J.guardY rfl (Y.move rfl) rfl ?_
                      replace h := bnd h; obtain ⟨r114, hr115, h⟩ := h
                      refine J.loudG rfl (Loud.callL body16 (t_world_Bit fuel  r114 hr115) rfl (LentAll.nil) (fun _ _ => rfl)) rfl fun x116 => ?_
                      refine J.guardY rfl (Y.not rfl) rfl ?_
                      refine J.quiet (Y.pickT rfl rfl) rfl ?_
                      refine J.done ?_
                      refine J.thenN ?_
                      exact J.meetI ((!r114)) (()) h (by repeat (first | exact SubF.nil | refine SubF.cons rfl ?_)) (SubM.refl _) (LentAll.refl _ _)
                    · replace h := ifBN hp113 h
                      refine J.guardN rfl rfl rfl ?_
                      refine J.guardN rfl rfl rfl ?_
                      refine J.guardN rfl rfl rfl ?_
                      refine J.guardN rfl rfl rfl ?_
                      refine J.quiet (Y.pickF rfl rfl) rfl ?_
                      refine J.done ?_
                      refine J.thenN ?_
                      exact J.meetI (false) (()) h (by repeat (first | exact SubF.nil | refine SubF.cons rfl ?_)) (SubM.refl _) (LentAll.refl _ _)
                  · replace h := ifN hp109 h
                    refine J.guardN rfl rfl rfl ?_
                    refine J.guardN rfl rfl rfl ?_
                    refine J.guardN rfl rfl rfl ?_
                    refine J.guardN rfl rfl rfl ?_
                    refine J.quiet (Y.pickF rfl rfl) rfl ?_
                    refine J.quiet (Y.move rfl) rfl ?_
                    refine J.guardN rfl rfl rfl ?_
                    refine J.guardN rfl rfl rfl ?_
                    refine J.guardN rfl rfl rfl ?_
                    refine J.guardN rfl rfl rfl ?_
                    refine J.quiet (Y.pickF rfl rfl) rfl ?_
                    refine J.done ?_
                    refine J.thenN ?_
                    exact J.meetI (false) (()) h (by repeat (first | exact SubF.nil | refine SubF.cons rfl ?_)) (SubM.refl _) (LentAll.refl _ _)
                · clear h
                  intro a101 b102 h
                  unfold law39_LabelsCover_k10 at h
                  refine J.cond (by exact rfl) (fun hp103 => ?_) (fun hp103 => ?_)
                  · replace h := ifP hp103 h
                    refine J.seq ?_
                    refine J.region ?_
                    refine J.quiet (Y.move rfl) rfl ?_
                    refine J.quiet (Y.move rfl) rfl ?_
                    refine J.quiet (Y.conv rfl rfl rfl) rfl ?_
                    replace h := ck_some h; obtain ⟨hc104, h⟩ := h
                    refine J.quiet (Y.shl rfl rfl hc104) rfl ?_
                    refine J.quiet (Y.move rfl) rfl ?_
                    refine J.quiet (Y.conv rfl rfl rfl) rfl ?_
                    replace h := ck_some h; obtain ⟨hc105, h⟩ := h
                    refine J.quiet (Y.shl rfl rfl hc105) rfl ?_
                    refine J.quiet (Y.or rfl rfl) rfl ?_
                    refine J.quiet (Y.or rfl rfl) rfl ?_
                    refine J.quiet (Y.assign rfl) rfl ?_
                    refine J.done ?_
                    refine J.thenN ?_
                    refine J.region ?_
                    refine J.quiet (Y.move rfl) rfl ?_
                    refine J.quiet (Y.addW rfl rfl) rfl ?_
                    refine J.quiet (Y.assign rfl) rfl ?_
                    refine J.done ?_
                    refine J.inN ?_
                    refine J.thenN ?_
                    exact J.meetI ((bOr .u32 a81.2.1 (bOr .u32 (bShl .u32 (1 : Int) (wI .u64 r93)) (bShl .u32 (1 : Int) (wI .u64 r97)))), (wI .i64 (a81.1 + (1 : Int)))) (()) h (by repeat (first | exact SubF.nil | refine SubF.cons rfl ?_)) (SubM.refl _) (LentAll.refl _ _)
                  · replace h := ifBN hp103 h
                    refine J.skip ?_
                    refine J.inN ?_
                    refine J.thenN ?_
                    exact J.meetI (a81.2.1, a81.1) (()) h (by repeat (first | exact SubF.nil | refine SubF.cons rfl ?_)) (SubM.refl _) (LentAll.refl _ _)
              · clear h
                intro a90 b91 h
                unfold law39_LabelsCover_k9 at h
                refine J.region ?_
                refine J.quiet (Y.move rfl) rfl ?_
                refine J.quiet (Y.addW rfl rfl) rfl ?_
                refine J.quiet (Y.assign rfl) rfl ?_
                refine J.done ?_
                refine J.thenN ?_
                exact J.againI (a90.2, a90.1, (wI .i64 (a81.2.2 + (2 : Int)))) (()) h (by repeat (first | exact SubF.nil | refine SubF.cons rfl ?_)) (SubM.refl _) (LentAll.refl _ _)
            · replace h := ifBN hp87 h
              refine J.exit ?_
              refine J.thenX ?_
              refine J.thenX ?_
              refine J.inX ?_
              refine J.thenN ?_
              exact J.meetI (a81.1) (()) h (by repeat (first | exact SubF.nil | refine SubF.cons rfl ?_)) (SubM.refl _) (LentAll.refl _ _)
        · clear h
          intro a25 b26 h
          unfold law39_LabelsCover_k2 at h
          refine J.seq ?_
          refine J.midI (A := Int) (B := Unit) (fun a28 => law39_LabelsCover_k3 fuel a22 a25 a28 = some r) (fun a28 b29 => [(13, Value.int .i64 (a22.1)), (16, Value.int .i64 (a25)), (18, Value.int .i64 (a28))]) (fun a28 b29 => []) (fun a28 b29 => [Sl RI64 v0 p0.2.1, Sl RI64 v1 p0.2.2.1, Sl RI64 v2 p0.2.2.2.1, Sl RI64 v3 p1.2.1, Sl RI64 v4 p1.2.2, Sl RI64 v5 p2]) ?_ ?_
          · refine J.seq ?_
            refine J.region ?_
            refine J.quiet (Y.assign rfl) rfl ?_
            refine J.done ?_
            refine J.thenN ?_
            refine J.block ?_
            refine J.loopI (A := Int × Int) (B := Unit) (law39_LabelsCover_s1 fuel r3 r9 a22 a25) (fun a41 b42 => [(7, Value.pointer (some ⟨b6, 0, none⟩)), (9, x11.1), (13, Value.int .i64 (a22.1)), (14, Value.int .u32 (a22.2)), (16, Value.int .i64 (a25)), (18, Value.int .i64 (a41.1)), (22, Value.int .i64 (a41.2))]) (fun a41 b42 => [Ar EI64 x11.1 r9.2.1, Blk b6 [x5.1, x5.2.1] 29, Ar EI64 x5.1 r3.1, Ar Enc.raw x5.2.1 x5.2.2, Rws EI64I64p x5.2.2 r3.2]) (fun a41 b42 => [Sl RI64 v0 p0.2.1, Sl RI64 v1 p0.2.2.1, Sl RI64 v2 p0.2.2.2.1, Sl RI64 v3 p1.2.1, Sl RI64 v4 p1.2.2, Sl RI64 v5 p2]) ((0 : Int), (0 : Int)) (()) h (by repeat (first | exact SubF.nil | refine SubF.cons rfl ?_)) (SubM.refl _) (LentAll.refl _ _) ?_
            clear h
            intro k43 a41 b42 h
            unfold law39_LabelsCover_s1 at h
            refine J.seq ?_
            refine J.seq ?_
            refine J.region ?_
            refine J.quiet (Y.move rfl) rfl ?_
            refine J.quiet (Y.move rfl) rfl ?_
            refine J.quiet (Y.lenS rfl (Lent.ar (Lent.res 0 rfl) FI64) rfl) rfl ?_
            refine J.quiet (Y.lss rfl rfl) rfl ?_
            refine J.done ?_
            refine J.thenN ?_
            refine J.condD (by exact rfl) (fun hp44 => ?_) (fun hp44 => ?_)
            · replace h := ifP hp44 h
              refine J.skip ?_
              refine J.thenN ?_
              refine J.seq ?_
              refine J.midI (A := Int) (B := Unit) (fun a46 => law39_LabelsCover_k5 a41 (iter (law39_LabelsCover_s1 fuel r3 r9 a22 a25) k43) a46 = some r) (fun a46 b47 => [(7, Value.pointer (some ⟨b6, 0, none⟩)), (9, x11.1), (13, Value.int .i64 (a22.1)), (14, Value.int .u32 (a22.2)), (16, Value.int .i64 (a25)), (18, Value.int .i64 (a46)), (22, Value.int .i64 (a41.2))]) (fun a46 b47 => [Ar EI64 x11.1 r9.2.1, Blk b6 [x5.1, x5.2.1] 29, Ar EI64 x5.1 r3.1, Ar Enc.raw x5.2.1 x5.2.2, Rws EI64I64p x5.2.2 r3.2]) (fun a46 b47 => [Sl RI64 v0 p0.2.1, Sl RI64 v1 p0.2.2.1, Sl RI64 v2 p0.2.2.2.1, Sl RI64 v3 p1.2.1, Sl RI64 v4 p1.2.2, Sl RI64 v5 p2]) ?_ ?_
              · refine J.block ?_
                refine J.seq ?_
                refine J.midI (A := Int) (B := Unit) (fun a49 => law39_LabelsCover_k6 fuel r3 a22 a41 (iter (law39_LabelsCover_s1 fuel r3 r9 a22 a25) k43) a49 = some r) (fun a49 b50 => [(7, Value.pointer (some ⟨b6, 0, none⟩)), (9, x11.1), (13, Value.int .i64 (a22.1)), (14, Value.int .u32 (a22.2)), (16, Value.int .i64 (a25)), (18, Value.int .i64 (a49)), (22, Value.int .i64 (a41.2))]) (fun a49 b50 => [Ar EI64 x11.1 r9.2.1, Blk b6 [x5.1, x5.2.1] 29, Ar EI64 x5.1 r3.1, Ar Enc.raw x5.2.1 x5.2.2, Rws EI64I64p x5.2.2 r3.2]) (fun a49 b50 => [Sl RI64 v0 p0.2.1, Sl RI64 v1 p0.2.2.1, Sl RI64 v2 p0.2.2.2.1, Sl RI64 v3 p1.2.1, Sl RI64 v4 p1.2.2, Sl RI64 v5 p2]) ?_ ?_
                · refine J.seq ?_
                  refine J.region ?_
                  refine J.quiet (Y.move rfl) rfl ?_
                  refine J.quiet (Y.move rfl) rfl ?_
                  replace h := bnd h; obtain ⟨r73, hr74, h⟩ := h
                  refine J.loud (Loud.callL body16 (t_world_Bit fuel  r73 hr74) rfl (LentAll.nil) (fun _ _ => rfl)) rfl fun x75 => ?_
                  refine J.done ?_
                  refine J.thenN ?_
                  refine J.cond (by exact rfl) (fun hp76 => ?_) (fun hp76 => ?_)
                  · replace h := ifP hp76 h
                    refine J.region ?_
                    refine J.quiet (Y.move rfl) rfl ?_
                    refine J.quiet (Y.addW rfl rfl) rfl ?_
                    refine J.quiet (Y.assign rfl) rfl ?_
                    refine J.done ?_
                    refine J.thenN ?_
                    exact J.meetI (wI .i64 (a41.1 + (1 : Int))) (()) h (by repeat (first | exact SubF.nil | refine SubF.cons rfl ?_)) (SubM.refl _) (LentAll.refl _ _)
                  · replace h := ifBN hp76 h
                    refine J.skip ?_
                    refine J.thenN ?_
                    exact J.meetI (a41.1) (()) h (by repeat (first | exact SubF.nil | refine SubF.cons rfl ?_)) (SubM.refl _) (LentAll.refl _ _)
                · clear h
                  intro a49 b50 h
                  unfold law39_LabelsCover_k6 at h
                  refine J.seq ?_
                  refine J.region ?_
                  refine J.quiet (Y.assign rfl) rfl ?_
                  refine J.done ?_
                  refine J.thenN ?_
                  refine J.block ?_
                  refine J.loopI (A := Int) (B := Unit) (law39_LabelsCover_s2 fuel r3 a22 a41 (iter (law39_LabelsCover_s1 fuel r3 r9 a22 a25) k43) a49) (fun a53 b54 => [(7, Value.pointer (some ⟨b6, 0, none⟩)), (9, x11.1), (13, Value.int .i64 (a22.1)), (14, Value.int .u32 (a22.2)), (16, Value.int .i64 (a25)), (18, Value.int .i64 (a49)), (22, Value.int .i64 (a41.2)), (23, Value.int .i64 (a53))]) (fun a53 b54 => [Ar EI64 x11.1 r9.2.1, Blk b6 [x5.1, x5.2.1] 29, Ar EI64 x5.1 r3.1, Ar Enc.raw x5.2.1 x5.2.2, Rws EI64I64p x5.2.2 r3.2]) (fun a53 b54 => [Sl RI64 v0 p0.2.1, Sl RI64 v1 p0.2.2.1, Sl RI64 v2 p0.2.2.2.1, Sl RI64 v3 p1.2.1, Sl RI64 v4 p1.2.2, Sl RI64 v5 p2]) (0 : Int) (()) h (by repeat (first | exact SubF.nil | refine SubF.cons rfl ?_)) (SubM.refl _) (LentAll.refl _ _) ?_
                  clear h
                  intro k55 a53 b54 h
                  unfold law39_LabelsCover_s2 at h
                  refine J.seq ?_
                  refine J.seq ?_
                  refine J.region ?_
                  refine J.quiet (Y.move rfl) rfl ?_
                  refine J.quiet (Y.fieldB rfl rfl rfl rfl rfl) rfl ?_
                  refine J.quiet (Y.loadB 1 rfl rfl rfl rfl rfl) rfl ?_
                  refine J.quiet (Y.move rfl) rfl ?_
                  replace h := ck_some h; obtain ⟨hc56, h⟩ := h
                  refine J.quiet (Y.indexN rfl rfl (Lent.rows (i := 3) (j := 4) rfl rfl FI64I64p) rfl rfl hc56) rfl ?_
                  refine J.know (Know.rws 4 rfl) fun hl57 => ?_
                  refine J.quiet (Y.loadRaw 3 rfl rfl hl57 rfl rfl hc56) rfl ?_
                  refine J.quiet (Y.lenS rfl (Lent.row (j := 4) rfl FI64I64p hc56.1 hc56.2) rfl) rfl ?_
                  refine J.quiet (Y.lss rfl rfl) rfl ?_
                  refine J.done ?_
                  refine J.thenN ?_
                  refine J.condD (by exact rfl) (fun hp58 => ?_) (fun hp58 => ?_)
                  · replace h := ifP hp58 h
                    refine J.skip ?_
                    refine J.thenN ?_
                    refine J.seq ?_
                    refine J.block ?_
                    refine J.seq ?_
                    refine J.midI (A := Bool) (B := Unit) (fun a60 => law39_LabelsCover_k7 a53 (iter (law39_LabelsCover_s2 fuel r3 a22 a41 (iter (law39_LabelsCover_s1 fuel r3 r9 a22 a25) k43) a49) k55) a60 = some r) (fun a60 b61 => [(7, Value.pointer (some ⟨b6, 0, none⟩)), (9, x11.1), (13, Value.int .i64 (a22.1)), (14, Value.int .u32 (a22.2)), (16, Value.int .i64 (a25)), (18, Value.int .i64 (a49)), (22, Value.int .i64 (a41.2)), (23, Value.int .i64 (a53)), (181, Value.bool (a60))]) (fun a60 b61 => [Ar EI64 x11.1 r9.2.1, Blk b6 [x5.1, x5.2.1] 29, Ar EI64 x5.1 r3.1, Ar Enc.raw x5.2.1 x5.2.2, Rws EI64I64p x5.2.2 r3.2]) (fun a60 b61 => [Sl RI64 v0 p0.2.1, Sl RI64 v1 p0.2.2.1, Sl RI64 v2 p0.2.2.2.1, Sl RI64 v3 p1.2.1, Sl RI64 v4 p1.2.2, Sl RI64 v5 p2]) ?_ ?_
                    · refine J.region ?_
                      refine J.quiet (Y.move rfl) rfl ?_
                      refine J.quiet (Y.move rfl) rfl ?_
                      replace h := bnd h; obtain ⟨r63, hr64, h⟩ := h
                      refine J.loud (Loud.callL body16 (t_world_Bit fuel  r63 hr64) rfl (LentAll.nil) (fun _ _ => rfl)) rfl fun x65 => ?_
                      refine J.quiet (Y.not rfl) rfl ?_
                      refine J.quiet (Y.move rfl) rfl ?_
                      refine J.guard (by exact rfl) (by exact rfl) (fun hp66 => ?_) (fun hp66 => ?_)
                      · replace h := ifP hp66 h
                        refine J.guardY rfl (Y.move rfl) rfl ?_
                        refine J.guardY rfl (Y.fieldB rfl rfl rfl rfl rfl) rfl ?_
                        refine J.guardY rfl (Y.loadB 1 rfl rfl rfl rfl rfl) rfl ?_
                        refine J.guardY rfl (Y.move rfl) rfl ?_
                        replace h := ck_some h; obtain ⟨hc67, h⟩ := h
                        refine J.guardY rfl (Y.indexN rfl rfl (Lent.rows (i := 3) (j := 4) rfl rfl FI64I64p) rfl rfl hc67) rfl ?_
                        refine J.know (Know.rws 4 rfl) fun hl68 => ?_
                        refine J.guardY rfl (Y.loadRaw 3 rfl rfl hl68 rfl rfl hc67) rfl ?_
                        refine J.guardY rfl (Y.move rfl) rfl ?_
                        replace h := ck_some h; obtain ⟨hc69, h⟩ := h
                        refine J.guardY rfl (Y.indexS rfl rfl (Lent.row (j := 4) rfl FI64I64p hc67.1 hc67.2) rfl rfl hc69) rfl ?_
                        refine J.guardY rfl (Y.fieldEl rfl rfl rfl rfl rfl) rfl ?_
                        refine J.guardY rfl (Y.loadS rfl (Lent.row (j := 4) rfl FI64I64p hc67.1 hc67.2) rfl rfl rfl RI64I64pc0 hc69) rfl ?_
                        replace h := bnd h; obtain ⟨r70, hr71, h⟩ := h
                        refine J.loudG rfl (Loud.callL body16 (t_world_Bit fuel  r70 hr71) rfl (LentAll.nil) (fun _ _ => rfl)) rfl fun x72 => ?_
                        refine J.guardY rfl (Y.not rfl) rfl ?_
                        refine J.quiet (Y.pickT rfl rfl) rfl ?_
                        refine J.done ?_
                        refine J.thenN ?_
                        exact J.meetI ((!r70)) (()) h (by repeat (first | exact SubF.nil | refine SubF.cons rfl ?_)) (SubM.refl _) (LentAll.refl _ _)
                      · replace h := ifBN hp66 h
                        refine J.guardN rfl rfl rfl ?_
                        refine J.guardN rfl rfl rfl ?_
                        refine J.guardN rfl rfl rfl ?_
                        refine J.guardN rfl rfl rfl ?_
                        refine J.guardN rfl rfl rfl ?_
                        refine J.guardN rfl rfl rfl ?_
                        refine J.guardN rfl rfl rfl ?_
                        refine J.guardN rfl rfl rfl ?_
                        refine J.guardN rfl rfl rfl ?_
                        refine J.guardN rfl rfl rfl ?_
                        refine J.guardN rfl rfl rfl ?_
                        refine J.guardN rfl rfl rfl ?_
                        refine J.quiet (Y.pickF rfl rfl) rfl ?_
                        refine J.done ?_
                        refine J.thenN ?_
                        exact J.meetI (false) (()) h (by repeat (first | exact SubF.nil | refine SubF.cons rfl ?_)) (SubM.refl _) (LentAll.refl _ _)
                    · clear h
                      intro a60 b61 h
                      unfold law39_LabelsCover_k7 at h
                      refine J.cond (by exact rfl) (fun hp62 => ?_) (fun hp62 => ?_)
                      · replace h := ifP hp62 h
                        refine J.seq ?_
                        refine J.region ?_
                        refine J.quiet (Y.assign rfl) rfl ?_
                        refine J.done ?_
                        refine J.thenN ?_
                        refine J.ret ?_
                        refine J.inR ?_
                        refine J.thenR ?_
                        refine J.thenR ?_
                        refine J.inR ?_
                        refine J.inR ?_
                        refine J.thenR ?_
                        refine J.thenR ?_
                        refine J.inR ?_
                        refine J.thenR ?_
                        obtain rfl := Option.some.inj h
                        exact J.retG1 (()) rfl rfl (RV.tmp rfl) (SubM.nil) LentAll.nil
                      · replace h := ifBN hp62 h
                        refine J.skip ?_
                        refine J.inN ?_
                        refine J.thenN ?_
                        refine J.region ?_
                        refine J.quiet (Y.move rfl) rfl ?_
                        refine J.quiet (Y.addW rfl rfl) rfl ?_
                        refine J.quiet (Y.assign rfl) rfl ?_
                        refine J.done ?_
                        refine J.thenN ?_
                        exact J.againI (wI .i64 (a53 + (1 : Int))) (()) h (by repeat (first | exact SubF.nil | refine SubF.cons rfl ?_)) (SubM.refl _) (LentAll.refl _ _)
                  · replace h := ifN hp58 h
                    refine J.exit ?_
                    refine J.thenX ?_
                    refine J.thenX ?_
                    refine J.inX ?_
                    refine J.inN ?_
                    refine J.thenN ?_
                    exact J.meetI (a49) (()) h (by repeat (first | exact SubF.nil | refine SubF.cons rfl ?_)) (SubM.refl _) (LentAll.refl _ _)
              · clear h
                intro a46 b47 h
                unfold law39_LabelsCover_k5 at h
                refine J.region ?_
                refine J.quiet (Y.move rfl) rfl ?_
                refine J.quiet (Y.addW rfl rfl) rfl ?_
                refine J.quiet (Y.assign rfl) rfl ?_
                refine J.done ?_
                refine J.thenN ?_
                exact J.againI (a46, (wI .i64 (a41.2 + (1 : Int)))) (()) h (by repeat (first | exact SubF.nil | refine SubF.cons rfl ?_)) (SubM.refl _) (LentAll.refl _ _)
            · replace h := ifN hp44 h
              refine J.exit ?_
              refine J.thenX ?_
              refine J.thenX ?_
              refine J.inX ?_
              refine J.thenN ?_
              exact J.meetI (a41.1) (()) h (by repeat (first | exact SubF.nil | refine SubF.cons rfl ?_)) (SubM.nil) (LentAll.refl _ _)
          · clear h
            intro a28 b29 h
            unfold law39_LabelsCover_k3 at h
            refine J.seq ?_
            refine J.midI (A := Bool) (B := Unit) (fun a31 => law39_LabelsCover_k4  a31 = some r) (fun a31 b32 => [(6, Value.bool (a31))]) (fun a31 b32 => []) (fun a31 b32 => [Sl RI64 v0 p0.2.1, Sl RI64 v1 p0.2.2.1, Sl RI64 v2 p0.2.2.2.1, Sl RI64 v3 p1.2.1, Sl RI64 v4 p1.2.2, Sl RI64 v5 p2]) ?_ ?_
            · refine J.region ?_
              replace h := bnd h; obtain ⟨r33, hr34, h⟩ := h
              refine J.loud (Loud.callL body13 (t_law39_known fuel  r33 hr34) rfl (LentAll.nil) (fun _ _ => rfl)) rfl fun x35 => ?_
              refine J.quiet (Y.move rfl) rfl ?_
              refine J.guard (by exact rfl) (by exact rfl) (fun hp36 => ?_) (fun hp36 => ?_)
              · replace h := ifP hp36 h
                refine J.guardY rfl (Y.move rfl) rfl ?_
                refine J.guardY rfl (Y.move rfl) rfl ?_
                refine J.guardY rfl (Y.leq rfl rfl) rfl ?_
                refine J.quiet (Y.pickT rfl rfl) rfl ?_
                refine J.quiet (Y.move rfl) rfl ?_
                refine J.guardD (by exact rfl) (by exact rfl) (fun hp37 => ?_) (fun hp37 => ?_)
                · replace h := ifP hp37 h
                  refine J.guardY rfl (Y.move rfl) rfl ?_
                  refine J.guardY rfl (Y.move rfl) rfl ?_
                  refine J.guardY rfl (Y.eql rfl rfl) rfl ?_
                  refine J.quiet (Y.pickT rfl rfl) rfl ?_
                  refine J.quiet (Y.assign rfl) rfl ?_
                  refine J.done ?_
                  refine J.thenN ?_
                  exact J.meetI (decide (a28 = a22.1)) (()) h (by repeat (first | exact SubF.nil | refine SubF.cons rfl ?_)) (SubM.refl _) (LentAll.refl _ _)
                · replace h := ifN hp37 h
                  refine J.guardN rfl rfl rfl ?_
                  refine J.guardN rfl rfl rfl ?_
                  refine J.guardN rfl rfl rfl ?_
                  refine J.quiet (Y.pickF rfl rfl) rfl ?_
                  refine J.quiet (Y.assign rfl) rfl ?_
                  refine J.done ?_
                  refine J.thenN ?_
                  exact J.meetI (false) (()) h (by repeat (first | exact SubF.nil | refine SubF.cons rfl ?_)) (SubM.refl _) (LentAll.refl _ _)
              · replace h := ifBN hp36 h
                refine J.guardN rfl rfl rfl ?_
                refine J.guardN rfl rfl rfl ?_
                refine J.guardN rfl rfl rfl ?_
                refine J.quiet (Y.pickF rfl rfl) rfl ?_
                refine J.quiet (Y.move rfl) rfl ?_
                refine J.guardN rfl rfl rfl ?_
                refine J.guardN rfl rfl rfl ?_
                refine J.guardN rfl rfl rfl ?_
                refine J.quiet (Y.pickF rfl rfl) rfl ?_
                refine J.quiet (Y.assign rfl) rfl ?_
                refine J.done ?_
                refine J.thenN ?_
                exact J.meetI (false) (()) h (by repeat (first | exact SubF.nil | refine SubF.cons rfl ?_)) (SubM.refl _) (LentAll.refl _ _)
            · clear h
              intro a31 b32 h
              unfold law39_LabelsCover_k4 at h
              refine J.ret ?_
              obtain rfl := Option.some.inj h
              exact J.retG1 (()) rfl rfl (RV.tmp rfl) (SubM.refl _) LentAll.nil

end Go.Proofs.Ytmajgimhmfeliaa
end
section
set_option linter.unusedVariables false
set_option linter.unusedSimpArgs false
namespace Go.Proofs.Ytmajgimhmfeliaa
open Go.Sx
theorem indC {p q : Prop} (h : p ↔ q) : ind p = ind q := by rw [propext h]
theorem sumN_zero {f : Nat → Nat} {n : Nat} (h : ∀ v, v < n → f v = 0) : sumN f n = 0 := by
  rw [sumN_eq (h := fun _ => 0) h, sumN_const, Nat.zero_mul]

theorem sumN_uniq {P : Nat → Prop} {Q : Prop} {a n : Nat} (h1 : ∀ u, u < n → P u → Q ∧ u = a) (h2 : Q → a < n ∧ P a) : sumN (fun u => ind (P u)) n = ind Q := by
  by_cases hQ : Q
  · obtain ⟨ha, hP⟩ := h2 hQ
    rw [sumN_eq (h := fun u => ind (u = a)) (fun u hu => indC ⟨fun h => (h1 u hu h).2, fun h => h ▸ hP⟩), sumN_delta, ind1 ha, ind1 hQ]
  · rw [ind0 hQ]
    exact sumN_zero fun u hu => ind0 fun h => hQ (h1 u hu h).1

theorem sumN_lt {f h : Nat → Nat} {n : Nat} (hle : ∀ v, v < n → f v ≤ h v) {a : Nat} (ha : a < n) (hlt : f a + 1 ≤ h a) : sumN f n + 1 ≤ sumN h n := by
  have e : sumN (fun v => f v + ind (v = a)) n = sumN f n + 1 := by rw [sumN_add, sumN_delta, ind1 ha]
  rw [← e]
  refine sumN_le fun v hv => ?_
  rcases ind_cases (v = a) with ⟨rfl, e⟩ | ⟨_, e⟩
  · omega
  · have := hle v hv; omega

theorem bit_eq {c k : Nat} (hc : c < 4294967296) (hk : k < 32) : m_world_Bit 1000 (c : Int) (k : Int) = some (c.testBit k) := by
  have hw : wI .u64 (k : Int) = (k : Int) := by
    show (k : Int) % 2 ^ 64 = (k : Int)
    omega
  unfold m_world_Bit world_Bit_k1
  rw [if_pos (by omega), if_pos (by omega), hw, ckT (by omega)]
  congr 1
  rw [Bool.eq_iff_iff, decide_eq_true_eq]
  exact hasBit hk hc

theorem pow_lt32 {k : Nat} (hk : k < 32) : 2 ^ k < 4294967296 := by
  have : 2 ^ k < 2 ^ 32 := Nat.pow_lt_pow_right (by decide) hk
  exact this

theorem or_lt32 {a b : Nat} (ha : a < 4294967296) (hb : b < 4294967296) : a ||| b < 4294967296 := Nat.or_lt_two_pow (n := 32) ha hb

theorem wu64 (k : Nat) (hk : k < 1000) : wI .u64 (k : Int) = (k : Int) := by
  show (k : Int) % 2 ^ 64 = (k : Int)
  omega

section
variable {g : GR} {st : List Int} {l : List (Int × Int)}
theorem pairs_eq (hC : CoverOK g st l) (hr : ∀ v : Nat, v < g.2.length → -1 ≤ ptn g st v ∧ ptn g st v ≤ (g.2.length : Int) - 1) :
    sumN (fun v => ind ((v : Int) < ptn g st v)) g.2.length = sumN (fun v => ind ((at' l (v : Int)).1 = 1)) g.2.length := by
  -- by the greater and the smaller end of a pair
  have hA : sumN (fun v => ind ((at' l (v : Int)).1 = 1)) g.2.length = sumN (fun v => ind ((v : Int) < ptn g st v ∧ (at' l (v : Int)).1 = 1)) g.2.length + sumN (fun v => ind (0 ≤ ptn g st v ∧ ptn g st v < (v : Int) ∧ (at' l (v : Int)).1 = 1)) g.2.length := by
    rw [← sumN_add]
    refine sumN_eq fun v hv => ?_
    by_cases h1 : (at' l (v : Int)).1 = 1
    · rw [ind1 h1]
      have h0 : 0 ≤ ptn g st v := by
        by_cases hc : ptn g st v < 0
        · have := hC.no v hv hc; omega
        · omega
      have hne : ptn g st v ≠ v := fun he => by
        have := (hC.pt v hv h0).2
        rw [he] at this; omega
      by_cases h2 : (v : Int) < ptn g st v
      · rw [ind1 ⟨h2, h1⟩, ind0 (fun hc => by omega)]
      · rw [ind0 (fun hc => h2 hc.1), ind1 ⟨h0, by omega, h1⟩]
    · rw [ind0 h1, ind0 (fun hc => h1 hc.2), ind0 (fun hc => h1 hc.2.2)]
  have hB : sumN (fun v => ind ((v : Int) < ptn g st v)) g.2.length = sumN (fun v => ind ((v : Int) < ptn g st v ∧ (at' l (v : Int)).1 = 1)) g.2.length + sumN (fun v => ind ((v : Int) < ptn g st v ∧ (at' l (v : Int)).1 = 0)) g.2.length := by
    rw [← sumN_add]
    refine sumN_eq fun v hv => ?_
    by_cases h2 : (v : Int) < ptn g st v
    · rw [ind1 h2]
      rcases hC.two v hv with h | h
      · rw [ind0 (fun hc => by omega), ind1 ⟨h2, h⟩]
      · rw [ind1 ⟨h2, h⟩, ind0 (fun hc => by omega)]
    · rw [ind0 h2, ind0 (fun hc => h2 hc.1), ind0 (fun hc => h2 hc.1)]
  have hS : sumN (fun v => ind (0 ≤ ptn g st v ∧ ptn g st v < (v : Int) ∧ (at' l (v : Int)).1 = 1)) g.2.length = sumN (fun v => ind ((v : Int) < ptn g st v ∧ (at' l (v : Int)).1 = 0)) g.2.length := by
    have e1 : sumN (fun v => ind (0 ≤ ptn g st v ∧ ptn g st v < (v : Int) ∧ (at' l (v : Int)).1 = 1)) g.2.length = sumN (fun v => sumN (fun u => ind (ptn g st v = (u : Int) ∧ u < v ∧ (at' l (v : Int)).1 = 1)) g.2.length) g.2.length := by
      refine sumN_eq fun v hv => ?_
      refine (sumN_uniq (a := (ptn g st v).toNat) (fun u hu h => ⟨⟨by omega, by omega, h.2.2⟩, by omega⟩) fun h => ⟨by have := hr v hv; omega, by omega, by omega, h.2.2⟩).symm
    have e2 : sumN (fun v => ind ((v : Int) < ptn g st v ∧ (at' l (v : Int)).1 = 0)) g.2.length = sumN (fun u => sumN (fun v => ind (ptn g st v = (u : Int) ∧ u < v ∧ (at' l (v : Int)).1 = 1)) g.2.length) g.2.length := by
      refine sumN_eq fun u hu => ?_
      refine (sumN_uniq (a := (ptn g st u).toNat) (fun v hv h => ?_) fun h => ?_).symm
      · obtain ⟨h1, h2, h3⟩ := h
        obtain ⟨m1, m2⟩ := hC.pt v hv (by omega)
        rw [h1] at m1 m2
        have eu : Int.toNat (u : Int) = u := by omega
        rw [eu] at m1
        exact ⟨⟨by omega, by omega⟩, by omega⟩
      · obtain ⟨h1, h2⟩ := h
        have hru := hr u hu
        obtain ⟨m1, m2⟩ := hC.pt u hu (by omega)
        obtain ⟨q, hq⟩ : ∃ q : Nat, ptn g st u = q := ⟨(ptn g st u).toNat, by omega⟩
        have eq : (ptn g st u).toNat = q := by omega
        rw [eq] at m1 ⊢
        rw [hq] at m2 hru h1
        exact ⟨by omega, m1, by omega, by omega⟩
    rw [e1, sumN_swap, e2]
  omega

/-- the last loop -/
theorem cover_last (hV : VM g.1 g.2) (hst : st.length = g.2.length) (kind : Int) (lb : List (Int × Int)) (hC : CoverOK g st l) {c : Nat} (hc : c < 4294967296) (hcb : ∀ v : Nat, v < g.2.length → (c.testBit v = true ↔ (at' l (v : Int)).1 = 1))
    {pairs size : Nat} (hpn : pairs ≤ 1000) (hp : pairs = sumN (fun v => ind ((at' l (v : Int)).1 = 1)) g.2.length) (hs : size ≤ pairs) : law39_LabelsCover_k2 1000 g (kind, st, lb) ((pairs : Int), (c : Int)) (size : Int) = some true := by
  have h24 := hV.n24
  unfold law39_LabelsCover_k2
  refine iter_eq (fun s : Int × Int => ∃ k : Nat, s.2 = k ∧ k ≤ g.2.length ∧ s.1 = (sumN (fun v => ind ((at' l (v : Int)).1 = 1)) k : Nat) ∧ s.1 ≤ (k : Int)) (fun s => g.2.length - s.2.toNat) ?_ 1000 _ ⟨0, rfl, by omega, rfl, by simp⟩ (by dsimp only; omega)
  rintro ⟨met, i⟩ ag ⟨k, hk, hk2, hm, hmk⟩ hrec
  dsimp only at hk hm hmk
  subst hk
  unfold law39_LabelsCover_s1
  dsimp only
  by_cases hkn : (k : Int) < (st.length : Int)
  · rw [if_pos hkn, bindS (bit_eq hc (by omega))]
    have hd := (hV.vg.node k (by show k < g.2.length; omega)).deg
    have e : (at' g.2 (k : Int)).length = (row (g.1, g.2) k).length := rfl
    dsimp only at hd
    have inner : ∀ met' : Int, met' = (sumN (fun v => ind ((at' l (v : Int)).1 = 1)) (k + 1) : Nat) → met' ≤ (k : Int) + 1 → law39_LabelsCover_k6 1000 g ((pairs : Int), (c : Int)) (met, (k : Int)) ag met' = some true := by
      intro met' hm' hm2
      unfold law39_LabelsCover_k6
      refine iter_eq (fun s : Int => ∃ j : Nat, s = j ∧ j ≤ (at' g.2 (k : Int)).length) (fun s => (at' g.2 (k : Int)).length - s.toNat) ?_ 1000 _ ⟨0, rfl, by omega⟩ (by omega)
      rintro i ag2 ⟨j, rfl, hj⟩ hrec2
      unfold law39_LabelsCover_s2 law39_LabelsCover_k7
      dsimp only
      rw [ckT (by omega)]
      by_cases hjd : (j : Int) < ((at' g.2 (k : Int)).length : Int)
      · rw [if_pos hjd, bindS (bit_eq hc (by omega)), wr (by omega) (by omega)]
        have go := hrec2 ((j : Int) + 1) ⟨j + 1, by omega, by omega⟩ (by omega)
        cases hb : c.testBit k with
        | true => rw [if_neg (by simp), if_neg (by simp)]; exact go
        | false =>
          rw [if_pos (by rfl), ckT (by omega), ckT (by omega)]
          have hx : at' (at' g.2 (k : Int)) (j : Int) ∈ at' g.2 (k : Int) := mem_of_at (by omega)
          have hr := (hV.lk k (by omega) _ hx).1
          have h0 : (at' l (k : Int)).1 = 0 := by
            rcases hC.two k (by omega) with h | h
            · exact h
            · rw [(hcb k (by omega)).2 h] at hb; cases hb
          have h1 := hC.nb k (by omega) h0 _ hx
          obtain ⟨q, hq⟩ : ∃ q : Nat, (at' (at' g.2 (k : Int)) (j : Int)).1 = q := ⟨(at' (at' g.2 (k : Int)) (j : Int)).1.toNat, by omega⟩
          rw [hq] at hr h1 ⊢
          rw [bindS (bit_eq hc (by omega)), (hcb q (by omega)).2 h1, if_neg (by simp)]
          exact go
      · rw [if_neg hjd]
        unfold law39_LabelsCover_k5
        dsimp only
        rw [wr (by omega) (by omega)]
        exact hrec _ ⟨k + 1, by dsimp only; omega, by omega, hm', by dsimp only; omega⟩ (by dsimp only; omega)
    have hsucc : sumN (fun v => ind ((at' l (v : Int)).1 = 1)) (k + 1) = sumN (fun v => ind ((at' l (v : Int)).1 = 1)) k + ind ((at' l (k : Int)).1 = 1) := rfl
    cases hb : c.testBit k with
    | true =>
      rw [if_pos rfl, wr (by omega) (by omega)]
      exact inner _ (by rw [hsucc, ind1 ((hcb k (by omega)).1 hb)]; omega) (by omega)
    | false =>
      rw [if_neg (by simp)]
      exact inner _ (by rw [hsucc, ind0 (fun hh => by rw [(hcb k (by omega)).2 hh] at hb; cases hb)]; omega) (by omega)
  · rw [if_neg hkn]
    unfold law39_LabelsCover_k3 law39_LabelsCover_k4
    dsimp only
    have hkk : k = g.2.length := by omega
    subst hkk
    rw [bindS known_eq, if_pos rfl, if_pos (by omega), decide_eq_true (by omega)]

/-- the links that are chosen -/
theorem cover_greedy (hV : VM g.1 g.2) (hst : st.length = g.2.length) (kind : Int) (lb : List (Int × Int)) (hC : CoverOK g st l) {c : Nat} (hc : c < 4294967296) (hcb : ∀ v : Nat, v < g.2.length → (c.testBit v = true ↔ (at' l (v : Int)).1 = 1))
    {pairs : Nat} (hpn : pairs ≤ 1000) (hp : pairs = sumN (fun v => ind ((at' l (v : Int)).1 = 1)) g.2.length) (order : List Int) : law39_LabelsCover_k1 1000 order g (kind, st, lb) ((pairs : Int), (c : Int)) = some true := by
  have h24 := hV.n24
  have hn1 := hV.n1
  unfold law39_LabelsCover_k1
  refine iter_eq (fun s : Int × Int × Int => ∃ (size t k : Nat), s = ((size : Int), (t : Int), (k : Int)) ∧ k ≤ 100 ∧ t < 4294967296 ∧ size ≤ sumN (fun v => ind (t.testBit v = true ∧ (at' l (v : Int)).1 = 1)) g.2.length) (fun s => 200 - s.2.2.toNat) ?_ 1000 _ ⟨0, 0, 0, rfl, by omega, by decide, by omega⟩ (by dsimp only; omega)
  rintro s ag ⟨size, t, k, rfl, hk, ht, hs⟩ hrec
  have hle : sumN (fun v => ind (t.testBit v = true ∧ (at' l (v : Int)).1 = 1)) g.2.length ≤ pairs := by
    rw [hp]
    refine sumN_le fun v _ => ?_
    rcases ind_cases (t.testBit v = true ∧ (at' l (v : Int)).1 = 1) with ⟨h, e⟩ | ⟨_, e⟩
    · rw [e, ind1 h.2]; exact Nat.le_refl _
    · rw [e]; exact Nat.zero_le _
  unfold law39_LabelsCover_s3
  dsimp only
  rw [wr (by omega) (by omega)]
  have done : ∀ b : Bool, b = false → law39_LabelsCover_k8 1000 order g (kind, st, lb) ((pairs : Int), (c : Int)) ((size : Int), (t : Int), (k : Int)) ag b = some true := by
    rintro b rfl
    exact cover_last hV hst kind lb hC hc hcb hpn hp (by omega)
  by_cases h1 : (k : Int) + 1 < (order.length : Int)
  rotate_left
  · rw [if_neg h1]; exact done _ rfl
  rw [if_pos h1]
  by_cases h2 : (k : Int) < 80
  rotate_left
  · exact done _ (decide_eq_false h2)
  rw [decide_eq_true h2]
  unfold law39_LabelsCover_k8
  dsimp only
  rw [if_pos rfl, ckT (by omega), bindS (within_eq _ _ (by omega) (by omega)), wr (by omega) (by omega), ckT (by omega), bindS (within_eq _ _ (by omega) (by omega))]
  generalize hu : at' order (k : Int) % (st.length : Int) = a
  have u0 : 0 ≤ a := by rw [← hu]; exact Int.emod_nonneg _ (by omega)
  have u1 : a < st.length := by rw [← hu]; exact Int.emod_lt_of_pos _ (by omega)
  obtain ⟨a, rfl⟩ : ∃ n : Nat, a = n := ⟨a.toNat, by omega⟩
  generalize hw : at' order ((k : Int) + 1) % (st.length : Int) = b
  have w0 : 0 ≤ b := by rw [← hw]; exact Int.emod_nonneg _ (by omega)
  have w1 : b < st.length := by rw [← hw]; exact Int.emod_lt_of_pos _ (by omega)
  obtain ⟨b, rfl⟩ : ∃ n : Nat, b = n := ⟨b.toNat, by omega⟩
  have hd := (hV.vg.node a (by show a < g.2.length; omega)).deg
  have e : (row g a).length = (row (g.1, g.2) a).length := rfl
  dsimp only at hd
  rw [bindS (refPort_eq g a (b : Int) (by omega) (by omega))]
  have skip : law39_LabelsCover_k10 ((size : Int), (t : Int), (k : Int)) ag (a : Int) (b : Int) false = some true := by
    unfold law39_LabelsCover_k10 law39_LabelsCover_k9
    dsimp only
    rw [if_neg (by simp), wr (by omega) (by omega)]
    exact hrec _ ⟨size, t, k + 2, by simp, by omega, ht, hs⟩ (by dsimp only; omega)
  by_cases hport : 0 ≤ portOf (row g a) (b : Int)
  rotate_left
  · rw [if_neg hport]; exact skip
  rw [if_pos hport, bindS (bit_eq ht (by omega))]
  cases hta : t.testBit a with
  | true => rw [if_neg (by simp)]; exact skip
  | false =>
    rw [if_pos (by rfl), bindS (bit_eq ht (by omega))]
    cases htb : t.testBit b with
    | true => exact skip
    | false =>
      unfold law39_LabelsCover_k10 law39_LabelsCover_k9
      dsimp only
      have ea : bOr .u32 (t : Int) (bOr .u32 (bShl .u32 1 (a : Int)) (bShl .u32 1 (b : Int))) = ((t ||| (2 ^ a ||| 2 ^ b) : Nat) : Int) := by
        rw [bShl1 (by omega), bShl1 (by omega), bOr_eq (((2 ^ a : Nat) : Int)), bOr_eq, N32_nat (pow_lt32 (by omega)), N32_nat (pow_lt32 (by omega)), N32_nat ht, N32_nat (or_lt32 (pow_lt32 (by omega)) (pow_lt32 (by omega)))]
      rw [if_pos (by rfl), wu64 a (by omega), wu64 b (by omega), ckT (by omega), ckT (by omega), ea, wr (by omega) (by omega), wr (by omega) (by omega)]
      refine hrec _ ⟨size + 1, t ||| (2 ^ a ||| 2 ^ b), k + 2, by simp, by omega, or_lt32 ht (or_lt32 (pow_lt32 (by omega)) (pow_lt32 (by omega))), ?_⟩ (by dsimp only; omega)
      have hbits : ∀ v, (t ||| (2 ^ a ||| 2 ^ b)).testBit v = true ↔ t.testBit v = true ∨ v = a ∨ v = b := fun v => by
        rw [Nat.testBit_or, Nat.testBit_or, Nat.testBit_two_pow, Nat.testBit_two_pow]
        simp only [Bool.or_eq_true, decide_eq_true_eq]
        constructor
        · rintro (h | h | h)
          · exact .inl h
          · exact .inr (.inl h.symm)
          · exact .inr (.inr h.symm)
        · rintro (h | h | h)
          · exact .inl h
          · exact .inr (.inl h.symm)
          · exact .inr (.inr h.symm)
      have hmono : ∀ v, v < g.2.length → ind (t.testBit v = true ∧ (at' l (v : Int)).1 = 1) ≤ ind ((t ||| (2 ^ a ||| 2 ^ b)).testBit v = true ∧ (at' l (v : Int)).1 = 1) := fun v _ => by
        rcases ind_cases (t.testBit v = true ∧ (at' l (v : Int)).1 = 1) with ⟨h, e⟩ | ⟨_, e⟩
        · rw [e, ind1 ⟨(hbits v).2 (.inl h.1), h.2⟩]; exact Nat.le_refl _
        · rw [e]; exact Nat.zero_le _
      -- one of the two is in the cover
      have hone : (at' l (a : Int)).1 = 1 ∨ (at' l (b : Int)).1 = 1 := by
        rcases hC.two a (by omega) with h | h
        · right
          rcases portOf_cases (row g a) (b : Int) with ⟨i, hi, hu, _, _⟩ | ⟨_, he⟩
          · have hx : lnk (row g a) i ∈ at' g.2 (a : Int) := mem_of_at hi
            have := hC.nb a (by omega) h _ hx
            rw [hu] at this; exact this
          · omega
        · exact .inl h
      have hgt : sumN (fun v => ind (t.testBit v = true ∧ (at' l (v : Int)).1 = 1)) g.2.length + 1 ≤ sumN (fun v => ind ((t ||| (2 ^ a ||| 2 ^ b)).testBit v = true ∧ (at' l (v : Int)).1 = 1)) g.2.length := by
        rcases hone with h | h
        · refine sumN_lt hmono (a := a) (by omega) ?_
          rw [ind0 (fun hc => by rw [hta] at hc; cases hc.1), ind1 ⟨(hbits a).2 (.inr (.inl rfl)), h⟩]
          exact Nat.le_refl _
        · refine sumN_lt hmono (a := b) (by omega) ?_
          rw [ind0 (fun hc => by rw [htb] at hc; cases hc.1), ind1 ⟨(hbits b).2 (.inr (.inr rfl)), h⟩]
          exact Nat.le_refl _
      omega

theorem sumN_bound {f : Nat → Nat} (h : ∀ v, f v ≤ 1) : ∀ n, sumN f n ≤ n
  | 0 => Nat.le_refl _
  | n + 1 => by
    have := sumN_bound h n
    have h1 := h n
    have e : sumN f (n + 1) = sumN f n + f n := rfl
    omega

theorem ind_le (p : Prop) : ind p ≤ 1 := by
  rcases ind_cases p with ⟨_, e⟩ | ⟨_, e⟩ <;> omega

/-- the first loop -/
theorem cover_first (hV : VM g.1 g.2) (hst : st.length = g.2.length) (hfit : ∀ v : Nat, v < g.2.length → FitAt 4 g v (at' st (v : Int))) (kind : Int) (lb : List (Int × Int)) (e : Int) (hC : CoverOK g st l) (order : List Int) :
    iter (law39_LabelsCover_s4 1000 order g (kind, st, lb) (l, e)) 1000 (0, 0, 0) = some true := by
  have h24 := hV.n24
  have hll := hC.len
  have hr : ∀ v : Nat, v < g.2.length → -1 ≤ ptn g st v ∧ ptn g st v ≤ (g.2.length : Int) - 1 := fun v hv => ptn_rng hV hv (hfit v hv)
  refine iter_eq (fun s : Int × Int × Int => ∃ (c k : Nat), s = (((sumN (fun v => ind ((v : Int) < ptn g st v)) k : Nat) : Int), (c : Int), (k : Int)) ∧ k ≤ g.2.length ∧ c < 4294967296 ∧ ∀ v : Nat, c.testBit v = true ↔ v < k ∧ (at' l (v : Int)).1 = 1) (fun s => g.2.length - s.2.2.toNat) ?_ 1000 _ ⟨0, 0, rfl, by omega, by decide, fun v => by simp⟩ (by dsimp only; omega)
  rintro s ag ⟨c, k, rfl, hk, hc, hcb⟩ hrec
  have hsb := sumN_bound (f := fun v => ind ((v : Int) < ptn g st v)) (fun v => ind_le _) k
  unfold law39_LabelsCover_s4
  dsimp only
  by_cases hkn : (k : Int) < (st.length : Int)
  · rw [if_pos hkn, ckT (by omega)]
    have hsucc : sumN (fun v => ind ((v : Int) < ptn g st v)) (k + 1) = sumN (fun v => ind ((v : Int) < ptn g st v)) k + ind ((k : Int) < ptn g st k) := rfl
    have k12 : ∀ p : Int, p = (sumN (fun v => ind ((v : Int) < ptn g st v)) (k + 1) : Nat) → law39_LabelsCover_k12 (l, e) (((sumN (fun v => ind ((v : Int) < ptn g st v)) k : Nat) : Int), (c : Int), (k : Int)) ag p = some true := by
      rintro p rfl
      unfold law39_LabelsCover_k12 law39_LabelsCover_k11
      dsimp only
      rw [ckT (by omega), wr (by omega) (by omega)]
      by_cases h1 : (at' l (k : Int)).1 = 1
      · rw [if_pos h1, wu64 k (by omega), ckT (by omega), bShl1 (by omega), bOr_eq, N32_nat hc, N32_nat (pow_lt32 (by omega))]
        refine hrec _ ⟨c ||| 2 ^ k, k + 1, by simp, by omega, or_lt32 hc (pow_lt32 (by omega)), fun v => ?_⟩ (by dsimp only; omega)
        rw [Nat.testBit_or, Nat.testBit_two_pow, Bool.or_eq_true, decide_eq_true_eq, hcb v]
        constructor
        · rintro (⟨h, h'⟩ | h)
          · exact ⟨by omega, h'⟩
          · subst h; exact ⟨by omega, h1⟩
        · rintro ⟨h, h'⟩
          by_cases hvk : k = v
          · exact .inr hvk
          · exact .inl ⟨by omega, h'⟩
      · rw [if_neg h1]
        refine hrec _ ⟨c, k + 1, by simp, by omega, hc, fun v => ?_⟩ (by dsimp only; omega)
        rw [hcb v]
        constructor
        · rintro ⟨h, h'⟩; exact ⟨by omega, h'⟩
        · rintro ⟨h, h'⟩
          by_cases hvk : v = k
          · subst hvk; exact absurd h' h1
          · exact ⟨by omega, h'⟩
    have hf := hfit k (by omega)
    rw [FitAt, if_pos (.inr rfl)] at hf
    have ee : (at' g.2 (k : Int)).length = (row g k).length := rfl
    unfold law39_LabelsCover_k13
    dsimp only
    by_cases h0 : 0 ≤ at' st (k : Int)
    · have hpk : ptn g st k = (at' (at' g.2 (k : Int)) (at' st (k : Int))).1 := by unfold ptn; rw [if_pos h0]
      rw [if_pos h0, ckT (by omega), ckT (by omega), ckT (by omega), ← hpk]
      by_cases h1 : (k : Int) < ptn g st k
      · rw [decide_eq_true h1, if_pos rfl, wr (by omega) (by omega)]
        exact k12 _ (by rw [hsucc, ind1 h1]; omega)
      · rw [decide_eq_false h1, if_neg (by simp)]
        exact k12 _ (by rw [hsucc, ind0 h1]; rfl)
    · have hpk : ptn g st k = -1 := by unfold ptn; rw [if_neg h0]
      rw [if_neg h0, if_neg (by simp)]
      exact k12 _ (by rw [hsucc, ind0 (by omega)]; rfl)
  · rw [if_neg hkn]
    have hkk : k = g.2.length := by omega
    subst hkk
    exact cover_greedy hV hst kind lb hC hc (fun v hv => by rw [hcb v]; exact ⟨fun h => h.2, fun h => ⟨hv, h⟩⟩) (by omega) (pairs_eq hC hr) order
end
theorem pure_LabelsCover (x : NETX) (y : Int × List (Int) × List (Int)) (order : List Int) : m_law39_LabelsCover 1000 x y order = some true := by
  obtain ⟨⟨ids, P⟩, e1, hV, _⟩ := connected_ok x 8 (by decide) (by decide)
  obtain ⟨⟨kind, st, lb⟩, e2, hS⟩ := shape_ok (3, y.2.1, y.2.2) (g := (ids, P)) hV
  have hk : kind = 4 := hS.kindEq
  subst hk
  have e1' : m__world_Net__Connected 1000 x 8 = some (ids, P) := e1
  unfold m_law39_LabelsCover
  rw [bindS e1', bindS e2]
  dsimp only
  obtain ⟨⟨l, e⟩, e3, h3⟩ := prove4_ok (g := (ids, P)) hV hS.st hS.fit
  dsimp only at h3
  rw [bindS e3]
  dsimp only
  by_cases he : e ≠ 0
  · rw [if_pos he, bindS known_eq]
  · rw [if_neg he]
    have hC := h3 (by omega)
    have h1 := hC.len
    have h2 := hS.st
    dsimp only at h1 h2
    rw [if_neg (by omega)]
    exact cover_first hV hS.st hS.fit 4 lb e hC order
end Go.Proofs.Ytmajgimhmfeliaa
end
