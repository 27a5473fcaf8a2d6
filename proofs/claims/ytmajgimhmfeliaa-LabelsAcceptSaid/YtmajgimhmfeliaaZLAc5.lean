/- Models of functions with their proofs, by program (gen/xt.py), and plain laws, in one text. Conditions: none. -/
import Derived.Test.YtmajgimhmfeliaaZLAc4
import Derived.Test.YtmajgimhmfeliaaZLAc2
import Derived.Test.YtmajgimhmfeliaaZLAc3
section
set_option linter.unusedVariables false
set_option linter.unusedSimpArgs false
namespace Go.Proofs.Ytmajgimhmfeliaa
open Go.Sx
set_option linter.unusedVariables false
set_option linter.unusedSimpArgs false
def _law39_Claimed__shape_k1 (r3 : Int) (a10 : List (Int) × (List (Int × Int))) : Option (Int × List (Int) × (List (Int × Int))) :=
  some ((wI .i64 ((1 : Int) + r3)), a10.1, a10.2)
def _law39_Claimed__shape_k5 (a18 : List (Int) × (List (Int × Int)) × Int) (ag17 : (List (Int) × (List (Int × Int)) × Int) → Option (Int × List (Int) × (List (Int × Int)))) (a30 : Int) (a34 : Int × Int) : Option (Int × List (Int) × (List (Int × Int))) :=
  ck ((List.length a18.1 : Int) + (List.length ([a30]) : Int) ≤ 1099511627) (ck ((List.length a18.2.1 : Int) + (List.length ([ (a34.1, a34.2)]) : Int) ≤ 1099511627) (ag17 ((a18.1 ++ [a30]), (a18.2.1 ++ ([ (a34.1, a34.2)])), (wI .i64 (a18.2.2 + (1 : Int))))))
def _law39_Claimed__shape_k6 (fuel : Nat) (p1 : List (Int) × (List (List (Int × Int)))) (a18 : List (Int) × (List (Int × Int)) × Int) (ag17 : (List (Int) × (List (Int × Int)) × Int) → Option (Int × List (Int) × (List (Int × Int)))) (a27 : Int × Int) (a30 : Int) (a43 : Bool) : Option (Int × List (Int) × (List (Int × Int))) :=
  if a43 = true then (Option.bind (m_world_Within fuel a27.1 (List.length p1.2 : Int)) fun r46 => (ck (0 ≤ r46 ∧ r46 < (List.length p1.1 : Int)) (Option.bind (m_world_Within fuel a27.2 (wI .i64 ((List.length p1.2 : Int) + (1 : Int)))) fun r50 => (_law39_Claimed__shape_k5 a18 ag17 a30 ((at' p1.1 r46), r50))))) else (Option.bind (m_world_Within fuel a27.1 (3 : Int)) fun r53 => (Option.bind (m_world_Within fuel a27.2 (2 : Int)) fun r56 => (_law39_Claimed__shape_k5 a18 ag17 a30 (r53, r56))))
def _law39_Claimed__shape_k4 (fuel : Nat) (p1 : List (Int) × (List (List (Int × Int)))) (r3 : Int) (a18 : List (Int) × (List (Int × Int)) × Int) (ag17 : (List (Int) × (List (Int × Int)) × Int) → Option (Int × List (Int) × (List (Int × Int)))) (a27 : Int × Int) (a30 : Int) : Option (Int × List (Int) × (List (Int × Int))) :=
  if (wI .i64 ((1 : Int) + r3)) = (1 : Int) then (_law39_Claimed__shape_k6 fuel p1 a18 ag17 a27 a30 (true)) else (_law39_Claimed__shape_k6 fuel p1 a18 ag17 a27 a30 (decide ((wI .i64 ((1 : Int) + r3)) = (2 : Int))))
def _law39_Claimed__shape_k7 (fuel : Nat) (p1 : List (Int) × (List (List (Int × Int)))) (r3 : Int) (a18 : List (Int) × (List (Int × Int)) × Int) (ag17 : (List (Int) × (List (Int × Int)) × Int) → Option (Int × List (Int) × (List (Int × Int)))) (a23 : Int) (a27 : Int × Int) (a61 : Bool) : Option (Int × List (Int) × (List (Int × Int))) :=
  if a61 = true then (ck (0 ≤ a18.2.2 ∧ a18.2.2 < (List.length p1.2 : Int)) (Option.bind (m_world_Within fuel a23 (wI .i64 ((List.length (at' p1.2 a18.2.2) : Int) + (1 : Int)))) fun r65 => (_law39_Claimed__shape_k4 fuel p1 r3 a18 ag17 a27 (wI .i64 (r65 - (1 : Int)))))) else (if (wI .i64 ((1 : Int) + r3)) = (2 : Int) then (Option.bind (m_world_Within fuel a23 (2 : Int)) fun r69 => (_law39_Claimed__shape_k4 fuel p1 r3 a18 ag17 a27 (r69))) else (_law39_Claimed__shape_k4 fuel p1 r3 a18 ag17 a27 (0 : Int)))
def _law39_Claimed__shape_k3 (fuel : Nat) (p1 : List (Int) × (List (List (Int × Int)))) (r3 : Int) (a18 : List (Int) × (List (Int × Int)) × Int) (ag17 : (List (Int) × (List (Int × Int)) × Int) → Option (Int × List (Int) × (List (Int × Int)))) (a23 : Int) (a27 : Int × Int) : Option (Int × List (Int) × (List (Int × Int))) :=
  if (wI .i64 ((1 : Int) + r3)) = (1 : Int) then (_law39_Claimed__shape_k7 fuel p1 r3 a18 ag17 a23 a27 (decide ((wI .i64 ((1 : Int) + r3)) = (1 : Int)))) else (_law39_Claimed__shape_k7 fuel p1 r3 a18 ag17 a23 a27 (decide ((wI .i64 ((1 : Int) + r3)) = (4 : Int))))
def _law39_Claimed__shape_k2 (fuel : Nat) (p0 : Int × List (Int) × List (Int)) (p1 : List (Int) × (List (List (Int × Int)))) (r3 : Int) (a18 : List (Int) × (List (Int × Int)) × Int) (ag17 : (List (Int) × (List (Int × Int)) × Int) → Option (Int × List (Int) × (List (Int × Int)))) (a23 : Int) : Option (Int × List (Int) × (List (Int × Int))) :=
  if (wI .i64 ((wI .i64 ((2 : Int) * a18.2.2)) + (1 : Int))) < (List.length p0.2.2 : Int) then (ck (0 ≤ (wI .i64 ((2 : Int) * a18.2.2)) ∧ (wI .i64 ((2 : Int) * a18.2.2)) < (List.length p0.2.2 : Int)) (ck (0 ≤ (wI .i64 ((wI .i64 ((2 : Int) * a18.2.2)) + (1 : Int))) ∧ (wI .i64 ((wI .i64 ((2 : Int) * a18.2.2)) + (1 : Int))) < (List.length p0.2.2 : Int)) (_law39_Claimed__shape_k3 fuel p1 r3 a18 ag17 a23 ((at' p0.2.2 (wI .i64 ((2 : Int) * a18.2.2))), (at' p0.2.2 (wI .i64 ((wI .i64 ((2 : Int) * a18.2.2)) + (1 : Int)))))))) else (_law39_Claimed__shape_k3 fuel p1 r3 a18 ag17 a23 ((0 : Int), (0 : Int)))
def _law39_Claimed__shape_s1 (fuel : Nat) (p0 : Int × List (Int) × List (Int)) (p1 : List (Int) × (List (List (Int × Int)))) (r3 : Int) (a18 : List (Int) × (List (Int × Int)) × Int) (ag17 : (List (Int) × (List (Int × Int)) × Int) → Option (Int × List (Int) × (List (Int × Int)))) : Option (Int × List (Int) × (List (Int × Int))) :=
  if a18.2.2 < (List.length p1.2 : Int) then (if a18.2.2 < (List.length p0.2.1 : Int) then (ck (0 ≤ a18.2.2 ∧ a18.2.2 < (List.length p0.2.1 : Int)) (_law39_Claimed__shape_k2 fuel p0 p1 r3 a18 ag17 (at' p0.2.1 a18.2.2))) else (_law39_Claimed__shape_k2 fuel p0 p1 r3 a18 ag17 (0 : Int))) else (_law39_Claimed__shape_k1 r3 (a18.1, a18.2.1))
def m__law39_Claimed__shape (fuel : Nat) (p0 : Int × List (Int) × List (Int)) (p1 : List (Int) × (List (List (Int × Int)))) : Option (Int × List (Int) × (List (Int × Int))) :=
  Option.bind (m_world_Within fuel p0.1 (4 : Int)) fun r3 => (iter (_law39_Claimed__shape_s1 fuel p0 p1 r3) fuel (([] : List Int), ([] : List (Int × Int)), (0 : Int)))

theorem body11 : HasBody Try.prog 11 := Try.call11

set_option maxHeartbeats 4000000 in
set_option maxRecDepth 20000 in
theorem t__law39_Claimed__shape (fuel : Nat) {p0 : Int × List (Int) × List (Int)} {p1 : List (Int) × (List (List (Int × Int)))} (v0 : Value)  (v1 : Value)  (v2 : Value)  (v3 : Value)  (z4 : List (Value × List (Int × Int))) (r : Int × List (Int) × (List (Int × Int))) (h : m__law39_Claimed__shape fuel p0 p1 = some r) :
    Meets Try.prog 11 #[Value.agg #[Value.int .i64 (p0.1), v0, v1], Value.agg #[v2, v3]] [Sl RI64 v0 p0.2.1, Sl RI64 v1 p0.2.2, Sl RI64 v2 p1.1, S2 RI64I64p v3 z4 p1.2] (fun x : Value × Value => Value.tuple #[Value.int .i64 (r.1), x.1, x.2]) (fun x l => Ar EI64 x.1 r.2.1 :: Ar EI64I64p x.2 r.2.2 :: l) (fun _ l => l) := by
  refine Meets.of (vs := [Value.agg #[Value.int .i64 (p0.1), v0, v1], Value.agg #[v2, v3]]) Try.func11 rfl Try.ntmps11 rfl fun c => ?_
  unfold m__law39_Claimed__shape at h
  refine J.seq ?_
  refine J.region ?_
  refine J.loud (Loud.box (cs := [Value.int .i64 (p0.1), v0, v1]) rfl rfl) rfl fun b1 => ?_
  refine J.loud (Loud.box (cs := [v2, v3]) rfl rfl) rfl fun b2 => ?_
  refine J.quiet (Y.assign rfl) rfl ?_
  refine J.quiet (Y.assign rfl) rfl ?_
  refine J.quiet (Y.assign rfl) rfl ?_
  refine J.done ?_
  refine J.thenN ?_
  refine J.seq ?_
  refine JR.start [0, 1, 3, 7, 0, 16, 48, 15, 255] 8 mixedOrders (by decide +kernel) ?_
  refine JR.open (by exact rfl) ?_
  refine JR.qt rfl (SubM.nil) (SubL.nil) (Y.fieldB rfl rfl rfl rfl rfl) HistOk.z ?_
  refine JR.qt rfl (SubM.cons 1 rfl (SubM.nil)) (SubL.nil) (Y.loadB 0 rfl rfl rfl rfl rfl) HistOk.z ?_
  replace h := bnd h; obtain ⟨r3, hr4, h⟩ := h
  refine JR.loud rfl rfl rfl (Loud.callL body14 (t_world_Within fuel  r3 hr4) rfl (LentAll.nil) (fun _ _ => rfl)) rfl (fun x5 => (BsOk.b rfl (BsOk.b rfl BsOk.z))) fun x5 => ?_
  refine JR.qt rfl (SubM.nil) (SubL.nil) (Y.addW rfl rfl) (HistOk.b rfl HistOk.z) ?_
  refine JR.qt rfl (SubM.nil) (SubL.nil) (Y.fieldB rfl rfl rfl rfl rfl) (HistOk.h (SubM.nil) (SubL.nil) HistOk.z) ?_
  refine JR.qt rfl (SubM.cons 0 rfl (SubM.nil)) (SubL.nil) (Y.loadB 0 rfl rfl rfl rfl rfl) (HistOk.h (SubM.cons 0 rfl (SubM.nil)) (SubL.nil) HistOk.z) ?_
  refine JR.qt rfl (SubM.nil) (SubL.cons (List.mem_of_getElem? (i := 3) rfl) (SubL.nil)) (Y.lenN rfl (Lent.fact 0 rfl) rfl) (HistOk.h (SubM.nil) (SubL.cons (List.mem_of_getElem? (i := 3) rfl) (SubL.nil)) HistOk.z) ?_
  refine JR.qt rfl (SubM.nil) (SubL.nil) (Y.assign rfl) (HistOk.b rfl HistOk.z) ?_
  refine JR.tailD 8 rfl rfl ?_
  refine J.quiet (Y.assign rfl) rfl ?_
  refine J.done ?_
  refine J.thenN ?_
  refine J.seq ?_
  refine J.region ?_
  refine J.quiet (Y.assign rfl) rfl ?_
  refine J.done ?_
  refine J.thenN ?_
  refine J.seq ?_
  refine J.region ?_
  refine J.quiet (Y.assign rfl) rfl ?_
  refine J.done ?_
  refine J.thenN ?_
  refine J.seq ?_
  refine J.midI (A := List (Int) × (List (Int × Int))) (B := Value × Value) (fun a10 => _law39_Claimed__shape_k1 r3 a10 = some r) (fun a10 b11 => [(7, Value.int .i64 (wI .i64 ((1 : Int) + r3))), (9, b11.1), (10, b11.2)]) (fun a10 b11 => [Ar EI64 b11.1 a10.1, Ar EI64I64p b11.2 a10.2]) (fun a10 b11 => [Sl RI64 v0 p0.2.1, Sl RI64 v1 p0.2.2, Sl RI64 v2 p1.1, S2 RI64I64p v3 z4 p1.2]) ?_ ?_
  · refine J.seq ?_
    refine J.region ?_
    refine J.quiet (Y.assign rfl) rfl ?_
    refine J.done ?_
    refine J.thenN ?_
    refine J.block ?_
    refine J.stp (Stp.nilAr EI64) ?_
    refine J.stp (Stp.nilAr EI64I64p) ?_
    refine J.loopI (A := List (Int) × (List (Int × Int)) × Int) (B := Value × Value) (_law39_Claimed__shape_s1 fuel p0 p1 r3) (fun a18 b19 => [(2, Value.pointer (some ⟨b1, 0, none⟩)), (3, Value.pointer (some ⟨b2, 0, none⟩)), (7, Value.int .i64 (wI .i64 ((1 : Int) + r3))), (8, Value.int .i64 (List.length p1.2 : Int)), (9, b19.1), (10, b19.2), (11, Value.int .i64 (a18.2.2))]) (fun a18 b19 => [Blk b2 [v2, v3] 29, Blk b1 [Value.int .i64 (p0.1), v0, v1] 26, Ar EI64 b19.1 a18.1, Ar EI64I64p b19.2 a18.2.1]) (fun a18 b19 => [Sl RI64 v0 p0.2.1, Sl RI64 v1 p0.2.2, Sl RI64 v2 p1.1, S2 RI64I64p v3 z4 p1.2]) (([] : List Int), ([] : List (Int × Int)), (0 : Int)) ((Value.slice none 0 0), (Value.slice none 0 0)) h (by repeat (first | exact SubF.nil | refine SubF.cons rfl ?_)) (SubM.cons 2 rfl (SubM.cons 2 rfl (SubM.cons 1 rfl (SubM.cons 0 rfl (SubM.nil))))) (LentAll.refl _ _) ?_
    clear h
    intro k20 a18 b19 h
    unfold _law39_Claimed__shape_s1 at h
    refine J.seq ?_
    refine J.seq ?_
    refine J.region ?_
    refine J.quiet (Y.move rfl) rfl ?_
    refine J.quiet (Y.move rfl) rfl ?_
    refine J.quiet (Y.lss rfl rfl) rfl ?_
    refine J.done ?_
    refine J.thenN ?_
    refine J.condD (by exact rfl) (fun hp21 => ?_) (fun hp21 => ?_)
    · replace h := ifP hp21 h
      refine J.skip ?_
      refine J.thenN ?_
      refine J.seq ?_
      refine J.block ?_
      refine J.seq ?_
      refine J.region ?_
      refine J.quiet (Y.assign rfl) rfl ?_
      refine J.quiet (Y.assign rfl) rfl ?_
      refine J.quiet (Y.assign rfl) rfl ?_
      refine J.done ?_
      refine J.thenN ?_
      refine J.seq ?_
      refine J.midI (A := Int) (B := Unit) (fun a23 => _law39_Claimed__shape_k2 fuel p0 p1 r3 a18 (iter (_law39_Claimed__shape_s1 fuel p0 p1 r3) k20) a23 = some r) (fun a23 b24 => [(2, Value.pointer (some ⟨b1, 0, none⟩)), (3, Value.pointer (some ⟨b2, 0, none⟩)), (7, Value.int .i64 (wI .i64 ((1 : Int) + r3))), (8, Value.int .i64 (List.length p1.2 : Int)), (9, b19.1), (10, b19.2), (11, Value.int .i64 (a18.2.2)), (12, Value.int .i64 (a23)), (13, Value.int .i64 (0 : Int)), (14, Value.int .i64 (0 : Int))]) (fun a23 b24 => [Blk b2 [v2, v3] 29, Blk b1 [Value.int .i64 (p0.1), v0, v1] 26, Ar EI64 b19.1 a18.1, Ar EI64I64p b19.2 a18.2.1]) (fun a23 b24 => [Sl RI64 v0 p0.2.1, Sl RI64 v1 p0.2.2, Sl RI64 v2 p1.1, S2 RI64I64p v3 z4 p1.2]) ?_ ?_
      · refine J.seq ?_
        refine J.region ?_
        refine J.quiet (Y.move rfl) rfl ?_
        refine J.quiet (Y.fieldB rfl rfl rfl rfl rfl) rfl ?_
        refine J.quiet (Y.loadB 1 rfl rfl rfl rfl rfl) rfl ?_
        refine J.quiet (Y.lenS rfl (Lent.fact 0 rfl) rfl) rfl ?_
        refine J.quiet (Y.lss rfl rfl) rfl ?_
        refine J.done ?_
        refine J.thenN ?_
        refine J.condD (by exact rfl) (fun hp76 => ?_) (fun hp76 => ?_)
        · replace h := ifP hp76 h
          refine J.region ?_
          refine J.quiet (Y.fieldB rfl rfl rfl rfl rfl) rfl ?_
          refine J.quiet (Y.loadB 1 rfl rfl rfl rfl rfl) rfl ?_
          refine J.quiet (Y.move rfl) rfl ?_
          replace h := ck_some h; obtain ⟨hc77, h⟩ := h
          refine J.quiet (Y.indexS rfl rfl (Lent.fact 0 rfl) rfl rfl hc77) rfl ?_
          refine J.quiet (Y.loadS0 rfl (Lent.fact 0 rfl) rfl rfl rfl RI64c0 hc77) rfl ?_
          refine J.quiet (Y.assign rfl) rfl ?_
          refine J.done ?_
          refine J.thenN ?_
          exact J.meetI (at' p0.2.1 a18.2.2) (()) h (by repeat (first | exact SubF.nil | refine SubF.cons rfl ?_)) (SubM.refl _) (LentAll.refl _ _)
        · replace h := ifN hp76 h
          refine J.skip ?_
          refine J.thenN ?_
          exact J.meetI (0 : Int) (()) h (by repeat (first | exact SubF.nil | refine SubF.cons rfl ?_)) (SubM.refl _) (LentAll.refl _ _)
      · clear h
        intro a23 b24 h
        unfold _law39_Claimed__shape_k2 at h
        refine J.seq ?_
        refine J.midI (A := Int × Int) (B := Unit) (fun a27 => _law39_Claimed__shape_k3 fuel p1 r3 a18 (iter (_law39_Claimed__shape_s1 fuel p0 p1 r3) k20) a23 a27 = some r) (fun a27 b28 => [(2, Value.pointer (some ⟨b1, 0, none⟩)), (3, Value.pointer (some ⟨b2, 0, none⟩)), (7, Value.int .i64 (wI .i64 ((1 : Int) + r3))), (8, Value.int .i64 (List.length p1.2 : Int)), (9, b19.1), (10, b19.2), (11, Value.int .i64 (a18.2.2)), (12, Value.int .i64 (a23)), (13, Value.int .i64 (a27.1)), (14, Value.int .i64 (a27.2))]) (fun a27 b28 => [Blk b2 [v2, v3] 29, Blk b1 [Value.int .i64 (p0.1), v0, v1] 26, Ar EI64 b19.1 a18.1, Ar EI64I64p b19.2 a18.2.1]) (fun a27 b28 => [Sl RI64 v0 p0.2.1, Sl RI64 v1 p0.2.2, Sl RI64 v2 p1.1, S2 RI64I64p v3 z4 p1.2]) ?_ ?_
        · refine J.seq ?_
          refine J.region ?_
          refine J.quiet (Y.move rfl) rfl ?_
          refine J.quiet (Y.mulW rfl rfl) rfl ?_
          refine J.quiet (Y.addW rfl rfl) rfl ?_
          refine J.quiet (Y.fieldB rfl rfl rfl rfl rfl) rfl ?_
          refine J.quiet (Y.loadB 1 rfl rfl rfl rfl rfl) rfl ?_
          refine J.quiet (Y.lenS rfl (Lent.fact 1 rfl) rfl) rfl ?_
          refine J.quiet (Y.lss rfl rfl) rfl ?_
          refine J.done ?_
          refine J.thenN ?_
          refine J.condD (by exact rfl) (fun hp73 => ?_) (fun hp73 => ?_)
          · replace h := ifP hp73 h
            refine JR.start [0, 1, 0, 4, 15, 31, 0, 64, 0, 256, 768, 1984, 4032, 63, 16383] 14 mixedOrders (by decide +kernel) ?_
            refine JR.open (by exact rfl) ?_
            refine JR.qt rfl (SubM.nil) (SubL.nil) (Y.fieldB rfl rfl rfl rfl rfl) HistOk.z ?_
            refine JR.qt rfl (SubM.cons 1 rfl (SubM.nil)) (SubL.nil) (Y.loadB 0 rfl rfl rfl rfl rfl) HistOk.z ?_
            refine JR.qt rfl (SubM.nil) (SubL.nil) (Y.move rfl) HistOk.z ?_
            refine JR.qt rfl (SubM.nil) (SubL.nil) (Y.mulW rfl rfl) HistOk.z ?_
            replace h := ck_some h; obtain ⟨hc74, h⟩ := h
            refine JR.qt rfl (SubM.nil) (SubL.cons (List.mem_of_getElem? (i := 1) rfl) (SubL.nil)) (Y.indexS rfl rfl (Lent.fact 0 rfl) rfl rfl hc74) HistOk.z ?_
            refine JR.qt rfl (SubM.nil) (SubL.cons (List.mem_of_getElem? (i := 1) rfl) (SubL.nil)) (Y.loadS0 rfl (Lent.fact 0 rfl) rfl rfl rfl RI64c0 hc74) HistOk.z ?_
            refine JR.qt rfl (SubM.nil) (SubL.nil) (Y.fieldB rfl rfl rfl rfl rfl) HistOk.z ?_
            refine JR.qt rfl (SubM.cons 1 rfl (SubM.nil)) (SubL.nil) (Y.loadB 0 rfl rfl rfl rfl rfl) HistOk.z ?_
            refine JR.qt rfl (SubM.nil) (SubL.nil) (Y.move rfl) HistOk.z ?_
            refine JR.qt rfl (SubM.nil) (SubL.nil) (Y.mulW rfl rfl) HistOk.z ?_
            refine JR.qt rfl (SubM.nil) (SubL.nil) (Y.addW rfl rfl) HistOk.z ?_
            replace h := ck_some h; obtain ⟨hc75, h⟩ := h
            refine JR.qt rfl (SubM.nil) (SubL.cons (List.mem_of_getElem? (i := 1) rfl) (SubL.nil)) (Y.indexS rfl rfl (Lent.fact 0 rfl) rfl rfl hc75) HistOk.z ?_
            refine JR.qt rfl (SubM.nil) (SubL.cons (List.mem_of_getElem? (i := 1) rfl) (SubL.nil)) (Y.loadS0 rfl (Lent.fact 0 rfl) rfl rfl rfl RI64c0 hc75) HistOk.z ?_
            refine JR.qt rfl (SubM.nil) (SubL.nil) (Y.assign rfl) HistOk.z ?_
            refine JR.tailD 14 rfl rfl ?_
            refine J.quiet (Y.assign rfl) rfl ?_
            refine J.done ?_
            refine J.thenN ?_
            exact J.meetI ((at' p0.2.2 (wI .i64 ((2 : Int) * a18.2.2))), (at' p0.2.2 (wI .i64 ((wI .i64 ((2 : Int) * a18.2.2)) + (1 : Int))))) (()) h (by repeat (first | exact SubF.nil | refine SubF.cons rfl ?_)) (SubM.refl _) (LentAll.refl _ _)
          · replace h := ifN hp73 h
            refine J.skip ?_
            refine J.thenN ?_
            exact J.meetI ((0 : Int), (0 : Int)) (()) h (by repeat (first | exact SubF.nil | refine SubF.cons rfl ?_)) (SubM.refl _) (LentAll.refl _ _)
        · clear h
          intro a27 b28 h
          unfold _law39_Claimed__shape_k3 at h
          refine J.seq ?_
          refine J.midI (A := Int) (B := Unit) (fun a30 => _law39_Claimed__shape_k4 fuel p1 r3 a18 (iter (_law39_Claimed__shape_s1 fuel p0 p1 r3) k20) a27 a30 = some r) (fun a30 b31 => [(2, Value.pointer (some ⟨b1, 0, none⟩)), (3, Value.pointer (some ⟨b2, 0, none⟩)), (7, Value.int .i64 (wI .i64 ((1 : Int) + r3))), (8, Value.int .i64 (List.length p1.2 : Int)), (9, b19.1), (10, b19.2), (11, Value.int .i64 (a18.2.2)), (12, Value.int .i64 (a30)), (13, Value.int .i64 (a27.1)), (14, Value.int .i64 (a27.2))]) (fun a30 b31 => [Blk b2 [v2, v3] 29, Blk b1 [Value.int .i64 (p0.1), v0, v1] 26, Ar EI64 b19.1 a18.1, Ar EI64I64p b19.2 a18.2.1]) (fun a30 b31 => [Sl RI64 v0 p0.2.1, Sl RI64 v1 p0.2.2, Sl RI64 v2 p1.1, S2 RI64I64p v3 z4 p1.2]) ?_ ?_
          · refine J.seq ?_
            refine J.region ?_
            refine J.quiet (Y.move rfl) rfl ?_
            refine J.done ?_
            refine J.thenN ?_
            refine J.block ?_
            refine J.seq ?_
            refine J.midI (A := Bool) (B := Unit) (fun a61 => _law39_Claimed__shape_k7 fuel p1 r3 a18 (iter (_law39_Claimed__shape_s1 fuel p0 p1 r3) k20) a23 a27 a61 = some r) (fun a61 b62 => [(2, Value.pointer (some ⟨b1, 0, none⟩)), (3, Value.pointer (some ⟨b2, 0, none⟩)), (7, Value.int .i64 (wI .i64 ((1 : Int) + r3))), (8, Value.int .i64 (List.length p1.2 : Int)), (9, b19.1), (10, b19.2), (11, Value.int .i64 (a18.2.2)), (12, Value.int .i64 (a23)), (13, Value.int .i64 (a27.1)), (14, Value.int .i64 (a27.2)), (57, Value.int .i64 (wI .i64 ((1 : Int) + r3))), (58, Value.bool (a61))]) (fun a61 b62 => [Blk b2 [v2, v3] 29, Blk b1 [Value.int .i64 (p0.1), v0, v1] 26, Ar EI64 b19.1 a18.1, Ar EI64I64p b19.2 a18.2.1]) (fun a61 b62 => [Sl RI64 v0 p0.2.1, Sl RI64 v1 p0.2.2, Sl RI64 v2 p1.1, S2 RI64I64p v3 z4 p1.2]) ?_ ?_
            · refine J.seq ?_
              refine J.region ?_
              refine J.quiet (Y.eql rfl rfl) rfl ?_
              refine J.quiet (Y.assign rfl) rfl ?_
              refine J.done ?_
              refine J.thenN ?_
              refine J.condD (by exact rfl) (fun hp72 => ?_) (fun hp72 => ?_)
              · replace h := ifP hp72 h
                refine J.skip ?_
                refine J.thenN ?_
                exact J.meetI (decide ((wI .i64 ((1 : Int) + r3)) = (1 : Int))) (()) h (by repeat (first | exact SubF.nil | refine SubF.cons rfl ?_)) (SubM.refl _) (LentAll.refl _ _)
              · replace h := ifN hp72 h
                refine J.region ?_
                refine J.quiet (Y.eql rfl rfl) rfl ?_
                refine J.quiet (Y.assign rfl) rfl ?_
                refine J.done ?_
                refine J.thenN ?_
                exact J.meetI (decide ((wI .i64 ((1 : Int) + r3)) = (4 : Int))) (()) h (by repeat (first | exact SubF.nil | refine SubF.cons rfl ?_)) (SubM.refl _) (LentAll.refl _ _)
            · clear h
              intro a61 b62 h
              unfold _law39_Claimed__shape_k7 at h
              refine J.cond (by exact rfl) (fun hp63 => ?_) (fun hp63 => ?_)
              · replace h := ifP hp63 h
                refine J.region ?_
                refine J.quiet (Y.move rfl) rfl ?_
                refine J.quiet (Y.fieldB rfl rfl rfl rfl rfl) rfl ?_
                refine J.quiet (Y.loadB 0 rfl rfl rfl rfl rfl) rfl ?_
                refine J.quiet (Y.move rfl) rfl ?_
                replace h := ck_some h; obtain ⟨hc64, h⟩ := h
                refine J.quiet (Y.indexN rfl rfl (Lent.fact 3 rfl) rfl rfl hc64) rfl ?_
                refine J.quiet (Y.loadRow rfl (Lent.fact 3 rfl) rfl rfl hc64) rfl ?_
                refine J.quiet (Y.lenS rfl (Lent.el (Lent.fact 3 rfl) hc64.1 hc64.2) rfl) rfl ?_
                refine J.quiet (Y.addW rfl rfl) rfl ?_
                replace h := bnd h; obtain ⟨r65, hr66, h⟩ := h
                refine J.loud (Loud.callL body14 (t_world_Within fuel  r65 hr66) rfl (LentAll.nil) (fun _ _ => rfl)) rfl fun x67 => ?_
                refine J.quiet (Y.subW rfl rfl) rfl ?_
                refine J.quiet (Y.assign rfl) rfl ?_
                refine J.done ?_
                refine J.inN ?_
                refine J.thenN ?_
                exact J.meetI (wI .i64 (r65 - (1 : Int))) (()) h (by repeat (first | exact SubF.nil | refine SubF.cons rfl ?_)) (SubM.refl _) (LentAll.refl _ _)
              · replace h := ifBN hp63 h
                refine J.seq ?_
                refine J.region ?_
                refine J.quiet (Y.eql rfl rfl) rfl ?_
                refine J.quiet (Y.assign rfl) rfl ?_
                refine J.done ?_
                refine J.thenN ?_
                refine J.condD (by exact rfl) (fun hp68 => ?_) (fun hp68 => ?_)
                · replace h := ifP hp68 h
                  refine J.region ?_
                  refine J.quiet (Y.move rfl) rfl ?_
                  replace h := bnd h; obtain ⟨r69, hr70, h⟩ := h
                  refine J.loud (Loud.callL body14 (t_world_Within fuel  r69 hr70) rfl (LentAll.nil) (fun _ _ => rfl)) rfl fun x71 => ?_
                  refine J.quiet (Y.assign rfl) rfl ?_
                  refine J.done ?_
                  refine J.inN ?_
                  refine J.thenN ?_
                  exact J.meetI (r69) (()) h (by repeat (first | exact SubF.nil | refine SubF.cons rfl ?_)) (SubM.refl _) (LentAll.refl _ _)
                · replace h := ifN hp68 h
                  refine J.region ?_
                  refine J.quiet (Y.assign rfl) rfl ?_
                  refine J.done ?_
                  refine J.inN ?_
                  refine J.thenN ?_
                  exact J.meetI (0 : Int) (()) h (by repeat (first | exact SubF.nil | refine SubF.cons rfl ?_)) (SubM.refl _) (LentAll.refl _ _)
          · clear h
            intro a30 b31 h
            unfold _law39_Claimed__shape_k4 at h
            refine J.seq ?_
            refine J.midI (A := Int × Int) (B := Unit) (fun a34 => _law39_Claimed__shape_k5 a18 (iter (_law39_Claimed__shape_s1 fuel p0 p1 r3) k20) a30 a34 = some r) (fun a34 b35 => [(2, Value.pointer (some ⟨b1, 0, none⟩)), (3, Value.pointer (some ⟨b2, 0, none⟩)), (7, Value.int .i64 (wI .i64 ((1 : Int) + r3))), (8, Value.int .i64 (List.length p1.2 : Int)), (9, b19.1), (10, b19.2), (11, Value.int .i64 (a18.2.2)), (12, Value.int .i64 (a30)), (13, Value.int .i64 (a34.1)), (14, Value.int .i64 (a34.2))]) (fun a34 b35 => [Blk b2 [v2, v3] 29, Blk b1 [Value.int .i64 (p0.1), v0, v1] 26, Ar EI64 b19.1 a18.1, Ar EI64I64p b19.2 a18.2.1]) (fun a34 b35 => [Sl RI64 v0 p0.2.1, Sl RI64 v1 p0.2.2, Sl RI64 v2 p1.1, S2 RI64I64p v3 z4 p1.2]) ?_ ?_
            · refine J.seq ?_
              refine J.midI (A := Bool) (B := Unit) (fun a43 => _law39_Claimed__shape_k6 fuel p1 a18 (iter (_law39_Claimed__shape_s1 fuel p0 p1 r3) k20) a27 a30 a43 = some r) (fun a43 b44 => [(2, Value.pointer (some ⟨b1, 0, none⟩)), (3, Value.pointer (some ⟨b2, 0, none⟩)), (7, Value.int .i64 (wI .i64 ((1 : Int) + r3))), (8, Value.int .i64 (List.length p1.2 : Int)), (9, b19.1), (10, b19.2), (11, Value.int .i64 (a18.2.2)), (12, Value.int .i64 (a30)), (13, Value.int .i64 (a27.1)), (14, Value.int .i64 (a27.2)), (80, Value.bool (a43))]) (fun a43 b44 => [Blk b2 [v2, v3] 29, Blk b1 [Value.int .i64 (p0.1), v0, v1] 26, Ar EI64 b19.1 a18.1, Ar EI64I64p b19.2 a18.2.1]) (fun a43 b44 => [Sl RI64 v0 p0.2.1, Sl RI64 v1 p0.2.2, Sl RI64 v2 p1.1, S2 RI64I64p v3 z4 p1.2]) ?_ ?_
              · refine J.region ?_
                refine J.quiet (Y.move rfl) rfl ?_
                refine J.quiet (Y.eql rfl rfl) rfl ?_
                refine J.quiet (Y.move rfl) rfl ?_
                refine J.guardD (by exact rfl) (by exact rfl) (fun hp59 => ?_) (fun hp59 => ?_)
                · replace h := ifP hp59 h
                  refine J.guardN rfl rfl rfl ?_
                  refine J.guardN rfl rfl rfl ?_
                  refine J.quiet (Y.pickT rfl rfl) rfl ?_
                  refine J.done ?_
                  refine J.thenN ?_
                  exact J.meetI (true) (()) h (by repeat (first | exact SubF.nil | refine SubF.cons rfl ?_)) (SubM.refl _) (LentAll.refl _ _)
                · replace h := ifN hp59 h
                  refine J.guardY rfl (Y.move rfl) rfl ?_
                  refine J.guardY rfl (Y.eql rfl rfl) rfl ?_
                  refine J.quiet (Y.pickF rfl rfl) rfl ?_
                  refine J.done ?_
                  refine J.thenN ?_
                  exact J.meetI (decide ((wI .i64 ((1 : Int) + r3)) = (2 : Int))) (()) h (by repeat (first | exact SubF.nil | refine SubF.cons rfl ?_)) (SubM.refl _) (LentAll.refl _ _)
              · clear h
                intro a43 b44 h
                unfold _law39_Claimed__shape_k6 at h
                refine J.cond (by exact rfl) (fun hp45 => ?_) (fun hp45 => ?_)
                · replace h := ifP hp45 h
                  refine JR.start [0, 1, 0, 0, 12, 31, 63, 0, 0, 256, 924, 2047, 4095] 11 mixedOrders (by decide +kernel) ?_
                  refine JR.open (by exact rfl) ?_
                  refine JR.qt rfl (SubM.nil) (SubL.nil) (Y.fieldB rfl rfl rfl rfl rfl) HistOk.z ?_
                  refine JR.qt rfl (SubM.cons 0 rfl (SubM.nil)) (SubL.nil) (Y.loadB 0 rfl rfl rfl rfl rfl) HistOk.z ?_
                  refine JR.qt rfl (SubM.nil) (SubL.nil) (Y.move rfl) HistOk.z ?_
                  refine JR.qt rfl (SubM.nil) (SubL.nil) (Y.move rfl) HistOk.z ?_
                  replace h := bnd h; obtain ⟨r46, hr47, h⟩ := h
                  refine JR.loud rfl rfl rfl (Loud.callL body14 (t_world_Within fuel  r46 hr47) rfl (LentAll.nil) (fun _ _ => rfl)) rfl (fun x48 => (BsOk.b rfl (BsOk.b rfl (BsOk.h (SubM.cons 0 rfl (SubM.nil)) (SubL.nil) (BsOk.h (SubM.nil) (SubL.nil) BsOk.z))))) fun x48 => ?_
                  replace h := ck_some h; obtain ⟨hc49, h⟩ := h
                  refine JR.qt rfl (SubM.nil) (SubL.cons (List.mem_of_getElem? (i := 2) rfl) (SubL.nil)) (Y.indexS rfl rfl (Lent.fact 0 rfl) rfl rfl hc49) (HistOk.b rfl HistOk.z) ?_
                  refine JR.qt rfl (SubM.nil) (SubL.cons (List.mem_of_getElem? (i := 2) rfl) (SubL.nil)) (Y.loadS0 rfl (Lent.fact 0 rfl) rfl rfl rfl RI64c0 hc49) (HistOk.b rfl HistOk.z) ?_
                  refine JR.qt rfl (SubM.nil) (SubL.nil) (Y.move rfl) (HistOk.h (SubM.nil) (SubL.nil) HistOk.z) ?_
                  refine JR.qt rfl (SubM.nil) (SubL.nil) (Y.move rfl) (HistOk.h (SubM.nil) (SubL.nil) HistOk.z) ?_
                  refine JR.qt rfl (SubM.nil) (SubL.nil) (Y.addW rfl rfl) (HistOk.h (SubM.nil) (SubL.nil) HistOk.z) ?_
                  replace h := bnd h; obtain ⟨r50, hr51, h⟩ := h
                  refine JR.loud rfl rfl rfl (Loud.callL body14 (t_world_Within fuel  r50 hr51) rfl (LentAll.nil) (fun _ _ => rfl)) rfl (fun x52 => (BsOk.b rfl (BsOk.b rfl (BsOk.b rfl (BsOk.h (SubM.nil) (SubL.cons (List.mem_of_getElem? (i := 2) rfl) (SubL.nil)) (BsOk.h (SubM.nil) (SubL.cons (List.mem_of_getElem? (i := 2) rfl) (SubL.nil)) (BsOk.b rfl (BsOk.b rfl (BsOk.h (SubM.cons 0 rfl (SubM.nil)) (SubL.nil) (BsOk.h (SubM.nil) (SubL.nil) BsOk.z)))))))))) fun x52 => ?_
                  refine JR.tailD 11 rfl rfl ?_
                  refine J.quiet (Y.assign rfl) rfl ?_
                  refine J.quiet (Y.assign rfl) rfl ?_
                  refine J.done ?_
                  refine J.thenN ?_
                  exact J.meetI ((at' p1.1 r46), r50) (()) h (by repeat (first | exact SubF.nil | refine SubF.cons rfl ?_)) (SubM.refl _) (LentAll.refl _ _)
                · replace h := ifBN hp45 h
                  refine J.region ?_
                  refine J.quiet (Y.move rfl) rfl ?_
                  replace h := bnd h; obtain ⟨r53, hr54, h⟩ := h
                  refine J.loud (Loud.callL body14 (t_world_Within fuel  r53 hr54) rfl (LentAll.nil) (fun _ _ => rfl)) rfl fun x55 => ?_
                  refine J.quiet (Y.move rfl) rfl ?_
                  replace h := bnd h; obtain ⟨r56, hr57, h⟩ := h
                  refine J.loud (Loud.callL body14 (t_world_Within fuel  r56 hr57) rfl (LentAll.nil) (fun _ _ => rfl)) rfl fun x58 => ?_
                  refine J.quiet (Y.assign rfl) rfl ?_
                  refine J.quiet (Y.assign rfl) rfl ?_
                  refine J.done ?_
                  refine J.thenN ?_
                  exact J.meetI (r53, r56) (()) h (by repeat (first | exact SubF.nil | refine SubF.cons rfl ?_)) (SubM.refl _) (LentAll.refl _ _)
            · clear h
              intro a34 b35 h
              unfold _law39_Claimed__shape_k5 at h
              refine J.region ?_
              refine J.quiet (Y.move rfl) rfl ?_
              refine J.quiet (Y.move rfl) rfl ?_
              refine J.loud (Loud.buildS (e := EI64) ([a30]) [(0, Value.int .i64 (a30))] rfl rfl rfl rfl (fill_1_1 (Value.int .i64 (a30)) rfl) rfl rfl rfl) rfl fun u36 => ?_
              replace h := ck_some h; obtain ⟨hc38, h⟩ := h
              refine J.loud (Loud.appendL 3 FI64 rfl rfl rfl (Lent.ar (Lent.res 0 rfl) FI64) rfl rfl rfl rfl hc38 rfl) rfl fun u37 => ?_
              refine J.quiet (Y.move rfl) rfl ?_
              refine J.quiet (Y.move rfl) rfl ?_
              refine J.quiet (Y.move rfl) rfl ?_
              refine J.quiet (Y.bld2 (r := Value.agg #[Value.int .i64 (a34.1), Value.int .i64 (a34.2)]) rfl rfl (by intro w; simp [Instr.build, Instr.fill, cells_intV, cells_boolV, cells_sliceV, cells_ptrV, cells_strV, cells_funcV, cells_agg])) rfl ?_
              refine J.loud (Loud.buildS (e := EI64I64p) ([((a34.1, a34.2))]) [(0, Value.agg #[Value.int .i64 (a34.1), Value.int .i64 (a34.2)])] rfl rfl rfl rfl (fill_1_2 (Value.int .i64 (a34.1)) (Value.int .i64 (a34.2))) rfl rfl rfl) rfl fun u39 => ?_
              replace h := ck_some h; obtain ⟨hc41, h⟩ := h
              refine J.loud (Loud.appendL 5 FI64I64p rfl rfl rfl (Lent.ar (Lent.res 0 rfl) FI64I64p) rfl rfl rfl rfl hc41 rfl) rfl fun u40 => ?_
              refine J.quiet (Y.assign rfl) rfl ?_
              refine J.quiet (Y.assign rfl) rfl ?_
              refine J.done ?_
              refine J.inN ?_
              refine J.thenN ?_
              refine J.region ?_
              refine J.quiet (Y.move rfl) rfl ?_
              refine J.quiet (Y.addW rfl rfl) rfl ?_
              refine J.quiet (Y.assign rfl) rfl ?_
              refine J.done ?_
              refine J.thenN ?_
              exact J.againI ((a18.1 ++ [a30]), (a18.2.1 ++ ([ (a34.1, a34.2)])), (wI .i64 (a18.2.2 + (1 : Int)))) (u37, u40) h (by repeat (first | exact SubF.nil | refine SubF.cons rfl ?_)) (SubM.cons 2 rfl (SubM.cons 2 rfl (SubM.cons 2 rfl (SubM.cons 2 rfl (SubM.nil))))) (LentAll.refl _ _)
    · replace h := ifN hp21 h
      refine J.exit ?_
      refine J.thenX ?_
      refine J.thenX ?_
      refine J.inX ?_
      refine J.thenN ?_
      exact J.meetI (a18.1, a18.2.1) (b19.1, b19.2) h (by repeat (first | exact SubF.nil | refine SubF.cons rfl ?_)) (SubM.cons 2 rfl (SubM.cons 2 rfl (SubM.nil))) (LentAll.refl _ _)
  · clear h
    intro a10 b11 h
    unfold _law39_Claimed__shape_k1 at h
    refine J.seq ?_
    refine J.region ?_
    refine J.quiet (Y.move rfl) rfl ?_
    refine J.quiet (Y.move rfl) rfl ?_
    refine J.quiet (Y.move rfl) rfl ?_
    refine J.quiet (Y.assign rfl) rfl ?_
    refine J.quiet (Y.assign rfl) rfl ?_
    refine J.quiet (Y.assign rfl) rfl ?_
    refine J.done ?_
    refine J.thenN ?_
    refine J.ret ?_
    obtain rfl := Option.some.inj h
    exact J.retG3 (b11.1, b11.2) rfl rfl (RV.tmp rfl) (RV.tmp rfl) (RV.tmp rfl) (SubM.refl _) LentAll.nil

end Go.Proofs.Ytmajgimhmfeliaa
end
section
set_option linter.unusedVariables false
set_option linter.unusedSimpArgs false
namespace Go.Proofs.Ytmajgimhmfeliaa
open Go.Sx
set_option linter.unusedVariables false
set_option linter.unusedSimpArgs false
def law39_LabelsAccept_k1  (a13 : Bool) : Option (Bool) :=
  some (a13)
def m_law39_LabelsAccept (fuel : Nat) (p0 : Int × List (Int) × List (Int) × List (Int) × Bool × Bool) (p1 : Int × List (Int) × List (Int)) (p2 : Int) : Option (Bool) :=
  Option.bind (m__world_Net__Any fuel ((p0.1, p0.2.1, p0.2.2.1, p0.2.2.2.1, p0.2.2.2.2.1, p0.2.2.2.2.2)) (8 : Int)) fun r3 => (Option.bind (m__law39_Claimed__shape fuel ((p1.1, p1.2.1, p1.2.2)) ((r3.1, r3.2))) fun r9 => (Option.bind (m_law39_known fuel ) fun r15 => (if r15 = true then (Option.bind (m_labels_Accepts fuel r9.1 ((r3.1, r3.2)) r9.2.1 r9.2.2 p2) fun r19 => (Option.bind (m_ref39_Accepts fuel r9.1 ((r3.1, r3.2)) r9.2.1 r9.2.2 p2) fun r22 => (if (r19 == r22) = true then (Option.bind (m_world_Within fuel p2 (List.length r9.2.2 : Int)) fun r26 => (Option.bind (m_labels_Accepts fuel r9.1 ((r3.1, r3.2)) r9.2.1 r9.2.2 r26) fun r29 => (Option.bind (m_world_Within fuel p2 (List.length r9.2.2 : Int)) fun r32 => (Option.bind (m_ref39_Accepts fuel r9.1 ((r3.1, r3.2)) r9.2.1 r9.2.2 r32) fun r35 => (if (r29 == r35) = true then (Option.bind (m_labels_Rejecting fuel r9.1 ((r3.1, r3.2)) r9.2.1 r9.2.2) fun r39 => (Option.bind (m_ref39_Rejecting fuel r9.1 ((r3.1, r3.2)) r9.2.1 r9.2.2) fun r42 => (law39_LabelsAccept_k1  (decide (r39 = r42))))) else (law39_LabelsAccept_k1  (false))))))) else (law39_LabelsAccept_k1  (false))))) else (law39_LabelsAccept_k1  (false)))))

set_option maxHeartbeats 4000000 in
set_option maxRecDepth 20000 in
theorem t_law39_LabelsAccept (fuel : Nat) {p0 : Int × List (Int) × List (Int) × List (Int) × Bool × Bool} {p1 : Int × List (Int) × List (Int)} {p2 : Int} (v0 : Value)  (v1 : Value)  (v2 : Value)  (v3 : Value)  (v4 : Value) (r : Bool) (h : m_law39_LabelsAccept fuel p0 p1 p2 = some r) :
    Meets Try.prog 5 #[Value.agg #[Value.int .i64 (p0.1), v0, v1, v2, Value.bool (p0.2.2.2.2.1), Value.bool (p0.2.2.2.2.2)], Value.agg #[Value.int .i64 (p1.1), v3, v4], Value.int .i64 (p2)] [Sl RI64 v0 p0.2.1, Sl RI64 v1 p0.2.2.1, Sl RI64 v2 p0.2.2.2.1, Sl RI64 v3 p1.2.1, Sl RI64 v4 p1.2.2] (fun x : Unit => Value.bool (r)) (fun x l => l) (fun _ l => l) := by
  refine Meets.of (vs := [Value.agg #[Value.int .i64 (p0.1), v0, v1, v2, Value.bool (p0.2.2.2.2.1), Value.bool (p0.2.2.2.2.2)], Value.agg #[Value.int .i64 (p1.1), v3, v4], Value.int .i64 (p2)]) Try.func5 rfl Try.ntmps5 rfl fun c => ?_
  unfold m_law39_LabelsAccept at h
  refine J.seq ?_
  refine J.region ?_
  refine J.loud (Loud.box (cs := [Value.int .i64 (p0.1), v0, v1, v2, Value.bool (p0.2.2.2.2.1), Value.bool (p0.2.2.2.2.2)]) rfl rfl) rfl fun b1 => ?_
  refine J.loud (Loud.box (cs := [Value.int .i64 (p1.1), v3, v4]) rfl rfl) rfl fun b2 => ?_
  refine J.quiet (Y.assign rfl) rfl ?_
  refine J.done ?_
  refine J.thenN ?_
  refine J.seq ?_
  refine J.region ?_
  refine J.quiet (Y.loadBAll 1 rfl rfl rfl rfl) rfl ?_
  replace h := bnd h; obtain ⟨r3, hr4, h⟩ := h
  refine J.loud (Loud.callL body22 (t__world_Net__Any fuel v0 v1 v2 r3 hr4) rfl (LentAll.cons (Lent.fact 0 rfl) (LentAll.cons (Lent.fact 1 rfl) (LentAll.cons (Lent.fact 2 rfl) (LentAll.nil)))) (fun _ _ => rfl)) rfl fun x5 => ?_
  refine J.loud (Loud.alloc (cs := [Value.slice none 0 0, Value.slice none 0 0]) rfl rfl) rfl fun b6 => ?_
  refine J.know (Know.one ((Lent.ar (Lent.res 1 rfl) FI64))) fun ho7 => ?_
  refine J.know (Know.one (Lent.sl (Lent.rows (i := 2) (j := 3) rfl rfl FI64I64p))) fun ho8 => ?_
  refine J.storeAll 0 (vs := [x5.1, x5.2.1]) rfl rfl (all1 ho7 (all1 ho8 rfl)) rfl rfl rfl ?_
  refine J.done ?_
  refine J.thenN ?_
  refine J.seq ?_
  refine J.region ?_
  refine J.quiet (Y.loadBAll 4 rfl rfl rfl rfl) rfl ?_
  refine J.quiet (Y.loadBAll 0 rfl rfl rfl rfl) rfl ?_
  replace h := bnd h; obtain ⟨r9, hr10, h⟩ := h
  refine J.loud (Loud.callL body11 (t__law39_Claimed__shape fuel v3 v4 x5.1 x5.2.1 (List.zip x5.2.2 r3.2) r9 hr10) rfl (LentAll.cons (Lent.fact 3 rfl) (LentAll.cons (Lent.fact 4 rfl) (LentAll.cons (Lent.ar (Lent.res 1 rfl) FI64) (LentAll.cons (Lent.rows (i := 2) (j := 3) rfl rfl FI64I64p) (LentAll.nil))))) (fun _ _ => rfl)) rfl fun x11 => ?_
  refine J.quiet (Y.move rfl) rfl ?_
  refine J.quiet (Y.extract rfl rfl) rfl ?_
  refine J.quiet (Y.extract rfl rfl) rfl ?_
  refine J.quiet (Y.extract rfl rfl) rfl ?_
  refine J.quiet (Y.assign rfl) rfl ?_
  refine J.quiet (Y.assign rfl) rfl ?_
  refine J.quiet (Y.assign rfl) rfl ?_
  refine J.done ?_
  refine J.thenN ?_
  refine J.seq ?_
  refine J.midI (A := Bool) (B := Unit) (fun a13 => law39_LabelsAccept_k1  a13 = some r) (fun a13 b14 => [(6, Value.bool (a13))]) (fun a13 b14 => []) (fun a13 b14 => [Sl RI64 v0 p0.2.1, Sl RI64 v1 p0.2.2.1, Sl RI64 v2 p0.2.2.2.1, Sl RI64 v3 p1.2.1, Sl RI64 v4 p1.2.2]) ?_ ?_
  · refine JR.start [0, 1, 3, 3, 3, 3, 3, 127, 3, 3, 3, 3, 3, 8191, 16383, 32767, 65535, 131071, 131071, 131071, 131071, 131071, 131071, 4325375, 14811135, 33554431, 131071, 131071, 131071, 131071, 131071, 131071, 2147614719, 7583301631, 17179869183, 34359738367, 68719476735, 137438953471, 274877906943, 274877906943, 274877906943, 274877906943, 4398046511103, 274877906943, 274877906943, 274877906943, 274877906943, 140737488355327, 281474976710655, 562949953421311, 1125899906842623] 47 mixedOrders (by decide +kernel) ?_
    refine JR.open (by exact rfl) ?_
    replace h := bnd h; obtain ⟨r15, hr16, h⟩ := h
    refine JR.loud rfl rfl rfl (Loud.callL body13 (t_law39_known fuel  r15 hr16) rfl (LentAll.nil) (fun _ _ => rfl)) rfl (fun x17 => BsOk.z) fun x17 => ?_
    refine JR.qt rfl (SubM.nil) (SubL.nil) (Y.move rfl) (HistOk.b rfl HistOk.z) ?_
    refine JR.guard (by exact rfl) (by exact rfl) (by exact rfl) (fun hp18 => ?_) (fun hp18 => ?_)
    · replace h := ifP hp18 h
      refine JR.qtG rfl (SubM.nil) (SubL.nil) (Y.move rfl) (HistOk.b rfl HistOk.z) ?_
      refine JR.qtG rfl (SubM.cons 2 rfl (SubM.nil)) (SubL.nil) (Y.loadBAll 0 rfl rfl rfl rfl) (HistOk.b rfl HistOk.z) ?_
      refine JR.qtG rfl (SubM.nil) (SubL.nil) (Y.move rfl) (HistOk.b rfl HistOk.z) ?_
      refine JR.qtG rfl (SubM.nil) (SubL.nil) (Y.move rfl) (HistOk.b rfl HistOk.z) ?_
      refine JR.qtG rfl (SubM.nil) (SubL.nil) (Y.move rfl) (HistOk.b rfl HistOk.z) ?_
      replace h := bnd h; obtain ⟨r19, hr20, h⟩ := h
      refine JR.loudG rfl rfl rfl rfl (Loud.callL body23 (t_labels_Accepts fuel x5.1 x5.2.1 (List.zip x5.2.2 r3.2) x11.1 x11.2 r19 hr20) rfl (LentAll.cons (Lent.ar (Lent.res 3 rfl) FI64) (LentAll.cons (Lent.rows (i := 4) (j := 5) rfl rfl FI64I64p) (LentAll.cons (Lent.ar (Lent.res 0 rfl) FI64) (LentAll.cons (Lent.ar (Lent.res 1 rfl) FI64I64p) (LentAll.nil))))) (fun _ _ => rfl)) rfl (fun x21 => (BsOk.b rfl (BsOk.b rfl (BsOk.b rfl (BsOk.b rfl (BsOk.b rfl (BsOk.b rfl BsOk.z))))))) fun x21 => ?_
      refine JR.qtG rfl (SubM.nil) (SubL.nil) (Y.move rfl) (HistOk.h (SubM.nil) (SubL.nil) (HistOk.b rfl HistOk.z)) ?_
      refine JR.qtG rfl (SubM.cons 2 rfl (SubM.nil)) (SubL.nil) (Y.loadBAll 0 rfl rfl rfl rfl) (HistOk.h (SubM.cons 2 rfl (SubM.nil)) (SubL.nil) (HistOk.b rfl HistOk.z)) ?_
      refine JR.qtG rfl (SubM.nil) (SubL.nil) (Y.move rfl) (HistOk.h (SubM.nil) (SubL.nil) (HistOk.b rfl HistOk.z)) ?_
      refine JR.qtG rfl (SubM.nil) (SubL.nil) (Y.move rfl) (HistOk.h (SubM.nil) (SubL.nil) (HistOk.b rfl HistOk.z)) ?_
      refine JR.qtG rfl (SubM.nil) (SubL.nil) (Y.move rfl) (HistOk.h (SubM.nil) (SubL.nil) (HistOk.b rfl HistOk.z)) ?_
      replace h := bnd h; obtain ⟨r22, hr23, h⟩ := h
      refine JR.loudG rfl rfl rfl rfl (Loud.callL body24 (t_ref39_Accepts fuel x5.1 x5.2.1 (List.zip x5.2.2 r3.2) x11.1 x11.2 r22 hr23) rfl (LentAll.cons (Lent.ar (Lent.res 3 rfl) FI64) (LentAll.cons (Lent.rows (i := 4) (j := 5) rfl rfl FI64I64p) (LentAll.cons (Lent.ar (Lent.res 0 rfl) FI64) (LentAll.cons (Lent.ar (Lent.res 1 rfl) FI64I64p) (LentAll.nil))))) (fun _ _ => rfl)) rfl (fun x24 => (BsOk.b rfl (BsOk.b rfl (BsOk.b rfl (BsOk.b rfl (BsOk.b rfl (BsOk.b rfl (BsOk.b rfl (BsOk.b rfl (BsOk.b rfl (BsOk.b rfl (BsOk.b rfl BsOk.z)))))))))))) fun x24 => ?_
      refine JR.qtG rfl (SubM.nil) (SubL.nil) (Y.eqlB rfl rfl rfl) (HistOk.b rfl (HistOk.b rfl (HistOk.b rfl HistOk.z))) ?_
      refine JR.qt rfl (SubM.nil) (SubL.nil) (Y.pickT rfl rfl) (HistOk.b rfl (HistOk.b rfl (HistOk.b rfl HistOk.z))) ?_
      refine JR.qt rfl (SubM.nil) (SubL.nil) (Y.move rfl) (HistOk.b rfl (HistOk.b rfl (HistOk.b rfl HistOk.z))) ?_
      refine JR.guard (by exact rfl) (by exact rfl) (by exact rfl) (fun hp25 => ?_) (fun hp25 => ?_)
      · replace h := ifP hp25 h
        refine JR.qtG rfl (SubM.nil) (SubL.nil) (Y.move rfl) (HistOk.b rfl (HistOk.b rfl (HistOk.b rfl HistOk.z))) ?_
        refine JR.qtG rfl (SubM.cons 2 rfl (SubM.nil)) (SubL.nil) (Y.loadBAll 0 rfl rfl rfl rfl) (HistOk.b rfl (HistOk.b rfl (HistOk.b rfl HistOk.z))) ?_
        refine JR.qtG rfl (SubM.nil) (SubL.nil) (Y.move rfl) (HistOk.b rfl (HistOk.b rfl (HistOk.b rfl HistOk.z))) ?_
        refine JR.qtG rfl (SubM.nil) (SubL.nil) (Y.move rfl) (HistOk.b rfl (HistOk.b rfl (HistOk.b rfl HistOk.z))) ?_
        refine JR.qtG rfl (SubM.nil) (SubL.nil) (Y.move rfl) (HistOk.b rfl (HistOk.b rfl (HistOk.b rfl HistOk.z))) ?_
        refine JR.qtG rfl (SubM.nil) (SubL.nil) (Y.move rfl) (HistOk.b rfl (HistOk.b rfl (HistOk.b rfl HistOk.z))) ?_
        refine JR.qtG rfl (SubM.cons 1 rfl (SubM.nil)) (SubL.nil) (Y.lenS rfl (Lent.ar (Lent.res 0 rfl) FI64I64p) rfl) (HistOk.b rfl (HistOk.b rfl (HistOk.b rfl HistOk.z))) ?_
        replace h := bnd h; obtain ⟨r26, hr27, h⟩ := h
        refine JR.loudG rfl rfl rfl rfl (Loud.callL body14 (t_world_Within fuel  r26 hr27) rfl (LentAll.nil) (fun _ _ => rfl)) rfl (fun x28 => (BsOk.b rfl (BsOk.b rfl (BsOk.b rfl (BsOk.h (SubM.nil) (SubL.nil) (BsOk.h (SubM.nil) (SubL.nil) (BsOk.h (SubM.cons 2 rfl (SubM.nil)) (SubL.nil) (BsOk.h (SubM.nil) (SubL.nil) (BsOk.b rfl (BsOk.b rfl (BsOk.b rfl (BsOk.b rfl (BsOk.b rfl (BsOk.b rfl (BsOk.b rfl (BsOk.b rfl (BsOk.b rfl (BsOk.b rfl (BsOk.b rfl (BsOk.b rfl (BsOk.b rfl (BsOk.b rfl BsOk.z)))))))))))))))))))))) fun x28 => ?_
        replace h := bnd h; obtain ⟨r29, hr30, h⟩ := h
        refine JR.loudG rfl rfl rfl rfl (Loud.callL body23 (t_labels_Accepts fuel x5.1 x5.2.1 (List.zip x5.2.2 r3.2) x11.1 x11.2 r29 hr30) rfl (LentAll.cons (Lent.ar (Lent.res 3 rfl) FI64) (LentAll.cons (Lent.rows (i := 4) (j := 5) rfl rfl FI64I64p) (LentAll.cons (Lent.ar (Lent.res 0 rfl) FI64) (LentAll.cons (Lent.ar (Lent.res 1 rfl) FI64I64p) (LentAll.nil))))) (fun _ _ => rfl)) rfl (fun x31 => (BsOk.b rfl (BsOk.b rfl (BsOk.b rfl (BsOk.b rfl (BsOk.b rfl (BsOk.b rfl (BsOk.b rfl (BsOk.b rfl (BsOk.b rfl (BsOk.b rfl (BsOk.b rfl (BsOk.b rfl (BsOk.b rfl (BsOk.b rfl (BsOk.b rfl (BsOk.b rfl (BsOk.b rfl (BsOk.b rfl (BsOk.b rfl (BsOk.b rfl (BsOk.b rfl BsOk.z)))))))))))))))))))))) fun x31 => ?_
        refine JR.qtG rfl (SubM.nil) (SubL.nil) (Y.move rfl) (HistOk.h (SubM.nil) (SubL.nil) (HistOk.h (SubM.nil) (SubL.nil) (HistOk.b rfl (HistOk.b rfl (HistOk.b rfl HistOk.z))))) ?_
        refine JR.qtG rfl (SubM.cons 2 rfl (SubM.nil)) (SubL.nil) (Y.loadBAll 0 rfl rfl rfl rfl) (HistOk.h (SubM.cons 2 rfl (SubM.nil)) (SubL.nil) (HistOk.h (SubM.cons 2 rfl (SubM.nil)) (SubL.nil) (HistOk.b rfl (HistOk.b rfl (HistOk.b rfl HistOk.z))))) ?_
        refine JR.qtG rfl (SubM.nil) (SubL.nil) (Y.move rfl) (HistOk.h (SubM.nil) (SubL.nil) (HistOk.h (SubM.nil) (SubL.nil) (HistOk.b rfl (HistOk.b rfl (HistOk.b rfl HistOk.z))))) ?_
        refine JR.qtG rfl (SubM.nil) (SubL.nil) (Y.move rfl) (HistOk.h (SubM.nil) (SubL.nil) (HistOk.h (SubM.nil) (SubL.nil) (HistOk.b rfl (HistOk.b rfl (HistOk.b rfl HistOk.z))))) ?_
        refine JR.qtG rfl (SubM.nil) (SubL.nil) (Y.move rfl) (HistOk.h (SubM.nil) (SubL.nil) (HistOk.h (SubM.nil) (SubL.nil) (HistOk.b rfl (HistOk.b rfl (HistOk.b rfl HistOk.z))))) ?_
        refine JR.qtG rfl (SubM.nil) (SubL.nil) (Y.move rfl) (HistOk.h (SubM.nil) (SubL.nil) (HistOk.h (SubM.nil) (SubL.nil) (HistOk.b rfl (HistOk.b rfl (HistOk.b rfl HistOk.z))))) ?_
        refine JR.qtG rfl (SubM.cons 1 rfl (SubM.nil)) (SubL.nil) (Y.lenS rfl (Lent.ar (Lent.res 0 rfl) FI64I64p) rfl) (HistOk.h (SubM.cons 1 rfl (SubM.nil)) (SubL.nil) (HistOk.h (SubM.cons 1 rfl (SubM.nil)) (SubL.nil) (HistOk.b rfl (HistOk.b rfl (HistOk.b rfl HistOk.z))))) ?_
        replace h := bnd h; obtain ⟨r32, hr33, h⟩ := h
        refine JR.loudG rfl rfl rfl rfl (Loud.callL body14 (t_world_Within fuel  r32 hr33) rfl (LentAll.nil) (fun _ _ => rfl)) rfl (fun x34 => (BsOk.b rfl (BsOk.b rfl (BsOk.b rfl (BsOk.h (SubM.nil) (SubL.nil) (BsOk.h (SubM.nil) (SubL.nil) (BsOk.h (SubM.cons 2 rfl (SubM.nil)) (SubL.nil) (BsOk.h (SubM.nil) (SubL.nil) (BsOk.b rfl (BsOk.b rfl (BsOk.b rfl (BsOk.b rfl (BsOk.b rfl (BsOk.b rfl (BsOk.b rfl (BsOk.b rfl (BsOk.b rfl (BsOk.b rfl (BsOk.b rfl (BsOk.b rfl (BsOk.b rfl (BsOk.b rfl (BsOk.b rfl (BsOk.b rfl (BsOk.b rfl (BsOk.b rfl (BsOk.b rfl (BsOk.b rfl (BsOk.b rfl BsOk.z))))))))))))))))))))))))))))) fun x34 => ?_
        replace h := bnd h; obtain ⟨r35, hr36, h⟩ := h
        refine JR.loudG rfl rfl rfl rfl (Loud.callL body24 (t_ref39_Accepts fuel x5.1 x5.2.1 (List.zip x5.2.2 r3.2) x11.1 x11.2 r35 hr36) rfl (LentAll.cons (Lent.ar (Lent.res 3 rfl) FI64) (LentAll.cons (Lent.rows (i := 4) (j := 5) rfl rfl FI64I64p) (LentAll.cons (Lent.ar (Lent.res 0 rfl) FI64) (LentAll.cons (Lent.ar (Lent.res 1 rfl) FI64I64p) (LentAll.nil))))) (fun _ _ => rfl)) rfl (fun x37 => (BsOk.b rfl (BsOk.b rfl (BsOk.b rfl (BsOk.b rfl (BsOk.b rfl (BsOk.b rfl (BsOk.b rfl (BsOk.b rfl (BsOk.b rfl (BsOk.b rfl (BsOk.b rfl (BsOk.b rfl (BsOk.b rfl (BsOk.b rfl (BsOk.b rfl (BsOk.b rfl (BsOk.b rfl (BsOk.b rfl (BsOk.b rfl (BsOk.b rfl (BsOk.b rfl (BsOk.b rfl (BsOk.b rfl (BsOk.b rfl (BsOk.b rfl (BsOk.b rfl (BsOk.b rfl (BsOk.b rfl BsOk.z))))))))))))))))))))))))))))) fun x37 => ?_
        refine JR.qtG rfl (SubM.nil) (SubL.nil) (Y.eqlB rfl rfl rfl) (HistOk.b rfl (HistOk.b rfl (HistOk.b rfl (HistOk.b rfl (HistOk.b rfl (HistOk.b rfl (HistOk.b rfl HistOk.z))))))) ?_
        refine JR.qt rfl (SubM.nil) (SubL.nil) (Y.pickT rfl rfl) (HistOk.b rfl (HistOk.b rfl (HistOk.b rfl (HistOk.b rfl (HistOk.b rfl (HistOk.b rfl (HistOk.b rfl HistOk.z))))))) ?_
        refine JR.qt rfl (SubM.nil) (SubL.nil) (Y.move rfl) (HistOk.b rfl (HistOk.b rfl (HistOk.b rfl (HistOk.b rfl (HistOk.b rfl (HistOk.b rfl (HistOk.b rfl HistOk.z))))))) ?_
        refine JR.guard (by exact rfl) (by exact rfl) (by exact rfl) (fun hp38 => ?_) (fun hp38 => ?_)
        · replace h := ifP hp38 h
          refine JR.qtG rfl (SubM.nil) (SubL.nil) (Y.move rfl) (HistOk.b rfl (HistOk.b rfl (HistOk.b rfl (HistOk.b rfl (HistOk.b rfl (HistOk.b rfl (HistOk.b rfl HistOk.z))))))) ?_
          refine JR.qtG rfl (SubM.cons 2 rfl (SubM.nil)) (SubL.nil) (Y.loadBAll 0 rfl rfl rfl rfl) (HistOk.b rfl (HistOk.b rfl (HistOk.b rfl (HistOk.b rfl (HistOk.b rfl (HistOk.b rfl (HistOk.b rfl HistOk.z))))))) ?_
          refine JR.qtG rfl (SubM.nil) (SubL.nil) (Y.move rfl) (HistOk.b rfl (HistOk.b rfl (HistOk.b rfl (HistOk.b rfl (HistOk.b rfl (HistOk.b rfl (HistOk.b rfl HistOk.z))))))) ?_
          refine JR.qtG rfl (SubM.nil) (SubL.nil) (Y.move rfl) (HistOk.b rfl (HistOk.b rfl (HistOk.b rfl (HistOk.b rfl (HistOk.b rfl (HistOk.b rfl (HistOk.b rfl HistOk.z))))))) ?_
          replace h := bnd h; obtain ⟨r39, hr40, h⟩ := h
          refine JR.loudG rfl rfl rfl rfl (Loud.callL body25 (t_labels_Rejecting fuel x5.1 x5.2.1 (List.zip x5.2.2 r3.2) x11.1 x11.2 r39 hr40) rfl (LentAll.cons (Lent.ar (Lent.res 3 rfl) FI64) (LentAll.cons (Lent.rows (i := 4) (j := 5) rfl rfl FI64I64p) (LentAll.cons (Lent.ar (Lent.res 0 rfl) FI64) (LentAll.cons (Lent.ar (Lent.res 1 rfl) FI64I64p) (LentAll.nil))))) (fun _ _ => rfl)) rfl (fun x41 => (BsOk.b rfl (BsOk.b rfl (BsOk.b rfl (BsOk.b rfl (BsOk.b rfl (BsOk.b rfl (BsOk.b rfl (BsOk.b rfl (BsOk.b rfl (BsOk.b rfl (BsOk.b rfl (BsOk.b rfl (BsOk.b rfl (BsOk.b rfl (BsOk.b rfl (BsOk.b rfl (BsOk.b rfl (BsOk.b rfl (BsOk.b rfl (BsOk.b rfl (BsOk.b rfl (BsOk.b rfl (BsOk.b rfl (BsOk.b rfl (BsOk.b rfl (BsOk.b rfl (BsOk.b rfl (BsOk.b rfl (BsOk.b rfl (BsOk.b rfl (BsOk.b rfl (BsOk.b rfl (BsOk.b rfl (BsOk.b rfl (BsOk.b rfl BsOk.z)))))))))))))))))))))))))))))))))))) fun x41 => ?_
          refine JR.qtG rfl (SubM.nil) (SubL.nil) (Y.move rfl) (HistOk.h (SubM.nil) (SubL.nil) (HistOk.b rfl (HistOk.b rfl (HistOk.b rfl (HistOk.b rfl (HistOk.b rfl (HistOk.b rfl (HistOk.b rfl HistOk.z)))))))) ?_
          refine JR.qtG rfl (SubM.cons 2 rfl (SubM.nil)) (SubL.nil) (Y.loadBAll 0 rfl rfl rfl rfl) (HistOk.h (SubM.cons 2 rfl (SubM.nil)) (SubL.nil) (HistOk.b rfl (HistOk.b rfl (HistOk.b rfl (HistOk.b rfl (HistOk.b rfl (HistOk.b rfl (HistOk.b rfl HistOk.z)))))))) ?_
          refine JR.qtG rfl (SubM.nil) (SubL.nil) (Y.move rfl) (HistOk.h (SubM.nil) (SubL.nil) (HistOk.b rfl (HistOk.b rfl (HistOk.b rfl (HistOk.b rfl (HistOk.b rfl (HistOk.b rfl (HistOk.b rfl HistOk.z)))))))) ?_
          refine JR.qtG rfl (SubM.nil) (SubL.nil) (Y.move rfl) (HistOk.h (SubM.nil) (SubL.nil) (HistOk.b rfl (HistOk.b rfl (HistOk.b rfl (HistOk.b rfl (HistOk.b rfl (HistOk.b rfl (HistOk.b rfl HistOk.z)))))))) ?_
          refine JR.tailD 47 rfl rfl ?_
          replace h := bnd h; obtain ⟨r42, hr43, h⟩ := h
          refine J.loudG rfl (Loud.callL body26 (t_ref39_Rejecting fuel x5.1 x5.2.1 (List.zip x5.2.2 r3.2) x11.1 x11.2 r42 hr43) rfl (LentAll.cons (Lent.ar (Lent.res 3 rfl) FI64) (LentAll.cons (Lent.rows (i := 4) (j := 5) rfl rfl FI64I64p) (LentAll.cons (Lent.ar (Lent.res 0 rfl) FI64) (LentAll.cons (Lent.ar (Lent.res 1 rfl) FI64I64p) (LentAll.nil))))) (fun _ _ => rfl)) rfl fun x44 => ?_
          refine J.guardY rfl (Y.eql rfl rfl) rfl ?_
          refine J.quiet (Y.pickT rfl rfl) rfl ?_
          refine J.quiet (Y.assign rfl) rfl ?_
          refine J.done ?_
          refine J.thenN ?_
          exact J.meetI (decide (r39 = r42)) (()) h (by repeat (first | exact SubF.nil | refine SubF.cons rfl ?_)) (SubM.nil) (LentAll.refl _ _)
        · replace h := ifBN hp38 h
          refine JR.guardN rfl rfl rfl rfl ?_
          refine JR.guardN rfl rfl rfl rfl ?_
          refine JR.guardN rfl rfl rfl rfl ?_
          refine JR.guardN rfl rfl rfl rfl ?_
          refine JR.guardN rfl rfl rfl rfl ?_
          refine JR.guardN rfl rfl rfl rfl ?_
          refine JR.guardN rfl rfl rfl rfl ?_
          refine JR.guardN rfl rfl rfl rfl ?_
          refine JR.guardN rfl rfl rfl rfl ?_
          refine JR.tailD 47 rfl rfl ?_
          refine J.guardN rfl rfl rfl ?_
          refine J.guardN rfl rfl rfl ?_
          refine J.quiet (Y.pickF rfl rfl) rfl ?_
          refine J.quiet (Y.assign rfl) rfl ?_
          refine J.done ?_
          refine J.thenN ?_
          exact J.meetI (false) (()) h (by repeat (first | exact SubF.nil | refine SubF.cons rfl ?_)) (SubM.nil) (LentAll.refl _ _)
      · replace h := ifBN hp25 h
        refine JR.guardN rfl rfl rfl rfl ?_
        refine JR.guardN rfl rfl rfl rfl ?_
        refine JR.guardN rfl rfl rfl rfl ?_
        refine JR.guardN rfl rfl rfl rfl ?_
        refine JR.guardN rfl rfl rfl rfl ?_
        refine JR.guardN rfl rfl rfl rfl ?_
        refine JR.guardN rfl rfl rfl rfl ?_
        refine JR.guardN rfl rfl rfl rfl ?_
        refine JR.guardN rfl rfl rfl rfl ?_
        refine JR.guardN rfl rfl rfl rfl ?_
        refine JR.guardN rfl rfl rfl rfl ?_
        refine JR.guardN rfl rfl rfl rfl ?_
        refine JR.guardN rfl rfl rfl rfl ?_
        refine JR.guardN rfl rfl rfl rfl ?_
        refine JR.guardN rfl rfl rfl rfl ?_
        refine JR.guardN rfl rfl rfl rfl ?_
        refine JR.guardN rfl rfl rfl rfl ?_
        refine JR.guardN rfl rfl rfl rfl ?_
        refine JR.guardN rfl rfl rfl rfl ?_
        refine JR.qt rfl (SubM.nil) (SubL.nil) (Y.pickF rfl rfl) (HistOk.b rfl (HistOk.b rfl (HistOk.b rfl HistOk.z))) ?_
        refine JR.qt rfl (SubM.nil) (SubL.nil) (Y.move rfl) (HistOk.b rfl (HistOk.b rfl (HistOk.b rfl HistOk.z))) ?_
        refine JR.guardN rfl rfl rfl rfl ?_
        refine JR.guardN rfl rfl rfl rfl ?_
        refine JR.guardN rfl rfl rfl rfl ?_
        refine JR.guardN rfl rfl rfl rfl ?_
        refine JR.guardN rfl rfl rfl rfl ?_
        refine JR.guardN rfl rfl rfl rfl ?_
        refine JR.guardN rfl rfl rfl rfl ?_
        refine JR.guardN rfl rfl rfl rfl ?_
        refine JR.guardN rfl rfl rfl rfl ?_
        refine JR.tailD 47 rfl rfl ?_
        refine J.guardN rfl rfl rfl ?_
        refine J.guardN rfl rfl rfl ?_
        refine J.quiet (Y.pickF rfl rfl) rfl ?_
        refine J.quiet (Y.assign rfl) rfl ?_
        refine J.done ?_
        refine J.thenN ?_
        exact J.meetI (false) (()) h (by repeat (first | exact SubF.nil | refine SubF.cons rfl ?_)) (SubM.nil) (LentAll.refl _ _)
    · replace h := ifBN hp18 h
      refine JR.guardN rfl rfl rfl rfl ?_
      refine JR.guardN rfl rfl rfl rfl ?_
      refine JR.guardN rfl rfl rfl rfl ?_
      refine JR.guardN rfl rfl rfl rfl ?_
      refine JR.guardN rfl rfl rfl rfl ?_
      refine JR.guardN rfl rfl rfl rfl ?_
      refine JR.guardN rfl rfl rfl rfl ?_
      refine JR.guardN rfl rfl rfl rfl ?_
      refine JR.guardN rfl rfl rfl rfl ?_
      refine JR.guardN rfl rfl rfl rfl ?_
      refine JR.guardN rfl rfl rfl rfl ?_
      refine JR.guardN rfl rfl rfl rfl ?_
      refine JR.guardN rfl rfl rfl rfl ?_
      refine JR.qt rfl (SubM.nil) (SubL.nil) (Y.pickF rfl rfl) (HistOk.b rfl HistOk.z) ?_
      refine JR.qt rfl (SubM.nil) (SubL.nil) (Y.move rfl) (HistOk.b rfl HistOk.z) ?_
      refine JR.guardN rfl rfl rfl rfl ?_
      refine JR.guardN rfl rfl rfl rfl ?_
      refine JR.guardN rfl rfl rfl rfl ?_
      refine JR.guardN rfl rfl rfl rfl ?_
      refine JR.guardN rfl rfl rfl rfl ?_
      refine JR.guardN rfl rfl rfl rfl ?_
      refine JR.guardN rfl rfl rfl rfl ?_
      refine JR.guardN rfl rfl rfl rfl ?_
      refine JR.guardN rfl rfl rfl rfl ?_
      refine JR.guardN rfl rfl rfl rfl ?_
      refine JR.guardN rfl rfl rfl rfl ?_
      refine JR.guardN rfl rfl rfl rfl ?_
      refine JR.guardN rfl rfl rfl rfl ?_
      refine JR.guardN rfl rfl rfl rfl ?_
      refine JR.guardN rfl rfl rfl rfl ?_
      refine JR.guardN rfl rfl rfl rfl ?_
      refine JR.guardN rfl rfl rfl rfl ?_
      refine JR.guardN rfl rfl rfl rfl ?_
      refine JR.guardN rfl rfl rfl rfl ?_
      refine JR.qt rfl (SubM.nil) (SubL.nil) (Y.pickF rfl rfl) (HistOk.b rfl HistOk.z) ?_
      refine JR.qt rfl (SubM.nil) (SubL.nil) (Y.move rfl) (HistOk.b rfl HistOk.z) ?_
      refine JR.guardN rfl rfl rfl rfl ?_
      refine JR.guardN rfl rfl rfl rfl ?_
      refine JR.guardN rfl rfl rfl rfl ?_
      refine JR.guardN rfl rfl rfl rfl ?_
      refine JR.guardN rfl rfl rfl rfl ?_
      refine JR.guardN rfl rfl rfl rfl ?_
      refine JR.guardN rfl rfl rfl rfl ?_
      refine JR.guardN rfl rfl rfl rfl ?_
      refine JR.guardN rfl rfl rfl rfl ?_
      refine JR.tailD 47 rfl rfl ?_
      refine J.guardN rfl rfl rfl ?_
      refine J.guardN rfl rfl rfl ?_
      refine J.quiet (Y.pickF rfl rfl) rfl ?_
      refine J.quiet (Y.assign rfl) rfl ?_
      refine J.done ?_
      refine J.thenN ?_
      exact J.meetI (false) (()) h (by repeat (first | exact SubF.nil | refine SubF.cons rfl ?_)) (SubM.nil) (LentAll.refl _ _)
  · clear h
    intro a13 b14 h
    unfold law39_LabelsAccept_k1 at h
    refine J.ret ?_
    obtain rfl := Option.some.inj h
    exact J.retG1 (()) rfl rfl (RV.tmp rfl) (SubM.refl _) LentAll.nil

end Go.Proofs.Ytmajgimhmfeliaa
end
section
set_option linter.unusedVariables false
set_option linter.unusedSimpArgs false
namespace Go.Proofs.Ytmajgimhmfeliaa
open Go.Sx
/-- what shape answers -/
structure Shaped (g : GR) (r : Int × List Int × List (Int × Int)) : Prop where
  kind : 1 ≤ r.1 ∧ r.1 ≤ 4
  st : r.2.1.length = g.2.length
  lb : r.2.2.length = g.2.length
  fit : ∀ v : Nat, v < g.2.length → FitAt r.1 g v (at' r.2.1 (v : Int))

theorem shape_ok (y : Int × List (Int) × List (Int)) {g : GR} (h : VM g.1 g.2) : OK (Shaped g) (m__law39_Claimed__shape 1000 y g) := by
  have h24 := h.n24
  have h1 := h.n1
  have hlen := h.len
  have hV := h.vg
  unfold m__law39_Claimed__shape
  rw [bindS (within_eq _ _ (by decide) (by decide))]
  generalize hr : y.1 % 4 = r
  have r0 : 0 ≤ r := by rw [← hr]; exact Int.emod_nonneg _ (by decide)
  have r1 : r < 4 := by rw [← hr]; exact Int.emod_lt_of_pos _ (by decide)
  have ew : wI .i64 (1 + r) = 1 + r := wr (by omega) (by omega)
  refine iter_ok (fun s : List Int × List (Int × Int) × Int => ∃ k : Nat, s.2.2 = k ∧ k ≤ g.2.length ∧ s.1.length = k ∧ s.2.1.length = k ∧ ∀ v : Nat, v < k → FitAt (1 + r) g v (at' s.1 (v : Int))) (fun s => g.2.length - s.2.2.toNat) ?_ 1000 _ ⟨0, rfl, by omega, rfl, rfl, fun v hv => by omega⟩ (by dsimp only; omega)
  rintro ⟨st, l, i⟩ ag ⟨k, hk, hk2, hs, hl, hf⟩ hrec
  dsimp only at hk hs hl hf
  subst hk
  -- the last step: the lists grow
  have last : ∀ (s : Int) (p : Int × Int), FitAt (1 + r) g k s → k < g.2.length → OK (Shaped g) (_law39_Claimed__shape_k5 (st, l, (k : Int)) ag s p) := by
    intro s p hs' hkn
    unfold _law39_Claimed__shape_k5
    dsimp only
    rw [ckT (by simp; omega), ckT (by simp; omega), wr (by omega) (by omega)]
    refine hrec _ ⟨k + 1, by dsimp only; omega, by omega, by simp [hs], by simp [hl], fun v hv => ?_⟩ (by dsimp only; omega)
    by_cases hvk : v = k
    · subst hvk
      dsimp only
      rw [at_append st [] s v hs]; exact hs'
    · dsimp only
      have : at' (st ++ [s]) (v : Int) = at' st (v : Int) := by
        rw [at'_nat, at'_nat, List.getD_eq_getElem?_getD, List.getD_eq_getElem?_getD, List.getElem?_append_left (by omega)]
      rw [this]; exact hf v (by omega)
  have k6 : ∀ (ab : Int × Int) (s : Int) (b : Bool), FitAt (1 + r) g k s → k < g.2.length → OK (Shaped g) (_law39_Claimed__shape_k6 1000 g (st, l, (k : Int)) ag ab s b) := by
    intro ab s b hs' hkn
    unfold _law39_Claimed__shape_k6
    cases b with
    | true =>
      rw [if_pos rfl, bindS (within_eq _ _ (by omega) (by omega))]
      have a0 := Int.emod_nonneg ab.1 (show (g.2.length : Int) ≠ 0 by omega)
      have a1 := Int.emod_lt_of_pos ab.1 (show (0 : Int) < (g.2.length : Int) by omega)
      rw [ckT (by omega), wr (by omega) (by omega), bindS (within_eq _ _ (by omega) (by omega))]
      exact last _ _ hs' hkn
    | false =>
      rw [if_neg (by simp), bindS (within_eq _ _ (by decide) (by decide)), bindS (within_eq _ _ (by decide) (by decide))]
      exact last _ _ hs' hkn
  have k4 : ∀ (ab : Int × Int) (s : Int), FitAt (1 + r) g k s → k < g.2.length → OK (Shaped g) (_law39_Claimed__shape_k4 1000 g r (st, l, (k : Int)) ag ab s) := by
    intro ab s hs' hkn
    unfold _law39_Claimed__shape_k4
    rw [ew]
    by_cases h1 : 1 + r = 1
    · rw [if_pos h1]; exact k6 _ _ _ hs' hkn
    · rw [if_neg h1]; exact k6 _ _ _ hs' hkn
  have k7 : ∀ (x : Int) (ab : Int × Int) (b : Bool), (b = true ↔ 1 + r = 1 ∨ 1 + r = 4) → k < g.2.length → OK (Shaped g) (_law39_Claimed__shape_k7 1000 g r (st, l, (k : Int)) ag x ab b) := by
    intro x ab b hb hkn
    unfold _law39_Claimed__shape_k7
    cases b with
    | true =>
      have hd : (row g k).length < g.2.length := (hV.node k hkn).deg
      dsimp only
      have e : (at' g.2 (k : Int)).length = (row g k).length := rfl
      rw [if_pos rfl, ckT (by omega), wr (by omega) (by omega), bindS (within_eq _ _ (by omega) (by omega))]
      have a0 := Int.emod_nonneg x (show ((at' g.2 (k : Int)).length : Int) + 1 ≠ 0 by omega)
      have a1 := Int.emod_lt_of_pos x (show (0 : Int) < ((at' g.2 (k : Int)).length : Int) + 1 by omega)
      rw [wr (by omega) (by omega)]
      refine k4 _ _ ?_ hkn
      unfold FitAt
      rw [if_pos (hb.1 rfl)]
      omega
    | false =>
      have hb' : ¬ (1 + r = 1 ∨ 1 + r = 4) := fun hc => by have := hb.2 hc; cases this
      rw [if_neg (by simp), ew]
      by_cases h2 : 1 + r = 2
      · rw [if_pos h2, bindS (within_eq _ _ (by decide) (by decide))]
        refine k4 _ _ ?_ hkn
        unfold FitAt
        rw [if_neg hb', if_pos h2]
        omega
      · rw [if_neg h2]
        refine k4 _ _ ?_ hkn
        unfold FitAt
        rw [if_neg hb', if_neg h2]
  have k3 : ∀ (x : Int) (ab : Int × Int), k < g.2.length → OK (Shaped g) (_law39_Claimed__shape_k3 1000 g r (st, l, (k : Int)) ag x ab) := by
    intro x ab hkn
    unfold _law39_Claimed__shape_k3
    rw [ew]
    by_cases h1 : 1 + r = 1
    · rw [if_pos h1]; exact k7 _ _ _ (by rw [decide_eq_true_eq]; exact ⟨.inl, fun _ => h1⟩) hkn
    · rw [if_neg h1]; exact k7 _ _ _ (by rw [decide_eq_true_eq]; exact ⟨.inr, fun h => h.resolve_left h1⟩) hkn
  have k2 : ∀ (x : Int), k < g.2.length → OK (Shaped g) (_law39_Claimed__shape_k2 1000 y g r (st, l, (k : Int)) ag x) := by
    intro x hkn
    unfold _law39_Claimed__shape_k2
    dsimp only
    rw [wr (x := 2 * (k : Int)) (by omega) (by omega), wr (by omega) (by omega)]
    by_cases hc : 2 * (k : Int) + 1 < (y.2.2.length : Int)
    · rw [if_pos hc, ckT (by omega), ckT (by omega)]; exact k3 _ _ hkn
    · rw [if_neg hc]; exact k3 _ _ hkn
  unfold _law39_Claimed__shape_s1
  dsimp only
  by_cases hkn : (k : Int) < (g.2.length : Int)
  · rw [if_pos hkn]
    by_cases hc : (k : Int) < (y.2.1.length : Int)
    · rw [if_pos hc, ckT (by omega)]; exact k2 _ (by omega)
    · rw [if_neg hc]; exact k2 _ (by omega)
  · rw [if_neg hkn]
    unfold _law39_Claimed__shape_k1
    rw [ew]
    have hkk : k = g.2.length := by omega
    exact ⟨_, rfl, by dsimp only; omega, by dsimp only; omega, by dsimp only; omega, fun v hv => hf v (by omega)⟩

theorem pure_LabelsAccept (x : NETX) (y : Int × List (Int) × List (Int)) (v : Int) : m_law39_LabelsAccept 1000 x y v = some true := by
  obtain ⟨⟨ids, P⟩, e1, hV, _⟩ := any_ok x 8 (by decide) (by decide)
  obtain ⟨⟨kind, st, l⟩, e2, hS⟩ := shape_ok y hV
  have hlg := hV.light
  have h24 := hV.n24
  have h1 := hV.n1
  have hl : l.length = P.length := hS.lb
  dsimp only at h24 h1
  unfold m_law39_LabelsAccept
  have e1' : m__world_Net__Any 1000 x 8 = some (ids, P) := e1
  rw [bindS e1', bindS e2, bindS known_eq, if_pos rfl]
  dsimp only
  obtain ⟨r1, a1, b1⟩ := accepts_alike hlg kind st l v
  obtain ⟨r2, a2, b2⟩ := accepts_alike hlg kind st l (v % (l.length : Int))
  obtain ⟨r3, a3, b3⟩ := rejecting_alike hlg kind st l
  have hw := within_eq v (l.length : Int) (by omega) (by omega)
  rw [bindS a1, bindS b1, if_pos (by simp), bindS hw, bindS a2, bindS hw, bindS b2, if_pos (by simp), bindS a3, bindS b3, decide_eq_true rfl]
  rfl
end Go.Proofs.Ytmajgimhmfeliaa
end
