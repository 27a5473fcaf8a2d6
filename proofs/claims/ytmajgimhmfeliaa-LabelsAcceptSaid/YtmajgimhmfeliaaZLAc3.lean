/- Models of functions with their proofs, by program (gen/xt.py), and plain laws, in one text. Conditions: none. -/
import Derived.Test.YtmajgimhmfeliaaZLAc2
import Derived.Test.YtmajgimhmfeliaaZLAc1
import Derived.Test.YtmajgimhmfeliaaXp
section
set_option linter.unusedVariables false
set_option linter.unusedSimpArgs false
namespace Go.Proofs.Ytmajgimhmfeliaa
open Go.Sx
set_option linter.unusedVariables false
set_option linter.unusedSimpArgs false
def ref39_sees_k2  (a9 : Bool) : Option (Bool) :=
  some (a9)
def ref39_sees_k3  (a24 : Bool) : Option (Bool) :=
  some (a24)
def ref39_sees_k4  (a39 : Bool) : Option (Bool) :=
  some (a39)
def ref39_sees_k6  (a50 : Bool) : Option (Bool) :=
  some (a50)
def ref39_sees_k5 (p3 : List (Int × Int)) (p4 : Int) (r42 : Int) (a46 : Bool) : Option (Bool) :=
  if a46 = true then (some (false)) else (if ((at' p3 p4).1) = (0 : Int) then (ref39_sees_k6  (true)) else (if ((at' p3 p4).1) = (1 : Int) then (if (0 : Int) ≤ r42 then (ck (0 ≤ r42 ∧ r42 < (List.length p3 : Int)) (ref39_sees_k6  (decide (((at' p3 r42).1) = (0 : Int))))) else (ref39_sees_k6  (false))) else (ref39_sees_k6  (false))))
def ref39_sees_k1 (fuel : Nat) (p0 : Int) (p1 : List (Int) × (List (List (Int × Int)))) (p2 : List (Int)) (p3 : List (Int × Int)) (p4 : Int) (a5 : Bool) : Option (Bool) :=
  if p0 = (1 : Int) then (ck (0 ≤ p4 ∧ p4 < (List.length p2 : Int)) (if (at' p2 p4) < (0 : Int) then (ck (0 ≤ p4 ∧ p4 < (List.length p1.1 : Int)) (if ((at' p3 p4).1) = (at' p1.1 p4) then (if ((at' p3 p4).2) = (0 : Int) then (ref39_sees_k2  (true)) else (ck (0 ≤ p4 ∧ p4 < (List.length p2 : Int)) (if (0 : Int) ≤ (at' p2 p4) then (ref39_sees_k2  (a5)) else (ref39_sees_k2  (false))))) else (ck (0 ≤ p4 ∧ p4 < (List.length p2 : Int)) (if (0 : Int) ≤ (at' p2 p4) then (ref39_sees_k2  (a5)) else (ref39_sees_k2  (false)))))) else (ck (0 ≤ p4 ∧ p4 < (List.length p2 : Int)) (if (0 : Int) ≤ (at' p2 p4) then (ref39_sees_k2  (a5)) else (ref39_sees_k2  (false)))))) else (if p0 = (2 : Int) then (ck (0 ≤ p4 ∧ p4 < (List.length p2 : Int)) (if (at' p2 p4) = (1 : Int) then (ck (0 ≤ p4 ∧ p4 < (List.length p1.1 : Int)) (if ((at' p3 p4).1) = (at' p1.1 p4) then (if ((at' p3 p4).2) = (0 : Int) then (ref39_sees_k3  (true)) else (ck (0 ≤ p4 ∧ p4 < (List.length p2 : Int)) (if (at' p2 p4) = (0 : Int) then (ref39_sees_k3  (a5)) else (ref39_sees_k3  (false))))) else (ck (0 ≤ p4 ∧ p4 < (List.length p2 : Int)) (if (at' p2 p4) = (0 : Int) then (ref39_sees_k3  (a5)) else (ref39_sees_k3  (false)))))) else (ck (0 ≤ p4 ∧ p4 < (List.length p2 : Int)) (if (at' p2 p4) = (0 : Int) then (ref39_sees_k3  (a5)) else (ref39_sees_k3  (false)))))) else (if p0 = (3 : Int) then (if ((at' p3 p4).1) = (0 : Int) then (ref39_sees_k4  (true)) else (ref39_sees_k4  (decide (((at' p3 p4).1) = (1 : Int))))) else (Option.bind (m_ref39_partner fuel ((p1.1, p1.2)) p2 p4) fun r42 => (if (0 : Int) ≤ r42 then (ck (0 ≤ r42 ∧ r42 < (List.length p2 : Int)) (ck (0 ≤ p4 ∧ p4 < (List.length p2 : Int)) (Option.bind (m_ref01_Back fuel ((p1.1, p1.2)) p4 (at' p2 p4)) fun r59 => (ref39_sees_k5 p3 p4 r42 (decide ((at' p2 r42) ≠ r59)))))) else (ref39_sees_k5 p3 p4 r42 (false))))))
def ref39_sees_k7 (a65 : Bool × Int) (ag64 : (Bool × Int) → Option (Bool)) (a71 : Bool) : Option (Bool) :=
  ag64 (a71, (wI .i64 (a65.2 + (1 : Int))))
def ref39_sees_k9 (a65 : Bool × Int) (ag64 : (Bool × Int) → Option (Bool)) (a82 : Bool) : Option (Bool) :=
  if a82 = true then (ref39_sees_k7 a65 ag64 (true)) else (ref39_sees_k7 a65 ag64 (a65.1))
def ref39_sees_k10 (a65 : Bool × Int) (ag64 : (Bool × Int) → Option (Bool)) (a96 : Bool) : Option (Bool) :=
  if a96 = true then (some (false)) else (ref39_sees_k7 a65 ag64 (a65.1))
def ref39_sees_k8 (p0 : Int) (p1 : List (Int) × (List (List (Int × Int)))) (p2 : List (Int)) (p3 : List (Int × Int)) (p4 : Int) (a65 : Bool × Int) (ag64 : (Bool × Int) → Option (Bool)) (a76 : Bool) : Option (Bool) :=
  if a76 = true then (ck (0 ≤ ((at' (at' p1.2 p4) a65.2).1) ∧ ((at' (at' p1.2 p4) a65.2).1) < (List.length p3 : Int)) (if ((at' p3 ((at' (at' p1.2 p4) a65.2).1)).1) ≠ ((at' p3 p4).1) then (some (false)) else (if p0 = (2 : Int) then (if (1 : Int) ≤ ((at' p3 p4).2) then (ck (0 ≤ ((at' (at' p1.2 p4) a65.2).1) ∧ ((at' (at' p1.2 p4) a65.2).1) < (List.length p3 : Int)) (ref39_sees_k9 a65 ag64 (decide (((at' p3 ((at' (at' p1.2 p4) a65.2).1)).2) = (wI .i64 (((at' p3 p4).2) - (1 : Int))))))) else (ref39_sees_k9 a65 ag64 (false))) else (ck (0 ≤ p4 ∧ p4 < (List.length p2 : Int)) (if a65.2 = (at' p2 p4) then (if (1 : Int) ≤ ((at' p3 p4).2) then (ck (0 ≤ ((at' (at' p1.2 p4) a65.2).1) ∧ ((at' (at' p1.2 p4) a65.2).1) < (List.length p3 : Int)) (ref39_sees_k9 a65 ag64 (decide (((at' p3 ((at' (at' p1.2 p4) a65.2).1)).2) = (wI .i64 (((at' p3 p4).2) - (1 : Int))))))) else (ref39_sees_k9 a65 ag64 (false))) else (ref39_sees_k9 a65 ag64 (false))))))) else (if p0 = (3 : Int) then (ck (0 ≤ ((at' (at' p1.2 p4) a65.2).1) ∧ ((at' (at' p1.2 p4) a65.2).1) < (List.length p3 : Int)) (if ((at' p3 ((at' (at' p1.2 p4) a65.2).1)).1) ≠ (wI .i64 ((1 : Int) - ((at' p3 p4).1))) then (some (false)) else (ref39_sees_k7 a65 ag64 (a65.1)))) else (if ((at' p3 p4).1) ≠ (1 : Int) then (ck (0 ≤ ((at' (at' p1.2 p4) a65.2).1) ∧ ((at' (at' p1.2 p4) a65.2).1) < (List.length p3 : Int)) (ref39_sees_k10 a65 ag64 (decide (((at' p3 ((at' (at' p1.2 p4) a65.2).1)).1) ≠ (1 : Int))))) else (ref39_sees_k10 a65 ag64 (false))))
def ref39_sees_s1 (fuel : Nat) (p0 : Int) (p1 : List (Int) × (List (List (Int × Int)))) (p2 : List (Int)) (p3 : List (Int × Int)) (p4 : Int) (a65 : Bool × Int) (ag64 : (Bool × Int) → Option (Bool)) : Option (Bool) :=
  ck (0 ≤ p4 ∧ p4 < (List.length p1.2 : Int)) (if a65.2 < (List.length (at' p1.2 p4) : Int) then (ck (0 ≤ p4 ∧ p4 < (List.length p1.2 : Int)) (ck (0 ≤ a65.2 ∧ a65.2 < (List.length (at' p1.2 p4) : Int)) (if p0 = (1 : Int) then (ref39_sees_k8 p0 p1 p2 p3 p4 a65 ag64 (decide (p0 = (1 : Int)))) else (ref39_sees_k8 p0 p1 p2 p3 p4 a65 ag64 (decide (p0 = (2 : Int))))))) else (ref39_sees_k1 fuel p0 p1 p2 p3 p4 (a65.1)))
def m_ref39_sees (fuel : Nat) (p0 : Int) (p1 : List (Int) × (List (List (Int × Int)))) (p2 : List (Int)) (p3 : List (Int × Int)) (p4 : Int) : Option (Bool) :=
  ck (0 ≤ p4 ∧ p4 < (List.length p3 : Int)) (ck (0 ≤ p4 ∧ p4 < (List.length p3 : Int)) (iter (ref39_sees_s1 fuel p0 p1 p2 p3 p4) fuel (false, (0 : Int))))

theorem body50 : HasBody Try.prog 50 := Try.call50

set_option maxHeartbeats 4000000 in
set_option maxRecDepth 20000 in
theorem t_ref39_sees (fuel : Nat) {p0 : Int} {p1 : List (Int) × (List (List (Int × Int)))} {p2 : List (Int)} {p3 : List (Int × Int)} {p4 : Int} (v0 : Value)  (v1 : Value)  (z2 : List (Value × List (Int × Int)))  (v3 : Value)  (v4 : Value) (r : Bool) (h : m_ref39_sees fuel p0 p1 p2 p3 p4 = some r) :
    Meets Try.prog 50 #[Value.int .i64 (p0), Value.agg #[v0, v1], v3, v4, Value.int .i64 (p4)] [Sl RI64 v0 p1.1, S2 RI64I64p v1 z2 p1.2, Sl RI64 v3 p2, Sl RI64I64p v4 p3] (fun x : Unit => Value.bool (r)) (fun x l => l) (fun _ l => l) := by
  refine Meets.of (vs := [Value.int .i64 (p0), Value.agg #[v0, v1], v3, v4, Value.int .i64 (p4)]) Try.func50 rfl Try.ntmps50 rfl fun c => ?_
  unfold m_ref39_sees at h
  refine J.seq ?_
  refine J.region ?_
  refine J.loud (Loud.box (cs := [v0, v1]) rfl rfl) rfl fun b1 => ?_
  refine J.quiet (Y.assign rfl) rfl ?_
  refine J.done ?_
  refine J.thenN ?_
  refine J.seq ?_
  refine JR.start [0, 0, 3, 7, 15, 0, 0, 96, 224, 480, 31, 2047] 11 mixedOrders (by decide +kernel) ?_
  refine JR.open (by exact rfl) ?_
  refine JR.qt rfl (SubM.nil) (SubL.nil) (Y.move rfl) HistOk.z ?_
  refine JR.qt rfl (SubM.nil) (SubL.nil) (Y.move rfl) HistOk.z ?_
  replace h := ck_some h; obtain ⟨hc2, h⟩ := h
  refine JR.qt rfl (SubM.nil) (SubL.cons (List.mem_of_getElem? (i := 3) rfl) (SubL.nil)) (Y.indexS rfl rfl (Lent.fact 0 rfl) rfl rfl hc2) HistOk.z ?_
  refine JR.qt rfl (SubM.nil) (SubL.nil) (Y.indexEl (i := 0) rfl rfl rfl rfl rfl (by decide)) HistOk.z ?_
  refine JR.qt rfl (SubM.nil) (SubL.cons (List.mem_of_getElem? (i := 3) rfl) (SubL.nil)) (Y.loadS rfl (Lent.fact 0 rfl) rfl rfl rfl RI64I64pc0 hc2) HistOk.z ?_
  refine JR.qt rfl (SubM.nil) (SubL.nil) (Y.move rfl) HistOk.z ?_
  refine JR.qt rfl (SubM.nil) (SubL.nil) (Y.move rfl) HistOk.z ?_
  replace h := ck_some h; obtain ⟨hc3, h⟩ := h
  refine JR.qt rfl (SubM.nil) (SubL.cons (List.mem_of_getElem? (i := 3) rfl) (SubL.nil)) (Y.indexS rfl rfl (Lent.fact 0 rfl) rfl rfl hc3) HistOk.z ?_
  refine JR.qt rfl (SubM.nil) (SubL.nil) (Y.indexEl (i := 1) rfl rfl rfl rfl rfl (by decide)) HistOk.z ?_
  refine JR.qt rfl (SubM.nil) (SubL.cons (List.mem_of_getElem? (i := 3) rfl) (SubL.nil)) (Y.loadS rfl (Lent.fact 0 rfl) rfl rfl rfl RI64I64pc1 hc3) HistOk.z ?_
  refine JR.qt rfl (SubM.nil) (SubL.nil) (Y.assign rfl) HistOk.z ?_
  refine JR.tailD 11 rfl rfl ?_
  refine J.quiet (Y.assign rfl) rfl ?_
  refine J.done ?_
  refine J.thenN ?_
  refine J.seq ?_
  refine J.region ?_
  refine J.quiet (Y.assign rfl) rfl ?_
  refine J.done ?_
  refine J.thenN ?_
  refine J.seq ?_
  refine J.midI (A := Bool) (B := Unit) (fun a5 => ref39_sees_k1 fuel p0 p1 p2 p3 p4 a5 = some r) (fun a5 b6 => [(0, Value.int .i64 (p0)), (2, v3), (3, v4), (4, Value.int .i64 (p4)), (6, Value.pointer (some ⟨b1, 0, none⟩)), (11, Value.int .i64 ((at' p3 p4).1)), (12, Value.int .i64 ((at' p3 p4).2)), (13, Value.bool (a5))]) (fun a5 b6 => [Blk b1 [v0, v1] 29]) (fun a5 b6 => [Sl RI64 v0 p1.1, S2 RI64I64p v1 z2 p1.2, Sl RI64 v3 p2, Sl RI64I64p v4 p3]) ?_ ?_
  · refine J.seq ?_
    refine J.region ?_
    refine J.quiet (Y.assign rfl) rfl ?_
    refine J.done ?_
    refine J.thenN ?_
    refine J.block ?_
    refine J.loopI (A := Bool × Int) (B := Unit) (ref39_sees_s1 fuel p0 p1 p2 p3 p4) (fun a65 b66 => [(0, Value.int .i64 (p0)), (2, v3), (3, v4), (4, Value.int .i64 (p4)), (6, Value.pointer (some ⟨b1, 0, none⟩)), (11, Value.int .i64 ((at' p3 p4).1)), (12, Value.int .i64 ((at' p3 p4).2)), (13, Value.bool (a65.1)), (14, Value.int .i64 (a65.2))]) (fun a65 b66 => [Blk b1 [v0, v1] 29]) (fun a65 b66 => [Sl RI64 v0 p1.1, S2 RI64I64p v1 z2 p1.2, Sl RI64 v3 p2, Sl RI64I64p v4 p3]) (false, (0 : Int)) (()) h (by repeat (first | exact SubF.nil | refine SubF.cons rfl ?_)) (SubM.refl _) (LentAll.refl _ _) ?_
    clear h
    intro k67 a65 b66 h
    unfold ref39_sees_s1 at h
    refine J.seq ?_
    refine J.seq ?_
    refine J.region ?_
    refine J.quiet (Y.move rfl) rfl ?_
    refine J.quiet (Y.fieldB rfl rfl rfl rfl rfl) rfl ?_
    refine J.quiet (Y.loadB 0 rfl rfl rfl rfl rfl) rfl ?_
    refine J.quiet (Y.move rfl) rfl ?_
    replace h := ck_some h; obtain ⟨hc68, h⟩ := h
    refine J.quiet (Y.indexN rfl rfl (Lent.fact 1 rfl) rfl rfl hc68) rfl ?_
    refine J.quiet (Y.loadRow rfl (Lent.fact 1 rfl) rfl rfl hc68) rfl ?_
    refine J.quiet (Y.lenS rfl (Lent.el (Lent.fact 1 rfl) hc68.1 hc68.2) rfl) rfl ?_
    refine J.quiet (Y.lss rfl rfl) rfl ?_
    refine J.done ?_
    refine J.thenN ?_
    refine J.condD (by exact rfl) (fun hp69 => ?_) (fun hp69 => ?_)
    · replace h := ifP hp69 h
      refine J.skip ?_
      refine J.thenN ?_
      refine J.seq ?_
      refine J.midI (A := Bool) (B := Unit) (fun a71 => ref39_sees_k7 a65 (iter (ref39_sees_s1 fuel p0 p1 p2 p3 p4) k67) a71 = some r) (fun a71 b72 => [(0, Value.int .i64 (p0)), (2, v3), (3, v4), (4, Value.int .i64 (p4)), (6, Value.pointer (some ⟨b1, 0, none⟩)), (11, Value.int .i64 ((at' p3 p4).1)), (12, Value.int .i64 ((at' p3 p4).2)), (13, Value.bool (a71)), (14, Value.int .i64 (a65.2))]) (fun a71 b72 => [Blk b1 [v0, v1] 29]) (fun a71 b72 => [Sl RI64 v0 p1.1, S2 RI64I64p v1 z2 p1.2, Sl RI64 v3 p2, Sl RI64I64p v4 p3]) ?_ ?_
      · refine J.block ?_
        refine J.seq ?_
        refine J.region ?_
        refine J.quiet (Y.fieldB rfl rfl rfl rfl rfl) rfl ?_
        refine J.quiet (Y.loadB 0 rfl rfl rfl rfl rfl) rfl ?_
        refine J.quiet (Y.move rfl) rfl ?_
        replace h := ck_some h; obtain ⟨hc73, h⟩ := h
        refine J.quiet (Y.indexN rfl rfl (Lent.fact 1 rfl) rfl rfl hc73) rfl ?_
        refine J.quiet (Y.loadRow rfl (Lent.fact 1 rfl) rfl rfl hc73) rfl ?_
        refine J.quiet (Y.move rfl) rfl ?_
        replace h := ck_some h; obtain ⟨hc74, h⟩ := h
        refine J.quiet (Y.indexS rfl rfl (Lent.el (Lent.fact 1 rfl) hc73.1 hc73.2) rfl rfl hc74) rfl ?_
        refine J.quiet (Y.fieldEl rfl rfl rfl rfl rfl) rfl ?_
        refine J.quiet (Y.loadS rfl (Lent.el (Lent.fact 1 rfl) hc73.1 hc73.2) rfl rfl rfl RI64I64pc0 hc74) rfl ?_
        refine J.quiet (Y.assign rfl) rfl ?_
        refine J.done ?_
        refine J.thenN ?_
        refine J.seq ?_
        refine J.region ?_
        refine J.quiet (Y.move rfl) rfl ?_
        refine J.done ?_
        refine J.thenN ?_
        refine J.block ?_
        refine J.seq ?_
        refine J.midI (A := Bool) (B := Unit) (fun a76 => ref39_sees_k8 p0 p1 p2 p3 p4 a65 (iter (ref39_sees_s1 fuel p0 p1 p2 p3 p4) k67) a76 = some r) (fun a76 b77 => [(0, Value.int .i64 (p0)), (2, v3), (3, v4), (4, Value.int .i64 (p4)), (6, Value.pointer (some ⟨b1, 0, none⟩)), (11, Value.int .i64 ((at' p3 p4).1)), (12, Value.int .i64 ((at' p3 p4).2)), (13, Value.bool (a65.1)), (14, Value.int .i64 (a65.2)), (15, Value.int .i64 ((at' (at' p1.2 p4) a65.2).1)), (46, Value.int .i64 (p0)), (57, Value.bool (a76))]) (fun a76 b77 => [Blk b1 [v0, v1] 29]) (fun a76 b77 => [Sl RI64 v0 p1.1, S2 RI64I64p v1 z2 p1.2, Sl RI64 v3 p2, Sl RI64I64p v4 p3]) ?_ ?_
        · refine J.seq ?_
          refine J.region ?_
          refine J.quiet (Y.eql rfl rfl) rfl ?_
          refine J.quiet (Y.assign rfl) rfl ?_
          refine J.done ?_
          refine J.thenN ?_
          refine J.condD (by exact rfl) (fun hp101 => ?_) (fun hp101 => ?_)
          · replace h := ifP hp101 h
            refine J.skip ?_
            refine J.thenN ?_
            exact J.meetI (decide (p0 = (1 : Int))) (()) h (by repeat (first | exact SubF.nil | refine SubF.cons rfl ?_)) (SubM.refl _) (LentAll.refl _ _)
          · replace h := ifN hp101 h
            refine J.region ?_
            refine J.quiet (Y.eql rfl rfl) rfl ?_
            refine J.quiet (Y.assign rfl) rfl ?_
            refine J.done ?_
            refine J.thenN ?_
            exact J.meetI (decide (p0 = (2 : Int))) (()) h (by repeat (first | exact SubF.nil | refine SubF.cons rfl ?_)) (SubM.refl _) (LentAll.refl _ _)
        · clear h
          intro a76 b77 h
          unfold ref39_sees_k8 at h
          refine J.cond (by exact rfl) (fun hp78 => ?_) (fun hp78 => ?_)
          · replace h := ifP hp78 h
            refine J.seq ?_
            refine J.seq ?_
            refine J.region ?_
            refine J.quiet (Y.move rfl) rfl ?_
            refine J.quiet (Y.move rfl) rfl ?_
            replace h := ck_some h; obtain ⟨hc79, h⟩ := h
            refine J.quiet (Y.indexS rfl rfl (Lent.fact 3 rfl) rfl rfl hc79) rfl ?_
            refine J.quiet (Y.indexEl (i := 0) rfl rfl rfl rfl rfl (by decide)) rfl ?_
            refine J.quiet (Y.loadS rfl (Lent.fact 3 rfl) rfl rfl rfl RI64I64pc0 hc79) rfl ?_
            refine J.quiet (Y.move rfl) rfl ?_
            refine J.quiet (Y.neq rfl rfl) rfl ?_
            refine J.done ?_
            refine J.thenN ?_
            refine J.condD (by exact rfl) (fun hp80 => ?_) (fun hp80 => ?_)
            · replace h := ifP hp80 h
              refine J.seq ?_
              refine J.region ?_
              refine J.quiet (Y.assign rfl) rfl ?_
              refine J.done ?_
              refine J.thenN ?_
              refine J.ret ?_
              refine J.thenR ?_
              refine J.inR ?_
              refine J.inR ?_
              refine J.thenR ?_
              refine J.thenR ?_
              refine J.inR ?_
              refine J.thenR ?_
              obtain rfl := Option.some.inj h
              exact J.retG1 (()) rfl rfl (RV.tmp rfl) (SubM.nil) LentAll.nil
            · replace h := ifN hp80 h
              refine J.skip ?_
              refine J.thenN ?_
              refine J.seq ?_
              refine J.midI (A := Bool) (B := Unit) (fun a82 => ref39_sees_k9 a65 (iter (ref39_sees_s1 fuel p0 p1 p2 p3 p4) k67) a82 = some r) (fun a82 b83 => [(0, Value.int .i64 (p0)), (2, v3), (3, v4), (4, Value.int .i64 (p4)), (6, Value.pointer (some ⟨b1, 0, none⟩)), (11, Value.int .i64 ((at' p3 p4).1)), (12, Value.int .i64 ((at' p3 p4).2)), (13, Value.bool (a65.1)), (14, Value.int .i64 (a65.2)), (90, Value.bool (a82))]) (fun a82 b83 => [Blk b1 [v0, v1] 29]) (fun a82 b83 => [Sl RI64 v0 p1.1, S2 RI64I64p v1 z2 p1.2, Sl RI64 v3 p2, Sl RI64I64p v4 p3]) ?_ ?_
              · refine J.region ?_
                refine J.quiet (Y.move rfl) rfl ?_
                refine J.quiet (Y.eql rfl rfl) rfl ?_
                refine J.quiet (Y.move rfl) rfl ?_
                refine J.guardD (by exact rfl) (by exact rfl) (fun hp85 => ?_) (fun hp85 => ?_)
                · replace h := ifP hp85 h
                  refine J.guardN rfl rfl rfl ?_
                  refine J.guardN rfl rfl rfl ?_
                  refine J.guardN rfl rfl rfl ?_
                  refine J.guardN rfl rfl rfl ?_
                  refine J.guardN rfl rfl rfl ?_
                  refine J.guardN rfl rfl rfl ?_
                  refine J.quiet (Y.pickT rfl rfl) rfl ?_
                  refine J.quiet (Y.move rfl) rfl ?_
                  refine J.guardY rfl (Y.move rfl) rfl ?_
                  refine J.guardY rfl (Y.geq rfl rfl) rfl ?_
                  refine J.quiet (Y.pickT rfl rfl) rfl ?_
                  refine J.quiet (Y.move rfl) rfl ?_
                  refine J.guardD (by exact rfl) (by exact rfl) (fun hp86 => ?_) (fun hp86 => ?_)
                  · replace h := ifP hp86 h
                    refine J.guardY rfl (Y.move rfl) rfl ?_
                    refine J.guardY rfl (Y.move rfl) rfl ?_
                    replace h := ck_some h; obtain ⟨hc87, h⟩ := h
                    refine J.guardY rfl (Y.indexS rfl rfl (Lent.fact 3 rfl) rfl rfl hc87) rfl ?_
                    refine J.guardY rfl (Y.indexEl (i := 1) rfl rfl rfl rfl rfl (by decide)) rfl ?_
                    refine J.guardY rfl (Y.loadS rfl (Lent.fact 3 rfl) rfl rfl rfl RI64I64pc1 hc87) rfl ?_
                    refine J.guardY rfl (Y.move rfl) rfl ?_
                    refine J.guardY rfl (Y.subW rfl rfl) rfl ?_
                    refine J.guardY rfl (Y.eql rfl rfl) rfl ?_
                    refine J.quiet (Y.pickT rfl rfl) rfl ?_
                    refine J.done ?_
                    refine J.thenN ?_
                    exact J.meetI (decide (((at' p3 ((at' (at' p1.2 p4) a65.2).1)).2) = (wI .i64 (((at' p3 p4).2) - (1 : Int))))) (()) h (by repeat (first | exact SubF.nil | refine SubF.cons rfl ?_)) (SubM.refl _) (LentAll.refl _ _)
                  · replace h := ifN hp86 h
                    refine J.guardN rfl rfl rfl ?_
                    refine J.guardN rfl rfl rfl ?_
                    refine J.guardN rfl rfl rfl ?_
                    refine J.guardN rfl rfl rfl ?_
                    refine J.guardN rfl rfl rfl ?_
                    refine J.guardN rfl rfl rfl ?_
                    refine J.guardN rfl rfl rfl ?_
                    refine J.guardN rfl rfl rfl ?_
                    refine J.quiet (Y.pickF rfl rfl) rfl ?_
                    refine J.done ?_
                    refine J.thenN ?_
                    exact J.meetI (false) (()) h (by repeat (first | exact SubF.nil | refine SubF.cons rfl ?_)) (SubM.refl _) (LentAll.refl _ _)
                · replace h := ifN hp85 h
                  refine J.guardY rfl (Y.move rfl) rfl ?_
                  refine J.guardY rfl (Y.move rfl) rfl ?_
                  refine J.guardY rfl (Y.move rfl) rfl ?_
                  replace h := ck_some h; obtain ⟨hc88, h⟩ := h
                  refine J.guardY rfl (Y.indexS rfl rfl (Lent.fact 2 rfl) rfl rfl hc88) rfl ?_
                  refine J.guardY rfl (Y.loadS0 rfl (Lent.fact 2 rfl) rfl rfl rfl RI64c0 hc88) rfl ?_
                  refine J.guardY rfl (Y.eql rfl rfl) rfl ?_
                  refine J.quiet (Y.pickF rfl rfl) rfl ?_
                  refine J.quiet (Y.move rfl) rfl ?_
                  refine J.guardD (by exact rfl) (by exact rfl) (fun hp89 => ?_) (fun hp89 => ?_)
                  · replace h := ifP hp89 h
                    refine J.guardY rfl (Y.move rfl) rfl ?_
                    refine J.guardY rfl (Y.geq rfl rfl) rfl ?_
                    refine J.quiet (Y.pickT rfl rfl) rfl ?_
                    refine J.quiet (Y.move rfl) rfl ?_
                    refine J.guardD (by exact rfl) (by exact rfl) (fun hp90 => ?_) (fun hp90 => ?_)
                    · replace h := ifP hp90 h
                      refine J.guardY rfl (Y.move rfl) rfl ?_
                      refine J.guardY rfl (Y.move rfl) rfl ?_
                      replace h := ck_some h; obtain ⟨hc91, h⟩ := h
                      refine J.guardY rfl (Y.indexS rfl rfl (Lent.fact 3 rfl) rfl rfl hc91) rfl ?_
                      refine J.guardY rfl (Y.indexEl (i := 1) rfl rfl rfl rfl rfl (by decide)) rfl ?_
                      refine J.guardY rfl (Y.loadS rfl (Lent.fact 3 rfl) rfl rfl rfl RI64I64pc1 hc91) rfl ?_
                      refine J.guardY rfl (Y.move rfl) rfl ?_
                      refine J.guardY rfl (Y.subW rfl rfl) rfl ?_
                      refine J.guardY rfl (Y.eql rfl rfl) rfl ?_
                      refine J.quiet (Y.pickT rfl rfl) rfl ?_
                      refine J.done ?_
                      refine J.thenN ?_
                      exact J.meetI (decide (((at' p3 ((at' (at' p1.2 p4) a65.2).1)).2) = (wI .i64 (((at' p3 p4).2) - (1 : Int))))) (()) h (by repeat (first | exact SubF.nil | refine SubF.cons rfl ?_)) (SubM.refl _) (LentAll.refl _ _)
                    · replace h := ifN hp90 h
                      refine J.guardN rfl rfl rfl ?_
                      refine J.guardN rfl rfl rfl ?_
                      refine J.guardN rfl rfl rfl ?_
                      refine J.guardN rfl rfl rfl ?_
                      refine J.guardN rfl rfl rfl ?_
                      refine J.guardN rfl rfl rfl ?_
                      refine J.guardN rfl rfl rfl ?_
                      refine J.guardN rfl rfl rfl ?_
                      refine J.quiet (Y.pickF rfl rfl) rfl ?_
                      refine J.done ?_
                      refine J.thenN ?_
                      exact J.meetI (false) (()) h (by repeat (first | exact SubF.nil | refine SubF.cons rfl ?_)) (SubM.refl _) (LentAll.refl _ _)
                  · replace h := ifN hp89 h
                    refine J.guardN rfl rfl rfl ?_
                    refine J.guardN rfl rfl rfl ?_
                    refine J.quiet (Y.pickF rfl rfl) rfl ?_
                    refine J.quiet (Y.move rfl) rfl ?_
                    refine J.guardN rfl rfl rfl ?_
                    refine J.guardN rfl rfl rfl ?_
                    refine J.guardN rfl rfl rfl ?_
                    refine J.guardN rfl rfl rfl ?_
                    refine J.guardN rfl rfl rfl ?_
                    refine J.guardN rfl rfl rfl ?_
                    refine J.guardN rfl rfl rfl ?_
                    refine J.guardN rfl rfl rfl ?_
                    refine J.quiet (Y.pickF rfl rfl) rfl ?_
                    refine J.done ?_
                    refine J.thenN ?_
                    exact J.meetI (false) (()) h (by repeat (first | exact SubF.nil | refine SubF.cons rfl ?_)) (SubM.refl _) (LentAll.refl _ _)
              · clear h
                intro a82 b83 h
                unfold ref39_sees_k9 at h
                refine J.cond (by exact rfl) (fun hp84 => ?_) (fun hp84 => ?_)
                · replace h := ifP hp84 h
                  refine J.region ?_
                  refine J.quiet (Y.assign rfl) rfl ?_
                  refine J.done ?_
                  refine J.inN ?_
                  refine J.inN ?_
                  refine J.thenN ?_
                  exact J.meetI (true) (()) h (by repeat (first | exact SubF.nil | refine SubF.cons rfl ?_)) (SubM.refl _) (LentAll.refl _ _)
                · replace h := ifBN hp84 h
                  refine J.skip ?_
                  refine J.inN ?_
                  refine J.inN ?_
                  refine J.thenN ?_
                  exact J.meetI (a65.1) (()) h (by repeat (first | exact SubF.nil | refine SubF.cons rfl ?_)) (SubM.refl _) (LentAll.refl _ _)
          · replace h := ifBN hp78 h
            refine J.seq ?_
            refine J.region ?_
            refine J.quiet (Y.eql rfl rfl) rfl ?_
            refine J.quiet (Y.assign rfl) rfl ?_
            refine J.done ?_
            refine J.thenN ?_
            refine J.condD (by exact rfl) (fun hp92 => ?_) (fun hp92 => ?_)
            · replace h := ifP hp92 h
              refine J.seq ?_
              refine J.region ?_
              refine J.quiet (Y.move rfl) rfl ?_
              refine J.quiet (Y.move rfl) rfl ?_
              replace h := ck_some h; obtain ⟨hc93, h⟩ := h
              refine J.quiet (Y.indexS rfl rfl (Lent.fact 3 rfl) rfl rfl hc93) rfl ?_
              refine J.quiet (Y.indexEl (i := 0) rfl rfl rfl rfl rfl (by decide)) rfl ?_
              refine J.quiet (Y.loadS rfl (Lent.fact 3 rfl) rfl rfl rfl RI64I64pc0 hc93) rfl ?_
              refine J.quiet (Y.move rfl) rfl ?_
              refine J.quiet (Y.subW rfl rfl) rfl ?_
              refine J.quiet (Y.neq rfl rfl) rfl ?_
              refine J.done ?_
              refine J.thenN ?_
              refine J.condD (by exact rfl) (fun hp94 => ?_) (fun hp94 => ?_)
              · replace h := ifP hp94 h
                refine J.seq ?_
                refine J.region ?_
                refine J.quiet (Y.assign rfl) rfl ?_
                refine J.done ?_
                refine J.thenN ?_
                refine J.ret ?_
                refine J.inR ?_
                refine J.inR ?_
                refine J.thenR ?_
                refine J.thenR ?_
                refine J.inR ?_
                refine J.thenR ?_
                obtain rfl := Option.some.inj h
                exact J.retG1 (()) rfl rfl (RV.tmp rfl) (SubM.nil) LentAll.nil
              · replace h := ifN hp94 h
                refine J.skip ?_
                refine J.inN ?_
                refine J.inN ?_
                refine J.thenN ?_
                exact J.meetI (a65.1) (()) h (by repeat (first | exact SubF.nil | refine SubF.cons rfl ?_)) (SubM.refl _) (LentAll.refl _ _)
            · replace h := ifN hp92 h
              refine J.seq ?_
              refine J.midI (A := Bool) (B := Unit) (fun a96 => ref39_sees_k10 a65 (iter (ref39_sees_s1 fuel p0 p1 p2 p3 p4) k67) a96 = some r) (fun a96 b97 => [(0, Value.int .i64 (p0)), (2, v3), (3, v4), (4, Value.int .i64 (p4)), (6, Value.pointer (some ⟨b1, 0, none⟩)), (11, Value.int .i64 ((at' p3 p4).1)), (12, Value.int .i64 ((at' p3 p4).2)), (13, Value.bool (a65.1)), (14, Value.int .i64 (a65.2)), (56, Value.bool (a96))]) (fun a96 b97 => [Blk b1 [v0, v1] 29]) (fun a96 b97 => [Sl RI64 v0 p1.1, S2 RI64I64p v1 z2 p1.2, Sl RI64 v3 p2, Sl RI64I64p v4 p3]) ?_ ?_
              · refine J.region ?_
                refine J.quiet (Y.move rfl) rfl ?_
                refine J.quiet (Y.neq rfl rfl) rfl ?_
                refine J.quiet (Y.move rfl) rfl ?_
                refine J.guardD (by exact rfl) (by exact rfl) (fun hp99 => ?_) (fun hp99 => ?_)
                · replace h := ifP hp99 h
                  refine J.guardY rfl (Y.move rfl) rfl ?_
                  refine J.guardY rfl (Y.move rfl) rfl ?_
                  replace h := ck_some h; obtain ⟨hc100, h⟩ := h
                  refine J.guardY rfl (Y.indexS rfl rfl (Lent.fact 3 rfl) rfl rfl hc100) rfl ?_
                  refine J.guardY rfl (Y.indexEl (i := 0) rfl rfl rfl rfl rfl (by decide)) rfl ?_
                  refine J.guardY rfl (Y.loadS rfl (Lent.fact 3 rfl) rfl rfl rfl RI64I64pc0 hc100) rfl ?_
                  refine J.guardY rfl (Y.neq rfl rfl) rfl ?_
                  refine J.quiet (Y.pickT rfl rfl) rfl ?_
                  refine J.done ?_
                  refine J.thenN ?_
                  exact J.meetI (decide (((at' p3 ((at' (at' p1.2 p4) a65.2).1)).1) ≠ (1 : Int))) (()) h (by repeat (first | exact SubF.nil | refine SubF.cons rfl ?_)) (SubM.refl _) (LentAll.refl _ _)
                · replace h := ifN hp99 h
                  refine J.guardN rfl rfl rfl ?_
                  refine J.guardN rfl rfl rfl ?_
                  refine J.guardN rfl rfl rfl ?_
                  refine J.guardN rfl rfl rfl ?_
                  refine J.guardN rfl rfl rfl ?_
                  refine J.guardN rfl rfl rfl ?_
                  refine J.quiet (Y.pickF rfl rfl) rfl ?_
                  refine J.done ?_
                  refine J.thenN ?_
                  exact J.meetI (false) (()) h (by repeat (first | exact SubF.nil | refine SubF.cons rfl ?_)) (SubM.refl _) (LentAll.refl _ _)
              · clear h
                intro a96 b97 h
                unfold ref39_sees_k10 at h
                refine J.cond (by exact rfl) (fun hp98 => ?_) (fun hp98 => ?_)
                · replace h := ifP hp98 h
                  refine J.seq ?_
                  refine J.region ?_
                  refine J.quiet (Y.assign rfl) rfl ?_
                  refine J.done ?_
                  refine J.thenN ?_
                  refine J.ret ?_
                  refine J.inR ?_
                  refine J.inR ?_
                  refine J.thenR ?_
                  refine J.thenR ?_
                  refine J.inR ?_
                  refine J.thenR ?_
                  obtain rfl := Option.some.inj h
                  exact J.retG1 (()) rfl rfl (RV.tmp rfl) (SubM.nil) LentAll.nil
                · replace h := ifBN hp98 h
                  refine J.skip ?_
                  refine J.inN ?_
                  refine J.inN ?_
                  refine J.thenN ?_
                  exact J.meetI (a65.1) (()) h (by repeat (first | exact SubF.nil | refine SubF.cons rfl ?_)) (SubM.refl _) (LentAll.refl _ _)
      · clear h
        intro a71 b72 h
        unfold ref39_sees_k7 at h
        refine J.region ?_
        refine J.quiet (Y.move rfl) rfl ?_
        refine J.quiet (Y.addW rfl rfl) rfl ?_
        refine J.quiet (Y.assign rfl) rfl ?_
        refine J.done ?_
        refine J.thenN ?_
        exact J.againI (a71, (wI .i64 (a65.2 + (1 : Int)))) (()) h (by repeat (first | exact SubF.nil | refine SubF.cons rfl ?_)) (SubM.refl _) (LentAll.refl _ _)
    · replace h := ifN hp69 h
      refine J.exit ?_
      refine J.thenX ?_
      refine J.thenX ?_
      refine J.inX ?_
      refine J.thenN ?_
      exact J.meetI (a65.1) (()) h (by repeat (first | exact SubF.nil | refine SubF.cons rfl ?_)) (SubM.refl _) (LentAll.refl _ _)
  · clear h
    intro a5 b6 h
    unfold ref39_sees_k1 at h
    refine J.seq ?_
    refine J.seq ?_
    refine J.region ?_
    refine J.quiet (Y.move rfl) rfl ?_
    refine J.done ?_
    refine J.thenN ?_
    refine J.block ?_
    refine J.seq ?_
    refine J.region ?_
    refine J.quiet (Y.eql rfl rfl) rfl ?_
    refine J.quiet (Y.assign rfl) rfl ?_
    refine J.done ?_
    refine J.thenN ?_
    refine J.condD (by exact rfl) (fun hp7 => ?_) (fun hp7 => ?_)
    · replace h := ifP hp7 h
      refine J.seq ?_
      refine J.midI (A := Bool) (B := Unit) (fun a9 => ref39_sees_k2  a9 = some r) (fun a9 b10 => [(10, Value.bool (a9))]) (fun a9 b10 => []) (fun a9 b10 => [Sl RI64 v0 p1.1, S2 RI64I64p v1 z2 p1.2, Sl RI64 v3 p2, Sl RI64I64p v4 p3]) ?_ ?_
      · refine J.region ?_
        refine J.quiet (Y.move rfl) rfl ?_
        refine J.quiet (Y.move rfl) rfl ?_
        replace h := ck_some h; obtain ⟨hc11, h⟩ := h
        refine J.quiet (Y.indexS rfl rfl (Lent.fact 2 rfl) rfl rfl hc11) rfl ?_
        refine J.quiet (Y.loadS0 rfl (Lent.fact 2 rfl) rfl rfl rfl RI64c0 hc11) rfl ?_
        refine J.quiet (Y.lss rfl rfl) rfl ?_
        refine J.quiet (Y.move rfl) rfl ?_
        refine J.guardD (by exact rfl) (by exact rfl) (fun hp12 => ?_) (fun hp12 => ?_)
        · replace h := ifP hp12 h
          refine J.guardY rfl (Y.move rfl) rfl ?_
          refine J.guardY rfl (Y.fieldB rfl rfl rfl rfl rfl) rfl ?_
          refine J.guardY rfl (Y.loadB 0 rfl rfl rfl rfl rfl) rfl ?_
          refine J.guardY rfl (Y.move rfl) rfl ?_
          replace h := ck_some h; obtain ⟨hc13, h⟩ := h
          refine J.guardY rfl (Y.indexS rfl rfl (Lent.fact 0 rfl) rfl rfl hc13) rfl ?_
          refine J.guardY rfl (Y.loadS0 rfl (Lent.fact 0 rfl) rfl rfl rfl RI64c0 hc13) rfl ?_
          refine J.guardY rfl (Y.eql rfl rfl) rfl ?_
          refine J.quiet (Y.pickT rfl rfl) rfl ?_
          refine J.quiet (Y.move rfl) rfl ?_
          refine J.guardD (by exact rfl) (by exact rfl) (fun hp14 => ?_) (fun hp14 => ?_)
          · replace h := ifP hp14 h
            refine J.guardY rfl (Y.move rfl) rfl ?_
            refine J.guardY rfl (Y.eql rfl rfl) rfl ?_
            refine J.quiet (Y.pickT rfl rfl) rfl ?_
            refine J.quiet (Y.move rfl) rfl ?_
            refine J.guardD (by exact rfl) (by exact rfl) (fun hp15 => ?_) (fun hp15 => ?_)
            · replace h := ifP hp15 h
              refine J.guardN rfl rfl rfl ?_
              refine J.guardN rfl rfl rfl ?_
              refine J.guardN rfl rfl rfl ?_
              refine J.guardN rfl rfl rfl ?_
              refine J.guardN rfl rfl rfl ?_
              refine J.guardN rfl rfl rfl ?_
              refine J.qu (h := ?_)
              refine J.guardN rfl rfl rfl ?_
              refine J.quiet (Y.pickT rfl rfl) rfl ?_
              refine J.quiet (Y.assign rfl) rfl ?_
              refine J.done ?_
              refine J.thenN ?_
              exact J.meetI (true) (()) h (by repeat (first | exact SubF.nil | refine SubF.cons rfl ?_)) (SubM.nil) (LentAll.refl _ _)
            · replace h := ifN hp15 h
              refine J.guardY rfl (Y.move rfl) rfl ?_
              refine J.guardY rfl (Y.move rfl) rfl ?_
              replace h := ck_some h; obtain ⟨hc16, h⟩ := h
              refine J.guardY rfl (Y.indexS rfl rfl (Lent.fact 2 rfl) rfl rfl hc16) rfl ?_
              refine J.guardY rfl (Y.loadS0 rfl (Lent.fact 2 rfl) rfl rfl rfl RI64c0 hc16) rfl ?_
              refine J.guardY rfl (Y.geq rfl rfl) rfl ?_
              refine J.guardY rfl (Y.move rfl) rfl ?_
              refine J.guardD (by exact rfl) (by exact rfl) (fun hp17 => ?_) (fun hp17 => ?_)
              · replace h := ifP hp17 h
                refine J.guardY rfl (Y.move rfl) rfl ?_
                refine J.guardY rfl (Y.pickT rfl rfl) rfl ?_
                refine J.quiet (Y.pickF rfl rfl) rfl ?_
                refine J.quiet (Y.assign rfl) rfl ?_
                refine J.done ?_
                refine J.thenN ?_
                exact J.meetI (a5) (()) h (by repeat (first | exact SubF.nil | refine SubF.cons rfl ?_)) (SubM.nil) (LentAll.refl _ _)
              · replace h := ifN hp17 h
                refine J.guardN rfl rfl rfl ?_
                refine J.guardY rfl (Y.pickF rfl rfl) rfl ?_
                refine J.quiet (Y.pickF rfl rfl) rfl ?_
                refine J.quiet (Y.assign rfl) rfl ?_
                refine J.done ?_
                refine J.thenN ?_
                exact J.meetI (false) (()) h (by repeat (first | exact SubF.nil | refine SubF.cons rfl ?_)) (SubM.nil) (LentAll.refl _ _)
          · replace h := ifN hp14 h
            refine J.guardN rfl rfl rfl ?_
            refine J.guardN rfl rfl rfl ?_
            refine J.quiet (Y.pickF rfl rfl) rfl ?_
            refine J.quiet (Y.move rfl) rfl ?_
            refine J.guardY rfl (Y.move rfl) rfl ?_
            refine J.guardY rfl (Y.move rfl) rfl ?_
            replace h := ck_some h; obtain ⟨hc18, h⟩ := h
            refine J.guardY rfl (Y.indexS rfl rfl (Lent.fact 2 rfl) rfl rfl hc18) rfl ?_
            refine J.guardY rfl (Y.loadS0 rfl (Lent.fact 2 rfl) rfl rfl rfl RI64c0 hc18) rfl ?_
            refine J.guardY rfl (Y.geq rfl rfl) rfl ?_
            refine J.guardY rfl (Y.move rfl) rfl ?_
            refine J.guardD (by exact rfl) (by exact rfl) (fun hp19 => ?_) (fun hp19 => ?_)
            · replace h := ifP hp19 h
              refine J.guardY rfl (Y.move rfl) rfl ?_
              refine J.guardY rfl (Y.pickT rfl rfl) rfl ?_
              refine J.quiet (Y.pickF rfl rfl) rfl ?_
              refine J.quiet (Y.assign rfl) rfl ?_
              refine J.done ?_
              refine J.thenN ?_
              exact J.meetI (a5) (()) h (by repeat (first | exact SubF.nil | refine SubF.cons rfl ?_)) (SubM.nil) (LentAll.refl _ _)
            · replace h := ifN hp19 h
              refine J.guardN rfl rfl rfl ?_
              refine J.guardY rfl (Y.pickF rfl rfl) rfl ?_
              refine J.quiet (Y.pickF rfl rfl) rfl ?_
              refine J.quiet (Y.assign rfl) rfl ?_
              refine J.done ?_
              refine J.thenN ?_
              exact J.meetI (false) (()) h (by repeat (first | exact SubF.nil | refine SubF.cons rfl ?_)) (SubM.nil) (LentAll.refl _ _)
        · replace h := ifN hp12 h
          refine J.guardN rfl rfl rfl ?_
          refine J.guardN rfl rfl rfl ?_
          refine J.guardN rfl rfl rfl ?_
          refine J.guardN rfl rfl rfl ?_
          refine J.guardN rfl rfl rfl ?_
          refine J.guardN rfl rfl rfl ?_
          refine J.guardN rfl rfl rfl ?_
          refine J.quiet (Y.pickF rfl rfl) rfl ?_
          refine J.quiet (Y.move rfl) rfl ?_
          refine J.guardN rfl rfl rfl ?_
          refine J.guardN rfl rfl rfl ?_
          refine J.quiet (Y.pickF rfl rfl) rfl ?_
          refine J.quiet (Y.move rfl) rfl ?_
          refine J.guardY rfl (Y.move rfl) rfl ?_
          refine J.guardY rfl (Y.move rfl) rfl ?_
          replace h := ck_some h; obtain ⟨hc20, h⟩ := h
          refine J.guardY rfl (Y.indexS rfl rfl (Lent.fact 2 rfl) rfl rfl hc20) rfl ?_
          refine J.guardY rfl (Y.loadS0 rfl (Lent.fact 2 rfl) rfl rfl rfl RI64c0 hc20) rfl ?_
          refine J.guardY rfl (Y.geq rfl rfl) rfl ?_
          refine J.guardY rfl (Y.move rfl) rfl ?_
          refine J.guardD (by exact rfl) (by exact rfl) (fun hp21 => ?_) (fun hp21 => ?_)
          · replace h := ifP hp21 h
            refine J.guardY rfl (Y.move rfl) rfl ?_
            refine J.guardY rfl (Y.pickT rfl rfl) rfl ?_
            refine J.quiet (Y.pickF rfl rfl) rfl ?_
            refine J.quiet (Y.assign rfl) rfl ?_
            refine J.done ?_
            refine J.thenN ?_
            exact J.meetI (a5) (()) h (by repeat (first | exact SubF.nil | refine SubF.cons rfl ?_)) (SubM.nil) (LentAll.refl _ _)
          · replace h := ifN hp21 h
            refine J.guardN rfl rfl rfl ?_
            refine J.guardY rfl (Y.pickF rfl rfl) rfl ?_
            refine J.quiet (Y.pickF rfl rfl) rfl ?_
            refine J.quiet (Y.assign rfl) rfl ?_
            refine J.done ?_
            refine J.thenN ?_
            exact J.meetI (false) (()) h (by repeat (first | exact SubF.nil | refine SubF.cons rfl ?_)) (SubM.nil) (LentAll.refl _ _)
      · clear h
        intro a9 b10 h
        unfold ref39_sees_k2 at h
        refine J.ret ?_
        refine J.inR ?_
        refine J.thenR ?_
        obtain rfl := Option.some.inj h
        exact J.retG1 (()) rfl rfl (RV.tmp rfl) (SubM.refl _) LentAll.nil
    · replace h := ifN hp7 h
      refine J.seq ?_
      refine J.region ?_
      refine J.quiet (Y.eql rfl rfl) rfl ?_
      refine J.quiet (Y.assign rfl) rfl ?_
      refine J.done ?_
      refine J.thenN ?_
      refine J.condD (by exact rfl) (fun hp22 => ?_) (fun hp22 => ?_)
      · replace h := ifP hp22 h
        refine J.seq ?_
        refine J.midI (A := Bool) (B := Unit) (fun a24 => ref39_sees_k3  a24 = some r) (fun a24 b25 => [(10, Value.bool (a24))]) (fun a24 b25 => []) (fun a24 b25 => [Sl RI64 v0 p1.1, S2 RI64I64p v1 z2 p1.2, Sl RI64 v3 p2, Sl RI64I64p v4 p3]) ?_ ?_
        · refine J.region ?_
          refine J.quiet (Y.move rfl) rfl ?_
          refine J.quiet (Y.move rfl) rfl ?_
          replace h := ck_some h; obtain ⟨hc26, h⟩ := h
          refine J.quiet (Y.indexS rfl rfl (Lent.fact 2 rfl) rfl rfl hc26) rfl ?_
          refine J.quiet (Y.loadS0 rfl (Lent.fact 2 rfl) rfl rfl rfl RI64c0 hc26) rfl ?_
          refine J.quiet (Y.eql rfl rfl) rfl ?_
          refine J.quiet (Y.move rfl) rfl ?_
          refine J.guardD (by exact rfl) (by exact rfl) (fun hp27 => ?_) (fun hp27 => ?_)
          · replace h := ifP hp27 h
            refine J.guardY rfl (Y.move rfl) rfl ?_
            refine J.guardY rfl (Y.fieldB rfl rfl rfl rfl rfl) rfl ?_
            refine J.guardY rfl (Y.loadB 0 rfl rfl rfl rfl rfl) rfl ?_
            refine J.guardY rfl (Y.move rfl) rfl ?_
            replace h := ck_some h; obtain ⟨hc28, h⟩ := h
            refine J.guardY rfl (Y.indexS rfl rfl (Lent.fact 0 rfl) rfl rfl hc28) rfl ?_
            refine J.guardY rfl (Y.loadS0 rfl (Lent.fact 0 rfl) rfl rfl rfl RI64c0 hc28) rfl ?_
            refine J.guardY rfl (Y.eql rfl rfl) rfl ?_
            refine J.quiet (Y.pickT rfl rfl) rfl ?_
            refine J.quiet (Y.move rfl) rfl ?_
            refine J.guardD (by exact rfl) (by exact rfl) (fun hp29 => ?_) (fun hp29 => ?_)
            · replace h := ifP hp29 h
              refine J.guardY rfl (Y.move rfl) rfl ?_
              refine J.guardY rfl (Y.eql rfl rfl) rfl ?_
              refine J.quiet (Y.pickT rfl rfl) rfl ?_
              refine J.quiet (Y.move rfl) rfl ?_
              refine J.guardD (by exact rfl) (by exact rfl) (fun hp30 => ?_) (fun hp30 => ?_)
              · replace h := ifP hp30 h
                refine J.guardN rfl rfl rfl ?_
                refine J.guardN rfl rfl rfl ?_
                refine J.guardN rfl rfl rfl ?_
                refine J.guardN rfl rfl rfl ?_
                refine J.guardN rfl rfl rfl ?_
                refine J.guardN rfl rfl rfl ?_
                refine J.qu (h := ?_)
                refine J.guardN rfl rfl rfl ?_
                refine J.quiet (Y.pickT rfl rfl) rfl ?_
                refine J.quiet (Y.assign rfl) rfl ?_
                refine J.done ?_
                refine J.thenN ?_
                exact J.meetI (true) (()) h (by repeat (first | exact SubF.nil | refine SubF.cons rfl ?_)) (SubM.nil) (LentAll.refl _ _)
              · replace h := ifN hp30 h
                refine J.guardY rfl (Y.move rfl) rfl ?_
                refine J.guardY rfl (Y.move rfl) rfl ?_
                replace h := ck_some h; obtain ⟨hc31, h⟩ := h
                refine J.guardY rfl (Y.indexS rfl rfl (Lent.fact 2 rfl) rfl rfl hc31) rfl ?_
                refine J.guardY rfl (Y.loadS0 rfl (Lent.fact 2 rfl) rfl rfl rfl RI64c0 hc31) rfl ?_
                refine J.guardY rfl (Y.eql rfl rfl) rfl ?_
                refine J.guardY rfl (Y.move rfl) rfl ?_
                refine J.guardD (by exact rfl) (by exact rfl) (fun hp32 => ?_) (fun hp32 => ?_)
                · replace h := ifP hp32 h
                  refine J.guardY rfl (Y.move rfl) rfl ?_
                  refine J.guardY rfl (Y.pickT rfl rfl) rfl ?_
                  refine J.quiet (Y.pickF rfl rfl) rfl ?_
                  refine J.quiet (Y.assign rfl) rfl ?_
                  refine J.done ?_
                  refine J.thenN ?_
                  exact J.meetI (a5) (()) h (by repeat (first | exact SubF.nil | refine SubF.cons rfl ?_)) (SubM.nil) (LentAll.refl _ _)
                · replace h := ifN hp32 h
                  refine J.guardN rfl rfl rfl ?_
                  refine J.guardY rfl (Y.pickF rfl rfl) rfl ?_
                  refine J.quiet (Y.pickF rfl rfl) rfl ?_
                  refine J.quiet (Y.assign rfl) rfl ?_
                  refine J.done ?_
                  refine J.thenN ?_
                  exact J.meetI (false) (()) h (by repeat (first | exact SubF.nil | refine SubF.cons rfl ?_)) (SubM.nil) (LentAll.refl _ _)
            · replace h := ifN hp29 h
              refine J.guardN rfl rfl rfl ?_
              refine J.guardN rfl rfl rfl ?_
              refine J.quiet (Y.pickF rfl rfl) rfl ?_
              refine J.quiet (Y.move rfl) rfl ?_
              refine J.guardY rfl (Y.move rfl) rfl ?_
              refine J.guardY rfl (Y.move rfl) rfl ?_
              replace h := ck_some h; obtain ⟨hc33, h⟩ := h
              refine J.guardY rfl (Y.indexS rfl rfl (Lent.fact 2 rfl) rfl rfl hc33) rfl ?_
              refine J.guardY rfl (Y.loadS0 rfl (Lent.fact 2 rfl) rfl rfl rfl RI64c0 hc33) rfl ?_
              refine J.guardY rfl (Y.eql rfl rfl) rfl ?_
              refine J.guardY rfl (Y.move rfl) rfl ?_
              refine J.guardD (by exact rfl) (by exact rfl) (fun hp34 => ?_) (fun hp34 => ?_)
              · replace h := ifP hp34 h
                refine J.guardY rfl (Y.move rfl) rfl ?_
                refine J.guardY rfl (Y.pickT rfl rfl) rfl ?_
                refine J.quiet (Y.pickF rfl rfl) rfl ?_
                refine J.quiet (Y.assign rfl) rfl ?_
                refine J.done ?_
                refine J.thenN ?_
                exact J.meetI (a5) (()) h (by repeat (first | exact SubF.nil | refine SubF.cons rfl ?_)) (SubM.nil) (LentAll.refl _ _)
              · replace h := ifN hp34 h
                refine J.guardN rfl rfl rfl ?_
                refine J.guardY rfl (Y.pickF rfl rfl) rfl ?_
                refine J.quiet (Y.pickF rfl rfl) rfl ?_
                refine J.quiet (Y.assign rfl) rfl ?_
                refine J.done ?_
                refine J.thenN ?_
                exact J.meetI (false) (()) h (by repeat (first | exact SubF.nil | refine SubF.cons rfl ?_)) (SubM.nil) (LentAll.refl _ _)
          · replace h := ifN hp27 h
            refine J.guardN rfl rfl rfl ?_
            refine J.guardN rfl rfl rfl ?_
            refine J.guardN rfl rfl rfl ?_
            refine J.guardN rfl rfl rfl ?_
            refine J.guardN rfl rfl rfl ?_
            refine J.guardN rfl rfl rfl ?_
            refine J.guardN rfl rfl rfl ?_
            refine J.quiet (Y.pickF rfl rfl) rfl ?_
            refine J.quiet (Y.move rfl) rfl ?_
            refine J.guardN rfl rfl rfl ?_
            refine J.guardN rfl rfl rfl ?_
            refine J.quiet (Y.pickF rfl rfl) rfl ?_
            refine J.quiet (Y.move rfl) rfl ?_
            refine J.guardY rfl (Y.move rfl) rfl ?_
            refine J.guardY rfl (Y.move rfl) rfl ?_
            replace h := ck_some h; obtain ⟨hc35, h⟩ := h
            refine J.guardY rfl (Y.indexS rfl rfl (Lent.fact 2 rfl) rfl rfl hc35) rfl ?_
            refine J.guardY rfl (Y.loadS0 rfl (Lent.fact 2 rfl) rfl rfl rfl RI64c0 hc35) rfl ?_
            refine J.guardY rfl (Y.eql rfl rfl) rfl ?_
            refine J.guardY rfl (Y.move rfl) rfl ?_
            refine J.guardD (by exact rfl) (by exact rfl) (fun hp36 => ?_) (fun hp36 => ?_)
            · replace h := ifP hp36 h
              refine J.guardY rfl (Y.move rfl) rfl ?_
              refine J.guardY rfl (Y.pickT rfl rfl) rfl ?_
              refine J.quiet (Y.pickF rfl rfl) rfl ?_
              refine J.quiet (Y.assign rfl) rfl ?_
              refine J.done ?_
              refine J.thenN ?_
              exact J.meetI (a5) (()) h (by repeat (first | exact SubF.nil | refine SubF.cons rfl ?_)) (SubM.nil) (LentAll.refl _ _)
            · replace h := ifN hp36 h
              refine J.guardN rfl rfl rfl ?_
              refine J.guardY rfl (Y.pickF rfl rfl) rfl ?_
              refine J.quiet (Y.pickF rfl rfl) rfl ?_
              refine J.quiet (Y.assign rfl) rfl ?_
              refine J.done ?_
              refine J.thenN ?_
              exact J.meetI (false) (()) h (by repeat (first | exact SubF.nil | refine SubF.cons rfl ?_)) (SubM.nil) (LentAll.refl _ _)
        · clear h
          intro a24 b25 h
          unfold ref39_sees_k3 at h
          refine J.ret ?_
          refine J.inR ?_
          refine J.thenR ?_
          obtain rfl := Option.some.inj h
          exact J.retG1 (()) rfl rfl (RV.tmp rfl) (SubM.refl _) LentAll.nil
      · replace h := ifN hp22 h
        refine J.seq ?_
        refine J.region ?_
        refine J.quiet (Y.eql rfl rfl) rfl ?_
        refine J.quiet (Y.assign rfl) rfl ?_
        refine J.done ?_
        refine J.thenN ?_
        refine J.condD (by exact rfl) (fun hp37 => ?_) (fun hp37 => ?_)
        · replace h := ifP hp37 h
          refine J.seq ?_
          refine J.midI (A := Bool) (B := Unit) (fun a39 => ref39_sees_k4  a39 = some r) (fun a39 b40 => [(10, Value.bool (a39))]) (fun a39 b40 => []) (fun a39 b40 => [Sl RI64 v0 p1.1, S2 RI64I64p v1 z2 p1.2, Sl RI64 v3 p2, Sl RI64I64p v4 p3]) ?_ ?_
          · refine J.region ?_
            refine J.quiet (Y.move rfl) rfl ?_
            refine J.quiet (Y.eql rfl rfl) rfl ?_
            refine J.quiet (Y.move rfl) rfl ?_
            refine J.guardD (by exact rfl) (by exact rfl) (fun hp41 => ?_) (fun hp41 => ?_)
            · replace h := ifP hp41 h
              refine J.guardN rfl rfl rfl ?_
              refine J.guardN rfl rfl rfl ?_
              refine J.quiet (Y.pickT rfl rfl) rfl ?_
              refine J.quiet (Y.assign rfl) rfl ?_
              refine J.done ?_
              refine J.thenN ?_
              exact J.meetI (true) (()) h (by repeat (first | exact SubF.nil | refine SubF.cons rfl ?_)) (SubM.nil) (LentAll.refl _ _)
            · replace h := ifN hp41 h
              refine J.guardY rfl (Y.move rfl) rfl ?_
              refine J.guardY rfl (Y.eql rfl rfl) rfl ?_
              refine J.quiet (Y.pickF rfl rfl) rfl ?_
              refine J.quiet (Y.assign rfl) rfl ?_
              refine J.done ?_
              refine J.thenN ?_
              exact J.meetI (decide (((at' p3 p4).1) = (1 : Int))) (()) h (by repeat (first | exact SubF.nil | refine SubF.cons rfl ?_)) (SubM.nil) (LentAll.refl _ _)
          · clear h
            intro a39 b40 h
            unfold ref39_sees_k4 at h
            refine J.ret ?_
            refine J.inR ?_
            refine J.thenR ?_
            obtain rfl := Option.some.inj h
            exact J.retG1 (()) rfl rfl (RV.tmp rfl) (SubM.refl _) LentAll.nil
        · replace h := ifN hp37 h
          refine J.skip ?_
          refine J.inN ?_
          refine J.thenN ?_
          refine J.seq ?_
          refine J.region ?_
          refine J.quiet (Y.loadBAll 0 rfl rfl rfl rfl) rfl ?_
          refine J.quiet (Y.move rfl) rfl ?_
          refine J.quiet (Y.move rfl) rfl ?_
          replace h := bnd h; obtain ⟨r42, hr43, h⟩ := h
          refine J.loud (Loud.callL body59 (t_ref39_partner fuel v0 v1 z2 v3 r42 hr43) rfl (LentAll.cons (Lent.fact 0 rfl) (LentAll.cons (Lent.fact 1 rfl) (LentAll.cons (Lent.fact 2 rfl) (LentAll.nil)))) (fun _ _ => rfl)) rfl fun x44 => ?_
          refine J.quiet (Y.assign rfl) rfl ?_
          refine J.done ?_
          refine J.thenN ?_
          refine J.seq ?_
          refine J.seq ?_
          refine J.midI (A := Bool) (B := Unit) (fun a46 => ref39_sees_k5 p3 p4 r42 a46 = some r) (fun a46 b47 => [(3, v4), (11, Value.int .i64 ((at' p3 p4).1)), (16, Value.int .i64 (r42)), (189, Value.bool (a46))]) (fun a46 b47 => []) (fun a46 b47 => [Sl RI64 v0 p1.1, S2 RI64I64p v1 z2 p1.2, Sl RI64 v3 p2, Sl RI64I64p v4 p3]) ?_ ?_
          · refine JR.start [0, 1, 3, 7, 7, 31, 63, 7, 7, 7, 7, 1543, 3591, 8071, 16383, 32767] 14 mixedOrders (by decide +kernel) ?_
            refine JR.open (by exact rfl) ?_
            refine JR.qt rfl (SubM.nil) (SubL.nil) (Y.move rfl) HistOk.z ?_
            refine JR.qt rfl (SubM.nil) (SubL.nil) (Y.geq rfl rfl) HistOk.z ?_
            refine JR.qt rfl (SubM.nil) (SubL.nil) (Y.move rfl) HistOk.z ?_
            refine JR.guardD (by exact rfl) (by exact rfl) (by exact rfl) (fun hp56 => ?_) (fun hp56 => ?_)
            · replace h := ifP hp56 h
              refine JR.qtG rfl (SubM.nil) (SubL.nil) (Y.move rfl) HistOk.z ?_
              refine JR.qtG rfl (SubM.nil) (SubL.nil) (Y.move rfl) HistOk.z ?_
              replace h := ck_some h; obtain ⟨hc57, h⟩ := h
              refine JR.qtG rfl (SubM.nil) (SubL.cons (List.mem_of_getElem? (i := 2) rfl) (SubL.nil)) (Y.indexS rfl rfl (Lent.fact 0 rfl) rfl rfl hc57) HistOk.z ?_
              refine JR.qtG rfl (SubM.nil) (SubL.cons (List.mem_of_getElem? (i := 2) rfl) (SubL.nil)) (Y.loadS0 rfl (Lent.fact 0 rfl) rfl rfl rfl RI64c0 hc57) HistOk.z ?_
              refine JR.qtG rfl (SubM.refl _) (SubL.nil) (Y.loadBAll 0 rfl rfl rfl rfl) HistOk.z ?_
              refine JR.qtG rfl (SubM.nil) (SubL.nil) (Y.move rfl) HistOk.z ?_
              refine JR.qtG rfl (SubM.nil) (SubL.nil) (Y.move rfl) HistOk.z ?_
              refine JR.qtG rfl (SubM.nil) (SubL.nil) (Y.move rfl) HistOk.z ?_
              replace h := ck_some h; obtain ⟨hc58, h⟩ := h
              refine JR.qtG rfl (SubM.nil) (SubL.cons (List.mem_of_getElem? (i := 2) rfl) (SubL.nil)) (Y.indexS rfl rfl (Lent.fact 0 rfl) rfl rfl hc58) HistOk.z ?_
              refine JR.qtG rfl (SubM.nil) (SubL.cons (List.mem_of_getElem? (i := 2) rfl) (SubL.nil)) (Y.loadS0 rfl (Lent.fact 0 rfl) rfl rfl rfl RI64c0 hc58) HistOk.z ?_
              replace h := bnd h; obtain ⟨r59, hr60, h⟩ := h
              refine JR.loudG rfl rfl rfl rfl (Loud.callL body74 (t_ref01_Back fuel v0 v1 z2 r59 hr60) rfl (LentAll.cons (Lent.fact 0 rfl) (LentAll.cons (Lent.fact 1 rfl) (LentAll.nil))) (fun _ _ => rfl)) rfl (fun x61 => (BsOk.b rfl (BsOk.b rfl (BsOk.b rfl (BsOk.b rfl (BsOk.b rfl (BsOk.b rfl (BsOk.h (SubM.nil) (SubL.cons (List.mem_of_getElem? (i := 2) rfl) (SubL.nil)) (BsOk.h (SubM.nil) (SubL.cons (List.mem_of_getElem? (i := 2) rfl) (SubL.nil)) (BsOk.h (SubM.nil) (SubL.nil) (BsOk.h (SubM.nil) (SubL.nil) (BsOk.b rfl (BsOk.b rfl (BsOk.b rfl BsOk.z)))))))))))))) fun x61 => ?_
              refine JR.tailD 14 rfl rfl ?_
              refine J.guardY rfl (Y.neq rfl rfl) rfl ?_
              refine J.quiet (Y.pickT rfl rfl) rfl ?_
              refine J.done ?_
              refine J.thenN ?_
              exact J.meetI (decide ((at' p2 r42) ≠ r59)) (()) h (by repeat (first | exact SubF.nil | refine SubF.cons rfl ?_)) (SubM.nil) (LentAll.refl _ _)
            · replace h := ifN hp56 h
              refine JR.guardN rfl rfl rfl rfl ?_
              refine JR.guardN rfl rfl rfl rfl ?_
              refine JR.guardN rfl rfl rfl rfl ?_
              refine JR.guardN rfl rfl rfl rfl ?_
              refine JR.guardN rfl rfl rfl rfl ?_
              refine JR.guardN rfl rfl rfl rfl ?_
              refine JR.guardN rfl rfl rfl rfl ?_
              refine JR.guardN rfl rfl rfl rfl ?_
              refine JR.guardN rfl rfl rfl rfl ?_
              refine JR.guardN rfl rfl rfl rfl ?_
              refine JR.guardN rfl rfl rfl rfl ?_
              refine JR.tailD 14 rfl rfl ?_
              refine J.guardN rfl rfl rfl ?_
              refine J.quiet (Y.pickF rfl rfl) rfl ?_
              refine J.done ?_
              refine J.thenN ?_
              exact J.meetI (false) (()) h (by repeat (first | exact SubF.nil | refine SubF.cons rfl ?_)) (SubM.nil) (LentAll.refl _ _)
          · clear h
            intro a46 b47 h
            unfold ref39_sees_k5 at h
            refine J.cond (by exact rfl) (fun hp48 => ?_) (fun hp48 => ?_)
            · replace h := ifP hp48 h
              refine J.seq ?_
              refine J.region ?_
              refine J.quiet (Y.assign rfl) rfl ?_
              refine J.done ?_
              refine J.thenN ?_
              refine J.ret ?_
              refine J.thenR ?_
              obtain rfl := Option.some.inj h
              exact J.retG1 (()) rfl rfl (RV.tmp rfl) (SubM.refl _) LentAll.nil
            · replace h := ifBN hp48 h
              refine J.skip ?_
              refine J.thenN ?_
              refine J.seq ?_
              refine J.midI (A := Bool) (B := Unit) (fun a50 => ref39_sees_k6  a50 = some r) (fun a50 b51 => [(10, Value.bool (a50))]) (fun a50 b51 => []) (fun a50 b51 => [Sl RI64 v0 p1.1, S2 RI64I64p v1 z2 p1.2, Sl RI64 v3 p2, Sl RI64I64p v4 p3]) ?_ ?_
              · refine J.region ?_
                refine J.quiet (Y.move rfl) rfl ?_
                refine J.quiet (Y.eql rfl rfl) rfl ?_
                refine J.quiet (Y.move rfl) rfl ?_
                refine J.guardD (by exact rfl) (by exact rfl) (fun hp52 => ?_) (fun hp52 => ?_)
                · replace h := ifP hp52 h
                  refine J.guardN rfl rfl rfl ?_
                  refine J.guardN rfl rfl rfl ?_
                  refine J.guardN rfl rfl rfl ?_
                  refine J.qu (h := ?_)
                  refine J.qu (h := ?_)
                  refine J.guardN rfl rfl rfl ?_
                  refine J.guardN rfl rfl rfl ?_
                  refine J.qu (h := ?_)
                  refine J.qu (h := ?_)
                  refine J.qu (h := ?_)
                  refine J.qu (h := ?_)
                  refine J.qu (h := ?_)
                  refine J.qu (h := ?_)
                  refine J.guardN rfl rfl rfl ?_
                  refine J.quiet (Y.pickT rfl rfl) rfl ?_
                  refine J.quiet (Y.assign rfl) rfl ?_
                  refine J.done ?_
                  refine J.thenN ?_
                  exact J.meetI (true) (()) h (by repeat (first | exact SubF.nil | refine SubF.cons rfl ?_)) (SubM.refl _) (LentAll.refl _ _)
                · replace h := ifN hp52 h
                  refine J.guardY rfl (Y.move rfl) rfl ?_
                  refine J.guardY rfl (Y.eql rfl rfl) rfl ?_
                  refine J.guardY rfl (Y.move rfl) rfl ?_
                  refine J.guardD (by exact rfl) (by exact rfl) (fun hp53 => ?_) (fun hp53 => ?_)
                  · replace h := ifP hp53 h
                    refine J.guardY rfl (Y.move rfl) rfl ?_
                    refine J.guardY rfl (Y.geq rfl rfl) rfl ?_
                    refine J.guardY rfl (Y.pickT rfl rfl) rfl ?_
                    refine J.guardY rfl (Y.move rfl) rfl ?_
                    refine J.guardD (by exact rfl) (by exact rfl) (fun hp54 => ?_) (fun hp54 => ?_)
                    · replace h := ifP hp54 h
                      refine J.guardY rfl (Y.move rfl) rfl ?_
                      refine J.guardY rfl (Y.move rfl) rfl ?_
                      replace h := ck_some h; obtain ⟨hc55, h⟩ := h
                      refine J.guardY rfl (Y.indexS rfl rfl (Lent.fact 3 rfl) rfl rfl hc55) rfl ?_
                      refine J.guardY rfl (Y.indexEl (i := 0) rfl rfl rfl rfl rfl (by decide)) rfl ?_
                      refine J.guardY rfl (Y.loadS rfl (Lent.fact 3 rfl) rfl rfl rfl RI64I64pc0 hc55) rfl ?_
                      refine J.guardY rfl (Y.eql rfl rfl) rfl ?_
                      refine J.guardY rfl (Y.pickT rfl rfl) rfl ?_
                      refine J.quiet (Y.pickF rfl rfl) rfl ?_
                      refine J.quiet (Y.assign rfl) rfl ?_
                      refine J.done ?_
                      refine J.thenN ?_
                      exact J.meetI (decide (((at' p3 r42).1) = (0 : Int))) (()) h (by repeat (first | exact SubF.nil | refine SubF.cons rfl ?_)) (SubM.refl _) (LentAll.refl _ _)
                    · replace h := ifN hp54 h
                      refine J.guardN rfl rfl rfl ?_
                      refine J.guardN rfl rfl rfl ?_
                      refine J.guardN rfl rfl rfl ?_
                      refine J.guardN rfl rfl rfl ?_
                      refine J.guardN rfl rfl rfl ?_
                      refine J.guardN rfl rfl rfl ?_
                      refine J.guardY rfl (Y.pickF rfl rfl) rfl ?_
                      refine J.quiet (Y.pickF rfl rfl) rfl ?_
                      refine J.quiet (Y.assign rfl) rfl ?_
                      refine J.done ?_
                      refine J.thenN ?_
                      exact J.meetI (false) (()) h (by repeat (first | exact SubF.nil | refine SubF.cons rfl ?_)) (SubM.refl _) (LentAll.refl _ _)
                  · replace h := ifN hp53 h
                    refine J.guardN rfl rfl rfl ?_
                    refine J.guardN rfl rfl rfl ?_
                    refine J.guardY rfl (Y.pickF rfl rfl) rfl ?_
                    refine J.guardY rfl (Y.move rfl) rfl ?_
                    refine J.guardN rfl rfl rfl ?_
                    refine J.guardN rfl rfl rfl ?_
                    refine J.guardN rfl rfl rfl ?_
                    refine J.guardN rfl rfl rfl ?_
                    refine J.guardN rfl rfl rfl ?_
                    refine J.guardN rfl rfl rfl ?_
                    refine J.guardY rfl (Y.pickF rfl rfl) rfl ?_
                    refine J.quiet (Y.pickF rfl rfl) rfl ?_
                    refine J.quiet (Y.assign rfl) rfl ?_
                    refine J.done ?_
                    refine J.thenN ?_
                    exact J.meetI (false) (()) h (by repeat (first | exact SubF.nil | refine SubF.cons rfl ?_)) (SubM.refl _) (LentAll.refl _ _)
              · clear h
                intro a50 b51 h
                unfold ref39_sees_k6 at h
                refine J.ret ?_
                obtain rfl := Option.some.inj h
                exact J.retG1 (()) rfl rfl (RV.tmp rfl) (SubM.refl _) LentAll.nil

end Go.Proofs.Ytmajgimhmfeliaa
end
section
set_option linter.unusedVariables false
set_option linter.unusedSimpArgs false
namespace Go.Proofs.Ytmajgimhmfeliaa
open Go.Sx
set_option linter.unusedVariables false
set_option linter.unusedSimpArgs false
def ref39_Accepts_k1 (fuel : Nat) (p0 : Int) (p1 : List (Int) × (List (List (Int × Int)))) (p2 : List (Int)) (p3 : List (Int × Int)) (p4 : Int) (a3 : Bool) : Option (Bool) :=
  if a3 = true then (some (false)) else (Option.bind (m_ref39_sees fuel p0 ((p1.1, p1.2)) p2 p3 p4) fun r6 => (some (r6)))
def m_ref39_Accepts (fuel : Nat) (p0 : Int) (p1 : List (Int) × (List (List (Int × Int)))) (p2 : List (Int)) (p3 : List (Int × Int)) (p4 : Int) : Option (Bool) :=
  Option.bind (m_ref01_Valid fuel ((p1.1, p1.2))) fun r9 => (if (!r9) = true then (ref39_Accepts_k1 fuel p0 p1 p2 p3 p4 (true)) else (Option.bind (m_ref01_In fuel p0 (1 : Int) (4 : Int)) fun r13 => (if (!r13) = true then (ref39_Accepts_k1 fuel p0 p1 p2 p3 p4 (true)) else (Option.bind (m_ref01_In fuel p4 (0 : Int) (wI .i64 ((List.length p1.2 : Int) - (1 : Int)))) fun r17 => (if (!r17) = true then (ref39_Accepts_k1 fuel p0 p1 p2 p3 p4 (true)) else (if (List.length p2 : Int) ≠ (List.length p1.2 : Int) then (ref39_Accepts_k1 fuel p0 p1 p2 p3 p4 (true)) else (if (List.length p3 : Int) ≠ (List.length p1.2 : Int) then (ref39_Accepts_k1 fuel p0 p1 p2 p3 p4 (true)) else (ck (0 ≤ p4 ∧ p4 < (List.length p2 : Int)) (Option.bind (m_ref39_Fits fuel p0 ((p1.1, p1.2)) p4 (at' p2 p4)) fun r24 => (ref39_Accepts_k1 fuel p0 p1 p2 p3 p4 ((!r24))))))))))))

theorem body24 : HasBody Try.prog 24 := Try.call24

set_option maxHeartbeats 4000000 in
set_option maxRecDepth 20000 in
theorem t_ref39_Accepts (fuel : Nat) {p0 : Int} {p1 : List (Int) × (List (List (Int × Int)))} {p2 : List (Int)} {p3 : List (Int × Int)} {p4 : Int} (v0 : Value)  (v1 : Value)  (z2 : List (Value × List (Int × Int)))  (v3 : Value)  (v4 : Value) (r : Bool) (h : m_ref39_Accepts fuel p0 p1 p2 p3 p4 = some r) :
    Meets Try.prog 24 #[Value.int .i64 (p0), Value.agg #[v0, v1], v3, v4, Value.int .i64 (p4)] [Sl RI64 v0 p1.1, S2 RI64I64p v1 z2 p1.2, Sl RI64 v3 p2, Sl RI64I64p v4 p3] (fun x : Unit => Value.bool (r)) (fun x l => l) (fun _ l => l) := by
  refine Meets.of (vs := [Value.int .i64 (p0), Value.agg #[v0, v1], v3, v4, Value.int .i64 (p4)]) Try.func24 rfl Try.ntmps24 rfl fun c => ?_
  unfold m_ref39_Accepts at h
  refine J.seq ?_
  refine J.region ?_
  refine J.loud (Loud.box (cs := [v0, v1]) rfl rfl) rfl fun b1 => ?_
  refine J.quiet (Y.assign rfl) rfl ?_
  refine J.done ?_
  refine J.thenN ?_
  refine J.seq ?_
  refine J.region ?_
  refine J.quiet (Y.fieldB rfl rfl rfl rfl rfl) rfl ?_
  refine J.quiet (Y.loadB 0 rfl rfl rfl rfl rfl) rfl ?_
  refine J.quiet (Y.lenN rfl (Lent.fact 1 rfl) rfl) rfl ?_
  refine J.quiet (Y.assign rfl) rfl ?_
  refine J.done ?_
  refine J.thenN ?_
  refine J.seq ?_
  refine J.seq ?_
  refine J.midI (A := Bool) (B := Unit) (fun a3 => ref39_Accepts_k1 fuel p0 p1 p2 p3 p4 a3 = some r) (fun a3 b4 => [(0, Value.int .i64 (p0)), (2, v3), (3, v4), (4, Value.int .i64 (p4)), (6, Value.pointer (some ⟨b1, 0, none⟩)), (52, Value.bool (a3))]) (fun a3 b4 => [Blk b1 [v0, v1] 29]) (fun a3 b4 => [Sl RI64 v0 p1.1, S2 RI64I64p v1 z2 p1.2, Sl RI64 v3 p2, Sl RI64I64p v4 p3]) ?_ ?_
  · refine JR.start [0, 1, 3, 7, 15, 31, 63, 127, 255, 511, 511, 1535, 4095, 8191, 16383, 32767, 65535, 131071, 65535, 524287, 1048575, 2097151, 4194303, 8388607, 4194303, 33554431, 67108863, 134217727, 268435455, 268435455, 268435455, 268435455, 268435455, 6710886399, 15300820991, 34359738367, 68719476735, 137438953471] 35 mixedOrders (by decide +kernel) ?_
    refine JR.open (by exact rfl) ?_
    refine JR.qt rfl (SubM.refl _) (SubL.nil) (Y.loadBAll 0 rfl rfl rfl rfl) HistOk.z ?_
    replace h := bnd h; obtain ⟨r9, hr10, h⟩ := h
    refine JR.loud rfl rfl rfl (Loud.callL body48 (t_ref01_Valid fuel v0 v1 z2 r9 hr10) rfl (LentAll.cons (Lent.fact 0 rfl) (LentAll.cons (Lent.fact 1 rfl) (LentAll.nil))) (fun _ _ => rfl)) rfl (fun x11 => (BsOk.b rfl BsOk.z)) fun x11 => ?_
    refine JR.qt rfl (SubM.nil) (SubL.nil) (Y.not rfl) (HistOk.b rfl HistOk.z) ?_
    refine JR.qt rfl (SubM.nil) (SubL.nil) (Y.move rfl) (HistOk.b rfl HistOk.z) ?_
    refine JR.guard (by exact rfl) (by exact rfl) (by exact rfl) (fun hp12 => ?_) (fun hp12 => ?_)
    · replace h := ifP hp12 h
      refine JR.guardN rfl rfl rfl rfl ?_
      refine JR.guardN rfl rfl rfl rfl ?_
      refine JR.guardN rfl rfl rfl rfl ?_
      refine JR.qt rfl (SubM.nil) (SubL.nil) (Y.pickT rfl rfl) (HistOk.b rfl HistOk.z) ?_
      refine JR.qt rfl (SubM.nil) (SubL.nil) (Y.move rfl) (HistOk.b rfl HistOk.z) ?_
      refine JR.guardN rfl rfl rfl rfl ?_
      refine JR.guardN rfl rfl rfl rfl ?_
      refine JR.guardN rfl rfl rfl rfl ?_
      refine JR.guardN rfl rfl rfl rfl ?_
      refine JR.guardN rfl rfl rfl rfl ?_
      refine JR.qt rfl (SubM.nil) (SubL.nil) (Y.pickT rfl rfl) (HistOk.b rfl HistOk.z) ?_
      refine JR.qt rfl (SubM.nil) (SubL.nil) (Y.move rfl) (HistOk.b rfl HistOk.z) ?_
      refine JR.guardN rfl rfl rfl rfl ?_
      refine JR.guardN rfl rfl rfl rfl ?_
      refine JR.guardN rfl rfl rfl rfl ?_
      refine JR.guardN rfl rfl rfl rfl ?_
      refine JR.qt rfl (SubM.nil) (SubL.nil) (Y.pickT rfl rfl) (HistOk.b rfl HistOk.z) ?_
      refine JR.qt rfl (SubM.nil) (SubL.nil) (Y.move rfl) (HistOk.b rfl HistOk.z) ?_
      refine JR.guardN rfl rfl rfl rfl ?_
      refine JR.guardN rfl rfl rfl rfl ?_
      refine JR.guardN rfl rfl rfl rfl ?_
      refine JR.guardN rfl rfl rfl rfl ?_
      refine JR.qt rfl (SubM.nil) (SubL.nil) (Y.pickT rfl rfl) (HistOk.b rfl HistOk.z) ?_
      refine JR.qt rfl (SubM.nil) (SubL.nil) (Y.move rfl) (HistOk.b rfl HistOk.z) ?_
      refine JR.guardN rfl rfl rfl rfl ?_
      refine JR.guardN rfl rfl rfl rfl ?_
      refine JR.guardN rfl rfl rfl rfl ?_
      refine JR.guardN rfl rfl rfl rfl ?_
      refine JR.guardN rfl rfl rfl rfl ?_
      refine JR.guardN rfl rfl rfl rfl ?_
      refine JR.guardN rfl rfl rfl rfl ?_
      refine JR.tailD 35 rfl rfl ?_
      refine J.guardN rfl rfl rfl ?_
      refine J.guardN rfl rfl rfl ?_
      refine J.quiet (Y.pickT rfl rfl) rfl ?_
      refine J.done ?_
      refine J.thenN ?_
      exact J.meetI (true) (()) h (by repeat (first | exact SubF.nil | refine SubF.cons rfl ?_)) (SubM.refl _) (LentAll.refl _ _)
    · replace h := ifBN hp12 h
      refine JR.qtG rfl (SubM.nil) (SubL.nil) (Y.move rfl) (HistOk.b rfl HistOk.z) ?_
      replace h := bnd h; obtain ⟨r13, hr14, h⟩ := h
      refine JR.loudG rfl rfl rfl rfl (Loud.callL body37 (t_ref01_In fuel  r13 hr14) rfl (LentAll.nil) (fun _ _ => rfl)) rfl (fun x15 => (BsOk.b rfl (BsOk.b rfl (BsOk.b rfl (BsOk.b rfl BsOk.z))))) fun x15 => ?_
      refine JR.qtG rfl (SubM.nil) (SubL.nil) (Y.not rfl) (HistOk.b rfl (HistOk.b rfl HistOk.z)) ?_
      refine JR.qt rfl (SubM.nil) (SubL.nil) (Y.pickF rfl rfl) (HistOk.b rfl (HistOk.b rfl HistOk.z)) ?_
      refine JR.qt rfl (SubM.nil) (SubL.nil) (Y.move rfl) (HistOk.b rfl (HistOk.b rfl HistOk.z)) ?_
      refine JR.guard (by exact rfl) (by exact rfl) (by exact rfl) (fun hp16 => ?_) (fun hp16 => ?_)
      · replace h := ifP hp16 h
        refine JR.guardN rfl rfl rfl rfl ?_
        refine JR.guardN rfl rfl rfl rfl ?_
        refine JR.guardN rfl rfl rfl rfl ?_
        refine JR.guardN rfl rfl rfl rfl ?_
        refine JR.guardN rfl rfl rfl rfl ?_
        refine JR.qt rfl (SubM.nil) (SubL.nil) (Y.pickT rfl rfl) (HistOk.b rfl (HistOk.b rfl HistOk.z)) ?_
        refine JR.qt rfl (SubM.nil) (SubL.nil) (Y.move rfl) (HistOk.b rfl (HistOk.b rfl HistOk.z)) ?_
        refine JR.guardN rfl rfl rfl rfl ?_
        refine JR.guardN rfl rfl rfl rfl ?_
        refine JR.guardN rfl rfl rfl rfl ?_
        refine JR.guardN rfl rfl rfl rfl ?_
        refine JR.qt rfl (SubM.nil) (SubL.nil) (Y.pickT rfl rfl) (HistOk.b rfl (HistOk.b rfl HistOk.z)) ?_
        refine JR.qt rfl (SubM.nil) (SubL.nil) (Y.move rfl) (HistOk.b rfl (HistOk.b rfl HistOk.z)) ?_
        refine JR.guardN rfl rfl rfl rfl ?_
        refine JR.guardN rfl rfl rfl rfl ?_
        refine JR.guardN rfl rfl rfl rfl ?_
        refine JR.guardN rfl rfl rfl rfl ?_
        refine JR.qt rfl (SubM.nil) (SubL.nil) (Y.pickT rfl rfl) (HistOk.b rfl (HistOk.b rfl HistOk.z)) ?_
        refine JR.qt rfl (SubM.nil) (SubL.nil) (Y.move rfl) (HistOk.b rfl (HistOk.b rfl HistOk.z)) ?_
        refine JR.guardN rfl rfl rfl rfl ?_
        refine JR.guardN rfl rfl rfl rfl ?_
        refine JR.guardN rfl rfl rfl rfl ?_
        refine JR.guardN rfl rfl rfl rfl ?_
        refine JR.guardN rfl rfl rfl rfl ?_
        refine JR.guardN rfl rfl rfl rfl ?_
        refine JR.guardN rfl rfl rfl rfl ?_
        refine JR.tailD 35 rfl rfl ?_
        refine J.guardN rfl rfl rfl ?_
        refine J.guardN rfl rfl rfl ?_
        refine J.quiet (Y.pickT rfl rfl) rfl ?_
        refine J.done ?_
        refine J.thenN ?_
        exact J.meetI (true) (()) h (by repeat (first | exact SubF.nil | refine SubF.cons rfl ?_)) (SubM.refl _) (LentAll.refl _ _)
      · replace h := ifBN hp16 h
        refine JR.qtG rfl (SubM.nil) (SubL.nil) (Y.move rfl) (HistOk.b rfl (HistOk.b rfl HistOk.z)) ?_
        refine JR.qtG rfl (SubM.nil) (SubL.nil) (Y.move rfl) (HistOk.b rfl (HistOk.b rfl HistOk.z)) ?_
        refine JR.qtG rfl (SubM.nil) (SubL.nil) (Y.subW rfl rfl) (HistOk.b rfl (HistOk.b rfl HistOk.z)) ?_
        replace h := bnd h; obtain ⟨r17, hr18, h⟩ := h
        refine JR.loudG rfl rfl rfl rfl (Loud.callL body37 (t_ref01_In fuel  r17 hr18) rfl (LentAll.nil) (fun _ _ => rfl)) rfl (fun x19 => (BsOk.b rfl (BsOk.b rfl (BsOk.b rfl (BsOk.b rfl (BsOk.b rfl (BsOk.b rfl (BsOk.b rfl (BsOk.b rfl (BsOk.b rfl (BsOk.b rfl BsOk.z))))))))))) fun x19 => ?_
        refine JR.qtG rfl (SubM.nil) (SubL.nil) (Y.not rfl) (HistOk.b rfl (HistOk.b rfl (HistOk.b rfl HistOk.z))) ?_
        refine JR.qt rfl (SubM.nil) (SubL.nil) (Y.pickF rfl rfl) (HistOk.b rfl (HistOk.b rfl (HistOk.b rfl HistOk.z))) ?_
        refine JR.qt rfl (SubM.nil) (SubL.nil) (Y.move rfl) (HistOk.b rfl (HistOk.b rfl (HistOk.b rfl HistOk.z))) ?_
        refine JR.guard (by exact rfl) (by exact rfl) (by exact rfl) (fun hp20 => ?_) (fun hp20 => ?_)
        · replace h := ifP hp20 h
          refine JR.guardN rfl rfl rfl rfl ?_
          refine JR.guardN rfl rfl rfl rfl ?_
          refine JR.guardN rfl rfl rfl rfl ?_
          refine JR.guardN rfl rfl rfl rfl ?_
          refine JR.qt rfl (SubM.nil) (SubL.nil) (Y.pickT rfl rfl) (HistOk.b rfl (HistOk.b rfl (HistOk.b rfl HistOk.z))) ?_
          refine JR.qt rfl (SubM.nil) (SubL.nil) (Y.move rfl) (HistOk.b rfl (HistOk.b rfl (HistOk.b rfl HistOk.z))) ?_
          refine JR.guardN rfl rfl rfl rfl ?_
          refine JR.guardN rfl rfl rfl rfl ?_
          refine JR.guardN rfl rfl rfl rfl ?_
          refine JR.guardN rfl rfl rfl rfl ?_
          refine JR.qt rfl (SubM.nil) (SubL.nil) (Y.pickT rfl rfl) (HistOk.b rfl (HistOk.b rfl (HistOk.b rfl HistOk.z))) ?_
          refine JR.qt rfl (SubM.nil) (SubL.nil) (Y.move rfl) (HistOk.b rfl (HistOk.b rfl (HistOk.b rfl HistOk.z))) ?_
          refine JR.guardN rfl rfl rfl rfl ?_
          refine JR.guardN rfl rfl rfl rfl ?_
          refine JR.guardN rfl rfl rfl rfl ?_
          refine JR.guardN rfl rfl rfl rfl ?_
          refine JR.guardN rfl rfl rfl rfl ?_
          refine JR.guardN rfl rfl rfl rfl ?_
          refine JR.guardN rfl rfl rfl rfl ?_
          refine JR.tailD 35 rfl rfl ?_
          refine J.guardN rfl rfl rfl ?_
          refine J.guardN rfl rfl rfl ?_
          refine J.quiet (Y.pickT rfl rfl) rfl ?_
          refine J.done ?_
          refine J.thenN ?_
          exact J.meetI (true) (()) h (by repeat (first | exact SubF.nil | refine SubF.cons rfl ?_)) (SubM.refl _) (LentAll.refl _ _)
        · replace h := ifBN hp20 h
          refine JR.qtG rfl (SubM.nil) (SubL.nil) (Y.move rfl) (HistOk.b rfl (HistOk.b rfl (HistOk.b rfl HistOk.z))) ?_
          refine JR.qtG rfl (SubM.nil) (SubL.cons (List.mem_of_getElem? (i := 2) rfl) (SubL.nil)) (Y.lenS rfl (Lent.fact 0 rfl) rfl) (HistOk.b rfl (HistOk.b rfl (HistOk.b rfl HistOk.z))) ?_
          refine JR.qtG rfl (SubM.nil) (SubL.nil) (Y.move rfl) (HistOk.b rfl (HistOk.b rfl (HistOk.b rfl HistOk.z))) ?_
          refine JR.qtG rfl (SubM.nil) (SubL.nil) (Y.neq rfl rfl) (HistOk.b rfl (HistOk.b rfl (HistOk.b rfl HistOk.z))) ?_
          refine JR.qt rfl (SubM.nil) (SubL.nil) (Y.pickF rfl rfl) (HistOk.b rfl (HistOk.b rfl (HistOk.b rfl HistOk.z))) ?_
          refine JR.qt rfl (SubM.nil) (SubL.nil) (Y.move rfl) (HistOk.b rfl (HistOk.b rfl (HistOk.b rfl HistOk.z))) ?_
          refine JR.guardD (by exact rfl) (by exact rfl) (by exact rfl) (fun hp21 => ?_) (fun hp21 => ?_)
          · replace h := ifP hp21 h
            refine JR.guardN rfl rfl rfl rfl ?_
            refine JR.guardN rfl rfl rfl rfl ?_
            refine JR.guardN rfl rfl rfl rfl ?_
            refine JR.guardN rfl rfl rfl rfl ?_
            refine JR.qt rfl (SubM.nil) (SubL.nil) (Y.pickT rfl rfl) (HistOk.b rfl (HistOk.b rfl (HistOk.b rfl HistOk.z))) ?_
            refine JR.qt rfl (SubM.nil) (SubL.nil) (Y.move rfl) (HistOk.b rfl (HistOk.b rfl (HistOk.b rfl HistOk.z))) ?_
            refine JR.guardN rfl rfl rfl rfl ?_
            refine JR.guardN rfl rfl rfl rfl ?_
            refine JR.guardN rfl rfl rfl rfl ?_
            refine JR.guardN rfl rfl rfl rfl ?_
            refine JR.guardN rfl rfl rfl rfl ?_
            refine JR.guardN rfl rfl rfl rfl ?_
            refine JR.guardN rfl rfl rfl rfl ?_
            refine JR.tailD 35 rfl rfl ?_
            refine J.guardN rfl rfl rfl ?_
            refine J.guardN rfl rfl rfl ?_
            refine J.quiet (Y.pickT rfl rfl) rfl ?_
            refine J.done ?_
            refine J.thenN ?_
            exact J.meetI (true) (()) h (by repeat (first | exact SubF.nil | refine SubF.cons rfl ?_)) (SubM.refl _) (LentAll.refl _ _)
          · replace h := ifN hp21 h
            refine JR.qtG rfl (SubM.nil) (SubL.nil) (Y.move rfl) (HistOk.b rfl (HistOk.b rfl (HistOk.b rfl HistOk.z))) ?_
            refine JR.qtG rfl (SubM.nil) (SubL.cons (List.mem_of_getElem? (i := 3) rfl) (SubL.nil)) (Y.lenS rfl (Lent.fact 0 rfl) rfl) (HistOk.b rfl (HistOk.b rfl (HistOk.b rfl HistOk.z))) ?_
            refine JR.qtG rfl (SubM.nil) (SubL.nil) (Y.move rfl) (HistOk.b rfl (HistOk.b rfl (HistOk.b rfl HistOk.z))) ?_
            refine JR.qtG rfl (SubM.nil) (SubL.nil) (Y.neq rfl rfl) (HistOk.b rfl (HistOk.b rfl (HistOk.b rfl HistOk.z))) ?_
            refine JR.qt rfl (SubM.nil) (SubL.nil) (Y.pickF rfl rfl) (HistOk.b rfl (HistOk.b rfl (HistOk.b rfl HistOk.z))) ?_
            refine JR.qt rfl (SubM.nil) (SubL.nil) (Y.move rfl) (HistOk.b rfl (HistOk.b rfl (HistOk.b rfl HistOk.z))) ?_
            refine JR.guardD (by exact rfl) (by exact rfl) (by exact rfl) (fun hp22 => ?_) (fun hp22 => ?_)
            · replace h := ifP hp22 h
              refine JR.guardN rfl rfl rfl rfl ?_
              refine JR.guardN rfl rfl rfl rfl ?_
              refine JR.guardN rfl rfl rfl rfl ?_
              refine JR.guardN rfl rfl rfl rfl ?_
              refine JR.guardN rfl rfl rfl rfl ?_
              refine JR.guardN rfl rfl rfl rfl ?_
              refine JR.guardN rfl rfl rfl rfl ?_
              refine JR.tailD 35 rfl rfl ?_
              refine J.guardN rfl rfl rfl ?_
              refine J.guardN rfl rfl rfl ?_
              refine J.quiet (Y.pickT rfl rfl) rfl ?_
              refine J.done ?_
              refine J.thenN ?_
              exact J.meetI (true) (()) h (by repeat (first | exact SubF.nil | refine SubF.cons rfl ?_)) (SubM.refl _) (LentAll.refl _ _)
            · replace h := ifN hp22 h
              refine JR.qtG rfl (SubM.nil) (SubL.nil) (Y.move rfl) (HistOk.b rfl (HistOk.b rfl (HistOk.b rfl HistOk.z))) ?_
              refine JR.qtG rfl (SubM.refl _) (SubL.nil) (Y.loadBAll 0 rfl rfl rfl rfl) (HistOk.b rfl (HistOk.b rfl (HistOk.b rfl HistOk.z))) ?_
              refine JR.qtG rfl (SubM.nil) (SubL.nil) (Y.move rfl) (HistOk.b rfl (HistOk.b rfl (HistOk.b rfl HistOk.z))) ?_
              refine JR.qtG rfl (SubM.nil) (SubL.nil) (Y.move rfl) (HistOk.b rfl (HistOk.b rfl (HistOk.b rfl HistOk.z))) ?_
              refine JR.qtG rfl (SubM.nil) (SubL.nil) (Y.move rfl) (HistOk.b rfl (HistOk.b rfl (HistOk.b rfl HistOk.z))) ?_
              replace h := ck_some h; obtain ⟨hc23, h⟩ := h
              refine JR.qtG rfl (SubM.nil) (SubL.cons (List.mem_of_getElem? (i := 2) rfl) (SubL.nil)) (Y.indexS rfl rfl (Lent.fact 0 rfl) rfl rfl hc23) (HistOk.b rfl (HistOk.b rfl (HistOk.b rfl HistOk.z))) ?_
              refine JR.qtG rfl (SubM.nil) (SubL.cons (List.mem_of_getElem? (i := 2) rfl) (SubL.nil)) (Y.loadS0 rfl (Lent.fact 0 rfl) rfl rfl rfl RI64c0 hc23) (HistOk.b rfl (HistOk.b rfl (HistOk.b rfl HistOk.z))) ?_
              refine JR.tailD 35 rfl rfl ?_
              replace h := bnd h; obtain ⟨r24, hr25, h⟩ := h
              refine J.loudG rfl (Loud.callL body49 (t_ref39_Fits fuel v0 v1 z2 r24 hr25) rfl (LentAll.cons (Lent.fact 0 rfl) (LentAll.cons (Lent.fact 1 rfl) (LentAll.nil))) (fun _ _ => rfl)) rfl fun x26 => ?_
              refine J.guardY rfl (Y.not rfl) rfl ?_
              refine J.quiet (Y.pickF rfl rfl) rfl ?_
              refine J.done ?_
              refine J.thenN ?_
              exact J.meetI ((!r24)) (()) h (by repeat (first | exact SubF.nil | refine SubF.cons rfl ?_)) (SubM.refl _) (LentAll.refl _ _)
  · clear h
    intro a3 b4 h
    unfold ref39_Accepts_k1 at h
    refine J.cond (by exact rfl) (fun hp5 => ?_) (fun hp5 => ?_)
    · replace h := ifP hp5 h
      refine J.seq ?_
      refine J.region ?_
      refine J.quiet (Y.assign rfl) rfl ?_
      refine J.done ?_
      refine J.thenN ?_
      refine J.ret ?_
      refine J.thenR ?_
      obtain rfl := Option.some.inj h
      exact J.retG1 (()) rfl rfl (RV.tmp rfl) (SubM.nil) LentAll.nil
    · replace h := ifBN hp5 h
      refine J.skip ?_
      refine J.thenN ?_
      refine J.seq ?_
      refine J.region ?_
      refine J.quiet (Y.move rfl) rfl ?_
      refine J.quiet (Y.loadBAll 0 rfl rfl rfl rfl) rfl ?_
      refine J.quiet (Y.move rfl) rfl ?_
      refine J.quiet (Y.move rfl) rfl ?_
      refine J.quiet (Y.move rfl) rfl ?_
      replace h := bnd h; obtain ⟨r6, hr7, h⟩ := h
      refine J.loud (Loud.callL body50 (t_ref39_sees fuel v0 v1 z2 v3 v4 r6 hr7) rfl (LentAll.cons (Lent.fact 0 rfl) (LentAll.cons (Lent.fact 1 rfl) (LentAll.cons (Lent.fact 2 rfl) (LentAll.cons (Lent.fact 3 rfl) (LentAll.nil))))) (fun _ _ => rfl)) rfl fun x8 => ?_
      refine J.quiet (Y.assign rfl) rfl ?_
      refine J.done ?_
      refine J.thenN ?_
      refine J.ret ?_
      obtain rfl := Option.some.inj h
      exact J.retG1 (()) rfl rfl (RV.tmp rfl) (SubM.nil) LentAll.nil

end Go.Proofs.Ytmajgimhmfeliaa
end
section
set_option linter.unusedVariables false
set_option linter.unusedSimpArgs false
namespace Go.Proofs.Ytmajgimhmfeliaa
open Go.Sx
set_option linter.unusedVariables false
set_option linter.unusedSimpArgs false
def ref39_Rejecting_k1  (a3 : Int) : Option (Int) :=
  some (a3)
def ref39_Rejecting_k3 (a8 : Int × Int) (ag7 : (Int × Int) → Option (Int)) (a16 : Int) : Option (Int) :=
  ag7 (a16, (wI .i64 (a8.2 + (1 : Int))))
def ref39_Rejecting_k2 (fuel : Nat) (p0 : Int) (p1 : List (Int) × (List (List (Int × Int)))) (p2 : List (Int)) (p3 : List (Int × Int)) (a8 : Int × Int) (ag7 : (Int × Int) → Option (Int)) (a12 : Bool) : Option (Int) :=
  if a12 = true then (Option.bind (m_ref39_Accepts fuel p0 ((p1.1, p1.2)) p2 p3 a8.2) fun r18 => (if (!r18) = true then (ck (0 ≤ (wI .u64 a8.2)) (ref39_Rejecting_k3 a8 ag7 (bOr .u32 a8.1 (bShl .u32 (1 : Int) (wI .u64 a8.2))))) else (ref39_Rejecting_k3 a8 ag7 (a8.1)))) else (ref39_Rejecting_k1  (a8.1))
def ref39_Rejecting_s1 (fuel : Nat) (p0 : Int) (p1 : List (Int) × (List (List (Int × Int)))) (p2 : List (Int)) (p3 : List (Int × Int)) (a8 : Int × Int) (ag7 : (Int × Int) → Option (Int)) : Option (Int) :=
  if a8.2 < (List.length p1.2 : Int) then (Option.bind (m_ref01_Valid fuel ((p1.1, p1.2))) fun r24 => (ref39_Rejecting_k2 fuel p0 p1 p2 p3 a8 ag7 (r24))) else (ref39_Rejecting_k2 fuel p0 p1 p2 p3 a8 ag7 (false))
def m_ref39_Rejecting (fuel : Nat) (p0 : Int) (p1 : List (Int) × (List (List (Int × Int)))) (p2 : List (Int)) (p3 : List (Int × Int)) : Option (Int) :=
  iter (ref39_Rejecting_s1 fuel p0 p1 p2 p3) fuel ((0 : Int), (0 : Int))

theorem body26 : HasBody Try.prog 26 := Try.call26

set_option maxHeartbeats 4000000 in
set_option maxRecDepth 20000 in
theorem t_ref39_Rejecting (fuel : Nat) {p0 : Int} {p1 : List (Int) × (List (List (Int × Int)))} {p2 : List (Int)} {p3 : List (Int × Int)} (v0 : Value)  (v1 : Value)  (z2 : List (Value × List (Int × Int)))  (v3 : Value)  (v4 : Value) (r : Int) (h : m_ref39_Rejecting fuel p0 p1 p2 p3 = some r) :
    Meets Try.prog 26 #[Value.int .i64 (p0), Value.agg #[v0, v1], v3, v4] [Sl RI64 v0 p1.1, S2 RI64I64p v1 z2 p1.2, Sl RI64 v3 p2, Sl RI64I64p v4 p3] (fun x : Unit => Value.int .u32 (r)) (fun x l => l) (fun _ l => l) := by
  refine Meets.of (vs := [Value.int .i64 (p0), Value.agg #[v0, v1], v3, v4]) Try.func26 rfl Try.ntmps26 rfl fun c => ?_
  unfold m_ref39_Rejecting at h
  refine J.seq ?_
  refine J.region ?_
  refine J.loud (Loud.box (cs := [v0, v1]) rfl rfl) rfl fun b1 => ?_
  refine J.quiet (Y.assign rfl) rfl ?_
  refine J.done ?_
  refine J.thenN ?_
  refine J.seq ?_
  refine J.region ?_
  refine J.quiet (Y.assign rfl) rfl ?_
  refine J.done ?_
  refine J.thenN ?_
  refine J.seq ?_
  refine J.midI (A := Int) (B := Unit) (fun a3 => ref39_Rejecting_k1  a3 = some r) (fun a3 b4 => [(9, Value.int .u32 (a3))]) (fun a3 b4 => []) (fun a3 b4 => [Sl RI64 v0 p1.1, S2 RI64I64p v1 z2 p1.2, Sl RI64 v3 p2, Sl RI64I64p v4 p3]) ?_ ?_
  · refine J.seq ?_
    refine J.region ?_
    refine J.quiet (Y.assign rfl) rfl ?_
    refine J.done ?_
    refine J.thenN ?_
    refine J.block ?_
    refine J.loopI (A := Int × Int) (B := Unit) (ref39_Rejecting_s1 fuel p0 p1 p2 p3) (fun a8 b9 => [(0, Value.int .i64 (p0)), (2, v3), (3, v4), (5, Value.pointer (some ⟨b1, 0, none⟩)), (9, Value.int .u32 (a8.1)), (10, Value.int .i64 (a8.2))]) (fun a8 b9 => [Blk b1 [v0, v1] 29]) (fun a8 b9 => [Sl RI64 v0 p1.1, S2 RI64I64p v1 z2 p1.2, Sl RI64 v3 p2, Sl RI64I64p v4 p3]) ((0 : Int), (0 : Int)) (()) h (by repeat (first | exact SubF.nil | refine SubF.cons rfl ?_)) (SubM.refl _) (LentAll.refl _ _) ?_
    clear h
    intro k10 a8 b9 h
    unfold ref39_Rejecting_s1 at h
    refine J.seq ?_
    refine J.seq ?_
    refine J.midI (A := Bool) (B := Unit) (fun a12 => ref39_Rejecting_k2 fuel p0 p1 p2 p3 a8 (iter (ref39_Rejecting_s1 fuel p0 p1 p2 p3) k10) a12 = some r) (fun a12 b13 => [(0, Value.int .i64 (p0)), (2, v3), (3, v4), (5, Value.pointer (some ⟨b1, 0, none⟩)), (9, Value.int .u32 (a8.1)), (10, Value.int .i64 (a8.2)), (19, Value.bool (a12))]) (fun a12 b13 => [Blk b1 [v0, v1] 29]) (fun a12 b13 => [Sl RI64 v0 p1.1, S2 RI64I64p v1 z2 p1.2, Sl RI64 v3 p2, Sl RI64I64p v4 p3]) ?_ ?_
    · refine J.region ?_
      refine J.quiet (Y.move rfl) rfl ?_
      refine J.quiet (Y.fieldB rfl rfl rfl rfl rfl) rfl ?_
      refine J.quiet (Y.loadB 0 rfl rfl rfl rfl rfl) rfl ?_
      refine J.quiet (Y.lenN rfl (Lent.fact 1 rfl) rfl) rfl ?_
      refine J.quiet (Y.lss rfl rfl) rfl ?_
      refine J.quiet (Y.move rfl) rfl ?_
      refine J.guardD (by exact rfl) (by exact rfl) (fun hp23 => ?_) (fun hp23 => ?_)
      · replace h := ifP hp23 h
        refine J.guardY rfl (Y.loadBAll 0 rfl rfl rfl rfl) rfl ?_
        replace h := bnd h; obtain ⟨r24, hr25, h⟩ := h
        refine J.loudG rfl (Loud.callL body48 (t_ref01_Valid fuel v0 v1 z2 r24 hr25) rfl (LentAll.cons (Lent.fact 0 rfl) (LentAll.cons (Lent.fact 1 rfl) (LentAll.nil))) (fun _ _ => rfl)) rfl fun x26 => ?_
        refine J.quiet (Y.pickT rfl rfl) rfl ?_
        refine J.done ?_
        refine J.thenN ?_
        exact J.meetI (r24) (()) h (by repeat (first | exact SubF.nil | refine SubF.cons rfl ?_)) (SubM.refl _) (LentAll.refl _ _)
      · replace h := ifN hp23 h
        refine J.guardN rfl rfl rfl ?_
        refine J.guardN rfl rfl rfl ?_
        refine J.quiet (Y.pickF rfl rfl) rfl ?_
        refine J.done ?_
        refine J.thenN ?_
        exact J.meetI (false) (()) h (by repeat (first | exact SubF.nil | refine SubF.cons rfl ?_)) (SubM.refl _) (LentAll.refl _ _)
    · clear h
      intro a12 b13 h
      unfold ref39_Rejecting_k2 at h
      refine J.cond (by exact rfl) (fun hp14 => ?_) (fun hp14 => ?_)
      · replace h := ifP hp14 h
        refine J.skip ?_
        refine J.thenN ?_
        refine J.seq ?_
        refine J.midI (A := Int) (B := Unit) (fun a16 => ref39_Rejecting_k3 a8 (iter (ref39_Rejecting_s1 fuel p0 p1 p2 p3) k10) a16 = some r) (fun a16 b17 => [(0, Value.int .i64 (p0)), (2, v3), (3, v4), (5, Value.pointer (some ⟨b1, 0, none⟩)), (9, Value.int .u32 (a16)), (10, Value.int .i64 (a8.2))]) (fun a16 b17 => [Blk b1 [v0, v1] 29]) (fun a16 b17 => [Sl RI64 v0 p1.1, S2 RI64I64p v1 z2 p1.2, Sl RI64 v3 p2, Sl RI64I64p v4 p3]) ?_ ?_
        · refine J.block ?_
          refine J.seq ?_
          refine J.region ?_
          refine J.quiet (Y.move rfl) rfl ?_
          refine J.quiet (Y.loadBAll 0 rfl rfl rfl rfl) rfl ?_
          refine J.quiet (Y.move rfl) rfl ?_
          refine J.quiet (Y.move rfl) rfl ?_
          refine J.quiet (Y.move rfl) rfl ?_
          replace h := bnd h; obtain ⟨r18, hr19, h⟩ := h
          refine J.loud (Loud.callL body24 (t_ref39_Accepts fuel v0 v1 z2 v3 v4 r18 hr19) rfl (LentAll.cons (Lent.fact 0 rfl) (LentAll.cons (Lent.fact 1 rfl) (LentAll.cons (Lent.fact 2 rfl) (LentAll.cons (Lent.fact 3 rfl) (LentAll.nil))))) (fun _ _ => rfl)) rfl fun x20 => ?_
          refine J.quiet (Y.not rfl) rfl ?_
          refine J.done ?_
          refine J.thenN ?_
          refine J.cond (by exact rfl) (fun hp21 => ?_) (fun hp21 => ?_)
          · replace h := ifP hp21 h
            refine J.region ?_
            refine J.quiet (Y.move rfl) rfl ?_
            refine J.quiet (Y.move rfl) rfl ?_
            refine J.quiet (Y.conv rfl rfl rfl) rfl ?_
            replace h := ck_some h; obtain ⟨hc22, h⟩ := h
            refine J.quiet (Y.shl rfl rfl hc22) rfl ?_
            refine J.quiet (Y.or rfl rfl) rfl ?_
            refine J.quiet (Y.assign rfl) rfl ?_
            refine J.done ?_
            refine J.inN ?_
            refine J.thenN ?_
            exact J.meetI (bOr .u32 a8.1 (bShl .u32 (1 : Int) (wI .u64 a8.2))) (()) h (by repeat (first | exact SubF.nil | refine SubF.cons rfl ?_)) (SubM.refl _) (LentAll.refl _ _)
          · replace h := ifBN hp21 h
            refine J.skip ?_
            refine J.inN ?_
            refine J.thenN ?_
            exact J.meetI (a8.1) (()) h (by repeat (first | exact SubF.nil | refine SubF.cons rfl ?_)) (SubM.refl _) (LentAll.refl _ _)
        · clear h
          intro a16 b17 h
          unfold ref39_Rejecting_k3 at h
          refine J.region ?_
          refine J.quiet (Y.move rfl) rfl ?_
          refine J.quiet (Y.addW rfl rfl) rfl ?_
          refine J.quiet (Y.assign rfl) rfl ?_
          refine J.done ?_
          refine J.thenN ?_
          exact J.againI (a16, (wI .i64 (a8.2 + (1 : Int)))) (()) h (by repeat (first | exact SubF.nil | refine SubF.cons rfl ?_)) (SubM.refl _) (LentAll.refl _ _)
      · replace h := ifBN hp14 h
        refine J.exit ?_
        refine J.thenX ?_
        refine J.thenX ?_
        refine J.inX ?_
        refine J.thenN ?_
        exact J.meetI (a8.1) (()) h (by repeat (first | exact SubF.nil | refine SubF.cons rfl ?_)) (SubM.nil) (LentAll.refl _ _)
  · clear h
    intro a3 b4 h
    unfold ref39_Rejecting_k1 at h
    refine J.seq ?_
    refine J.region ?_
    refine J.quiet (Y.move rfl) rfl ?_
    refine J.quiet (Y.assign rfl) rfl ?_
    refine J.done ?_
    refine J.thenN ?_
    refine J.ret ?_
    obtain rfl := Option.some.inj h
    exact J.retG1 (()) rfl rfl (RV.tmp rfl) (SubM.refl _) LentAll.nil

end Go.Proofs.Ytmajgimhmfeliaa
end
section
set_option linter.unusedVariables false
set_option linter.unusedSimpArgs false
namespace Go.Proofs.Ytmajgimhmfeliaa
open Go.Sx
/-- both answer alike -/
def Same2 {R : Type} (a b : Option R) : Prop := ∃ r, a = some r ∧ b = some r

/-- the label of the neighbour at a port -/
abbrev nlab (g : GR) (l : List (Int × Int)) (v i : Nat) : Int × Int := at' l (lnk (row g v) i).1
abbrev lab (l : List (Int × Int)) (v : Nat) : Int × Int := at' l (v : Int)

structure Ctx39 (g : GR) (st : List Int) (l : List (Int × Int)) (v : Nat) : Prop where
  V : VG g
  hv : v < g.2.length
  hs : st.length = g.2.length
  hl : l.length = g.2.length

theorem Ctx39.nb {g : GR} {st : List Int} {l : List (Int × Int)} {v : Nat} (h : Ctx39 g st l v) {i : Nat} (hi : i < (row g v).length) : 0 ≤ (lnk (row g v) i).1 ∧ (lnk (row g v) i).1 < (l.length : Int) := by
  have := ((h.V.node v h.hv).links i hi).1
  have := h.hl
  omega

theorem Ctx39.deg {g : GR} {st : List Int} {l : List (Int × Int)} {v : Nat} (h : Ctx39 g st l v) : (row g v).length < 24 := by
  have := (h.V.node v h.hv).deg
  have := h.V.n24
  omega

section
variable {g : GR} {st : List Int} {l : List (Int × Int)} {v : Nat}
/-! ## the reference's loop -/
abbrev SameAt (g : GR) (l : List (Int × Int)) (v i : Nat) : Prop := (nlab g l v i).1 = (lab l v).1
abbrev NearAt (g : GR) (l : List (Int × Int)) (v i : Nat) : Prop := (nlab g l v i).2 = wI .i64 ((lab l v).2 - 1)

theorem sees12 (h : Ctx39 g st l v) {kind : Int} (hk : kind = 1 ∨ kind = 2) :
    ((∀ i, i < (row g v).length → SameAt g l v i) → ∃ b : Bool, (b = true ↔ ∃ i, i < (row g v).length ∧ (kind = 2 ∨ (i : Int) = at' st (v : Int)) ∧ 1 ≤ (lab l v).2 ∧ NearAt g l v i) ∧ m_ref39_sees 1000 kind g st l (v : Int) = ref39_sees_k1 1000 kind g st l (v : Int) b) ∧
    (¬ (∀ i, i < (row g v).length → SameAt g l v i) → m_ref39_sees 1000 kind g st l (v : Int) = some false) := by
  have hd := h.deg
  have hs := h.hs
  have hl := h.hl
  have hv := h.hv
  have q1 : (at' g.2 (v : Int)).length = (row g v).length := rfl
  have key := iter_ifS (step := ref39_sees_s1 1000 kind g st l v) (K := fun x => ref39_sees_k1 1000 kind g st l v x.1) (bad := false) (row g v).length (SameAt g l v)
    (fun k x => x.2 = (k : Int) ∧ (x.1 = true ↔ ∃ i, i < k ∧ (kind = 2 ∨ (i : Int) = at' st (v : Int)) ∧ 1 ≤ (lab l v).2 ∧ NearAt g l v i)) ?_ ?_ ?_ 1000 (false, (0 : Int)) ⟨rfl, by simp⟩ (by omega)
  · unfold m_ref39_sees
    rw [ckT (by omega), ckT (by omega)]
    refine ⟨fun ha => ?_, key.2⟩
    obtain ⟨x, ⟨_, hx⟩, he⟩ := key.1 ha
    exact ⟨x.1, hx, he⟩
  · rintro k ⟨b, x2⟩ ag hk2 ⟨hx, hb⟩ hp
    dsimp only at hx hb
    subst hx
    have hn := h.nb hk2
    have q2 : (at' (at' g.2 (v : Int)) (k : Int)).1 = (lnk (row g v) k).1 := rfl
    have hp' : (at' l ((at' (at' g.2 (v : Int)) (k : Int)).1)).1 = (at' l (v : Int)).1 := hp
    have hnext : ∀ c : Bool, (c = true ↔ ((kind = 2 ∨ (k : Int) = at' st (v : Int)) ∧ 1 ≤ (lab l v).2 ∧ NearAt g l v k)) → ref39_sees_k9 (b, (k : Int)) ag c = ag (b || c, (k : Int) + 1) ∧ ((b || c) = true ↔ ∃ i, i < k + 1 ∧ (kind = 2 ∨ (i : Int) = at' st (v : Int)) ∧ 1 ≤ (lab l v).2 ∧ NearAt g l v i) := by
      intro c hc
      constructor
      · unfold ref39_sees_k9 ref39_sees_k7
        dsimp only
        rw [wr (by omega) (by omega)]
        cases c <;> cases b <;> rfl
      · rw [Bool.or_eq_true, hb, hc]
        constructor
        · rintro (⟨i, hi, hr⟩ | hr)
          · exact ⟨i, by omega, hr⟩
          · exact ⟨k, by omega, hr⟩
        · rintro ⟨i, hi, hr⟩
          by_cases e : i = k
          · subst e; exact .inr hr
          · exact .inl ⟨i, by omega, hr⟩
    have go : ∃ c : Bool, (c = true ↔ ((kind = 2 ∨ (k : Int) = at' st (v : Int)) ∧ 1 ≤ (lab l v).2 ∧ NearAt g l v k)) ∧ ref39_sees_s1 1000 kind g st l v (b, (k : Int)) ag = ref39_sees_k9 (b, (k : Int)) ag c := by
      unfold ref39_sees_s1
      dsimp only
      rw [ckT (by omega), if_pos (by omega), ckT (by omega), ckT (by omega)]
      have h8 : (if kind = (1 : Int) then (ref39_sees_k8 kind g st l v (b, (k : Int)) ag (decide (kind = (1 : Int)))) else (ref39_sees_k8 kind g st l v (b, (k : Int)) ag (decide (kind = (2 : Int))))) = ref39_sees_k8 kind g st l v (b, (k : Int)) ag true := by
        rcases hk with rfl | rfl <;> rfl
      rw [h8]
      unfold ref39_sees_k8
      dsimp only
      rw [if_pos rfl, ckT (by omega), if_neg (fun hne => hne hp')]
      by_cases h2 : kind = 2
      · rw [if_pos h2]
        by_cases hy : (1 : Int) ≤ (at' l (v : Int)).2
        · rw [if_pos hy, ckT (by omega)]
          exact ⟨_, by rw [decide_eq_true_eq]; exact ⟨fun hr => ⟨.inl h2, hy, hr⟩, fun hr => hr.2.2⟩, rfl⟩
        · rw [if_neg hy]
          exact ⟨false, ⟨fun hc => (by cases hc), fun hr => absurd hr.2.1 hy⟩, rfl⟩
      · rw [if_neg h2, ckT (by omega)]
        by_cases he : (k : Int) = at' st (v : Int)
        · rw [if_pos he]
          by_cases hy : (1 : Int) ≤ (at' l (v : Int)).2
          · rw [if_pos hy, ckT (by omega)]
            exact ⟨_, by rw [decide_eq_true_eq]; exact ⟨fun hr => ⟨.inr he, hy, hr⟩, fun hr => hr.2.2⟩, rfl⟩
          · rw [if_neg hy]
            exact ⟨false, ⟨fun hc => (by cases hc), fun hr => absurd hr.2.1 hy⟩, rfl⟩
        · rw [if_neg he]
          exact ⟨false, ⟨fun hc => (by cases hc), fun hr => by rcases hr.1 with h' | h'; exact absurd h' h2; exact absurd h' he⟩, rfl⟩
    obtain ⟨c, hc, he⟩ := go
    obtain ⟨e1, e2⟩ := hnext c hc
    exact ⟨(b || c, (k : Int) + 1), ⟨by simp, e2⟩, he.trans e1⟩
  · rintro k ⟨b, x2⟩ ag hk2 ⟨hx, hb⟩ hp
    dsimp only at hx hb
    subst hx
    have hn := h.nb hk2
    have q2 : (at' (at' g.2 (v : Int)) (k : Int)).1 = (lnk (row g v) k).1 := rfl
    have hp' : (at' l ((at' (at' g.2 (v : Int)) (k : Int)).1)).1 ≠ (at' l (v : Int)).1 := hp
    unfold ref39_sees_s1
    dsimp only
    rw [ckT (by omega), if_pos (by omega), ckT (by omega), ckT (by omega)]
    have h8 : (if kind = (1 : Int) then (ref39_sees_k8 kind g st l v (b, (k : Int)) ag (decide (kind = (1 : Int)))) else (ref39_sees_k8 kind g st l v (b, (k : Int)) ag (decide (kind = (2 : Int))))) = ref39_sees_k8 kind g st l v (b, (k : Int)) ag true := by
      rcases hk with rfl | rfl <;> rfl
    rw [h8]
    unfold ref39_sees_k8
    dsimp only
    rw [if_pos rfl, ckT (by omega), if_pos hp']
  · rintro ⟨b, x2⟩ ag ⟨hx, hb⟩
    dsimp only at hx
    subst hx
    unfold ref39_sees_s1
    dsimp only
    rw [ckT (by omega), if_neg (by omega)]

/-- the loops of the other two kinds -/
theorem sees34 (h : Ctx39 g st l v) {kind : Int} (hk : kind = 3 ∨ kind = 4) (p : Nat → Prop)
    (hp3 : kind = 3 → ∀ i, p i ↔ (nlab g l v i).1 = wI .i64 (1 - (lab l v).1)) (hp4 : kind = 4 → ∀ i, p i ↔ ((lab l v).1 = 1 ∨ (nlab g l v i).1 = 1)) :
    ((∀ i, i < (row g v).length → p i) → m_ref39_sees 1000 kind g st l (v : Int) = ref39_sees_k1 1000 kind g st l (v : Int) false) ∧
    (¬ (∀ i, i < (row g v).length → p i) → m_ref39_sees 1000 kind g st l (v : Int) = some false) := by
  have hd := h.deg
  have hs := h.hs
  have hl := h.hl
  have hv := h.hv
  have q1 : (at' g.2 (v : Int)).length = (row g v).length := rfl
  have enter : ∀ (k : Nat) (ag : Bool × Int → Option Bool), k < (row g v).length → ref39_sees_s1 1000 kind g st l v (false, (k : Int)) ag = ref39_sees_k8 kind g st l v (false, (k : Int)) ag false := by
    intro k ag hk2
    unfold ref39_sees_s1
    dsimp only
    rw [ckT (by omega), if_pos (by omega), ckT (by omega), ckT (by omega)]
    rcases hk with rfl | rfl <;> rfl
  have key := iter_ifS (step := ref39_sees_s1 1000 kind g st l v) (K := fun x => ref39_sees_k1 1000 kind g st l v x.1) (bad := false) (row g v).length p (fun k x => x = (false, (k : Int))) ?_ ?_ ?_ 1000 (false, (0 : Int)) rfl (by omega)
  · unfold m_ref39_sees
    rw [ckT (by omega), ckT (by omega)]
    refine ⟨fun ha => ?_, key.2⟩
    obtain ⟨x, hx, he⟩ := key.1 ha
    rw [he, hx]
  · rintro k x ag hk2 rfl hp
    refine ⟨(false, ((k + 1 : Nat) : Int)), rfl, ?_⟩
    have hn := h.nb hk2
    have q2 : (at' (at' g.2 (v : Int)) (k : Int)).1 = (lnk (row g v) k).1 := rfl
    rw [enter k ag hk2]
    unfold ref39_sees_k8
    dsimp only
    rw [if_neg (by simp)]
    rcases hk with rfl | rfl
    · rw [if_pos rfl, ckT (by omega), if_neg (fun hne => hne ((hp3 rfl k).1 hp))]
      unfold ref39_sees_k7
      dsimp only
      rw [wr (by omega) (by omega)]
      rfl
    · rw [if_neg (by decide)]
      have fin : ref39_sees_k10 (false, (k : Int)) ag false = ag (false, ((k + 1 : Nat) : Int)) := by
        unfold ref39_sees_k10 ref39_sees_k7
        dsimp only
        rw [if_neg (by simp), wr (by omega) (by omega)]
        rfl
      by_cases hx : (at' l (v : Int)).1 = 1
      · rw [if_neg (fun hne => hne hx)]; exact fin
      · rw [if_pos hx, ckT (by omega), decide_eq_false]
        · exact fin
        · intro hne
          rcases (hp4 rfl k).1 hp with h' | h'
          · exact hx h'
          · exact hne h'
  · rintro k x ag hk2 rfl hp
    have hn := h.nb hk2
    have q2 : (at' (at' g.2 (v : Int)) (k : Int)).1 = (lnk (row g v) k).1 := rfl
    rw [enter k ag hk2]
    unfold ref39_sees_k8
    dsimp only
    rw [if_neg (by simp)]
    rcases hk with rfl | rfl
    · rw [if_pos rfl, ckT (by omega), if_pos (fun he => hp ((hp3 rfl k).2 he))]
    · rw [if_neg (by decide), if_pos (fun he => hp ((hp4 rfl k).2 (.inl he))), ckT (by omega), decide_eq_true (show (at' l (at' (at' g.2 (v : Int)) (k : Int)).1).1 ≠ 1 from fun he => hp ((hp4 rfl k).2 (.inr he)))]
      rfl
  · rintro x ag rfl
    unfold ref39_sees_s1
    dsimp only
    rw [ckT (by omega), if_neg (by omega)]

/-! ## the program's loops -/
theorem acc1 (h : Ctx39 g st l v) : ((∀ i, i < (row g v).length → SameAt g l v i) → iter (labels_accepts_s1 1000 g l v) 1000 0 = labels_accepts_k3 g l v true) ∧ (¬ (∀ i, i < (row g v).length → SameAt g l v i) → iter (labels_accepts_s1 1000 g l v) 1000 0 = some false) := by
  have hd := h.deg
  have q1 : (at' g.2 (v : Int)).length = (row g v).length := rfl
  refine iter_if (row g v).length (SameAt g l v) (fun k ag hk hp => ?_) (fun k ag hk hp => ?_) (fun ag => ?_) 1000 (by omega)
  · have hn := h.nb hk
    have q2 : (at' (at' g.2 (v : Int)) (k : Int)).1 = (lnk (row g v) k).1 := rfl
    unfold labels_accepts_s1 m_labels_accepts_3
    rw [if_pos (by omega), ckT (by omega), ckT (by omega), bindS rfl, decide_eq_true hp]
    unfold labels_accepts_k8 labels_accepts_k7
    rw [if_neg (by simp), wr (by omega) (by omega)]
  · have hn := h.nb hk
    have q2 : (at' (at' g.2 (v : Int)) (k : Int)).1 = (lnk (row g v) k).1 := rfl
    unfold labels_accepts_s1 m_labels_accepts_3
    rw [if_pos (by omega), ckT (by omega), ckT (by omega), bindS rfl, decide_eq_false hp]
    unfold labels_accepts_k8 labels_accepts_k7 labels_accepts_k5
    rw [if_pos (by rfl), decide_eq_true (by omega)]
    rfl
  · unfold labels_accepts_s1
    rw [if_neg (by omega)]
    rfl

theorem acc2 (h : Ctx39 g st l v) : ((∀ i, i < (row g v).length → SameAt g l v i) → iter (labels_accepts_s2 1000 g st l v) 1000 0 = labels_accepts_k10 1000 g st l v true) ∧ (¬ (∀ i, i < (row g v).length → SameAt g l v i) → iter (labels_accepts_s2 1000 g st l v) 1000 0 = some false) := by
  have hd := h.deg
  have q1 : (at' g.2 (v : Int)).length = (row g v).length := rfl
  refine iter_if (row g v).length (SameAt g l v) (fun k ag hk hp => ?_) (fun k ag hk hp => ?_) (fun ag => ?_) 1000 (by omega)
  · have hn := h.nb hk
    have q2 : (at' (at' g.2 (v : Int)) (k : Int)).1 = (lnk (row g v) k).1 := rfl
    unfold labels_accepts_s2 m_labels_accepts_3
    rw [if_pos (by omega), ckT (by omega), ckT (by omega), bindS rfl, decide_eq_true hp]
    unfold labels_accepts_k15 labels_accepts_k14
    rw [if_neg (by simp), wr (by omega) (by omega)]
  · have hn := h.nb hk
    have q2 : (at' (at' g.2 (v : Int)) (k : Int)).1 = (lnk (row g v) k).1 := rfl
    unfold labels_accepts_s2 m_labels_accepts_3
    rw [if_pos (by omega), ckT (by omega), ckT (by omega), bindS rfl, decide_eq_false hp]
    unfold labels_accepts_k15 labels_accepts_k14 labels_accepts_k12
    rw [if_pos (by rfl), decide_eq_true (by omega)]
    rfl
  · unfold labels_accepts_s2
    rw [if_neg (by omega)]
    rfl

theorem acc3 (h : Ctx39 g st l v) : ((∀ i, i < (row g v).length → SameAt g l v i) → iter (labels_accepts_s3 1000 g l v) 1000 0 = labels_accepts_k17 g l v true) ∧ (¬ (∀ i, i < (row g v).length → SameAt g l v i) → iter (labels_accepts_s3 1000 g l v) 1000 0 = some false) := by
  have hd := h.deg
  have q1 : (at' g.2 (v : Int)).length = (row g v).length := rfl
  refine iter_if (row g v).length (SameAt g l v) (fun k ag hk hp => ?_) (fun k ag hk hp => ?_) (fun ag => ?_) 1000 (by omega)
  · have hn := h.nb hk
    have q2 : (at' (at' g.2 (v : Int)) (k : Int)).1 = (lnk (row g v) k).1 := rfl
    unfold labels_accepts_s3 m_labels_accepts_3
    rw [if_pos (by omega), ckT (by omega), ckT (by omega), bindS rfl, decide_eq_true hp]
    unfold labels_accepts_k22 labels_accepts_k21
    rw [if_neg (by simp), wr (by omega) (by omega)]
  · have hn := h.nb hk
    have q2 : (at' (at' g.2 (v : Int)) (k : Int)).1 = (lnk (row g v) k).1 := rfl
    unfold labels_accepts_s3 m_labels_accepts_3
    rw [if_pos (by omega), ckT (by omega), ckT (by omega), bindS rfl, decide_eq_false hp]
    unfold labels_accepts_k22 labels_accepts_k21 labels_accepts_k19
    rw [if_pos (by rfl), decide_eq_true (by omega)]
    rfl
  · unfold labels_accepts_s3
    rw [if_neg (by omega)]
    rfl

theorem acc5 (h : Ctx39 g st l v) : ((∀ i, i < (row g v).length → SameAt g l v i) → iter (labels_accepts_s5 1000 g l v) 1000 0 = labels_accepts_k24 1000 g l v true) ∧ (¬ (∀ i, i < (row g v).length → SameAt g l v i) → iter (labels_accepts_s5 1000 g l v) 1000 0 = some false) := by
  have hd := h.deg
  have q1 : (at' g.2 (v : Int)).length = (row g v).length := rfl
  refine iter_if (row g v).length (SameAt g l v) (fun k ag hk hp => ?_) (fun k ag hk hp => ?_) (fun ag => ?_) 1000 (by omega)
  · have hn := h.nb hk
    have q2 : (at' (at' g.2 (v : Int)) (k : Int)).1 = (lnk (row g v) k).1 := rfl
    unfold labels_accepts_s5 m_labels_accepts_3
    rw [if_pos (by omega), ckT (by omega), ckT (by omega), bindS rfl, decide_eq_true hp]
    unfold labels_accepts_k33 labels_accepts_k32
    rw [if_neg (by simp), wr (by omega) (by omega)]
  · have hn := h.nb hk
    have q2 : (at' (at' g.2 (v : Int)) (k : Int)).1 = (lnk (row g v) k).1 := rfl
    unfold labels_accepts_s5 m_labels_accepts_3
    rw [if_pos (by omega), ckT (by omega), ckT (by omega), bindS rfl, decide_eq_false hp]
    unfold labels_accepts_k33 labels_accepts_k32 labels_accepts_k30
    rw [if_pos (by rfl), decide_eq_true (by omega)]
    rfl
  · unfold labels_accepts_s5
    rw [if_neg (by omega)]
    rfl

theorem acc4 (h : Ctx39 g st l v) : ((∀ i, i < (row g v).length → ¬ NearAt g l v i) → iter (labels_accepts_s4 1000 g l v) 1000 0 = some false) ∧ (¬ (∀ i, i < (row g v).length → ¬ NearAt g l v i) → iter (labels_accepts_s4 1000 g l v) 1000 0 = some true) := by
  have hd := h.deg
  have q1 : (at' g.2 (v : Int)).length = (row g v).length := rfl
  refine iter_if (row g v).length (fun i => ¬ NearAt g l v i) (fun k ag hk hp => ?_) (fun k ag hk hp => ?_) (fun ag => ?_) 1000 (by omega)
  · have hn := h.nb hk
    have q2 : (at' (at' g.2 (v : Int)) (k : Int)).1 = (lnk (row g v) k).1 := rfl
    unfold labels_accepts_s4 m_labels_accepts_4
    rw [if_pos (by omega), ckT (by omega), ckT (by omega), bindS rfl, decide_eq_false hp]
    unfold labels_accepts_k28
    rw [if_neg (by simp), wr (by omega) (by omega)]
  · have hn := h.nb hk
    have q2 : (at' (at' g.2 (v : Int)) (k : Int)).1 = (lnk (row g v) k).1 := rfl
    unfold labels_accepts_s4 m_labels_accepts_4
    rw [if_pos (by omega), ckT (by omega), ckT (by omega), bindS rfl, decide_eq_true (Classical.not_not.1 hp)]
    unfold labels_accepts_k28 labels_accepts_k26
    rw [if_pos rfl, decide_eq_true (by omega)]
    rfl
  · unfold labels_accepts_s4
    rw [if_neg (by omega)]
    rfl

theorem acc6 (h : Ctx39 g st l v) : ((∀ i, i < (row g v).length → (nlab g l v i).1 = wI .i64 (1 - (lab l v).1)) → iter (labels_accepts_s6 1000 g l v) 1000 0 = some true) ∧ (¬ (∀ i, i < (row g v).length → (nlab g l v i).1 = wI .i64 (1 - (lab l v).1)) → iter (labels_accepts_s6 1000 g l v) 1000 0 = some false) := by
  have hd := h.deg
  have q1 : (at' g.2 (v : Int)).length = (row g v).length := rfl
  refine iter_if (row g v).length (fun i => (nlab g l v i).1 = wI .i64 (1 - (lab l v).1)) (fun k ag hk hp => ?_) (fun k ag hk hp => ?_) (fun ag => ?_) 1000 (by omega)
  · have hn := h.nb hk
    have q2 : (at' (at' g.2 (v : Int)) (k : Int)).1 = (lnk (row g v) k).1 := rfl
    unfold labels_accepts_s6 m_labels_accepts_5
    rw [if_pos (by omega), ckT (by omega), ckT (by omega), bindS rfl, decide_eq_true hp]
    unfold labels_accepts_k40 labels_accepts_k39
    rw [if_neg (by simp), wr (by omega) (by omega)]
  · have hn := h.nb hk
    have q2 : (at' (at' g.2 (v : Int)) (k : Int)).1 = (lnk (row g v) k).1 := rfl
    unfold labels_accepts_s6 m_labels_accepts_5
    rw [if_pos (by omega), ckT (by omega), ckT (by omega), bindS rfl, decide_eq_false hp]
    unfold labels_accepts_k40 labels_accepts_k39 labels_accepts_k37
    rw [if_pos (by rfl), decide_eq_true (by omega)]
    rfl
  · unfold labels_accepts_s6
    rw [if_neg (by omega)]
    rfl

theorem acc7 (h : Ctx39 g st l v) : ((∀ i, i < (row g v).length → ((lab l v).1 = 1 ∨ (nlab g l v i).1 = 1)) → iter (labels_accepts_s7 1000 g st l v) 1000 0 = labels_accepts_k41 1000 g st l v true) ∧ (¬ (∀ i, i < (row g v).length → ((lab l v).1 = 1 ∨ (nlab g l v i).1 = 1)) → iter (labels_accepts_s7 1000 g st l v) 1000 0 = some false) := by
  have hd := h.deg
  have q1 : (at' g.2 (v : Int)).length = (row g v).length := rfl
  have h6 : ∀ a b : Int × Int, m_labels_accepts_6 1000 (b.1, b.2) a.1 = some (decide (a.1 = 1 ∨ b.1 = 1)) := by
    intro a b
    unfold m_labels_accepts_6 labels_accepts_6_k1
    by_cases ha : a.1 = 1
    · rw [if_pos ha, decide_eq_true (.inl ha)]
    · rw [if_neg ha]; congr 1; exact decide_eq_decide.2 ⟨.inr, fun h => h.resolve_left ha⟩
  refine iter_if (row g v).length (fun i => (lab l v).1 = 1 ∨ (nlab g l v i).1 = 1) (fun k ag hk hp => ?_) (fun k ag hk hp => ?_) (fun ag => ?_) 1000 (by omega)
  · have hn := h.nb hk
    have q2 : (at' (at' g.2 (v : Int)) (k : Int)).1 = (lnk (row g v) k).1 := rfl
    unfold labels_accepts_s7
    rw [if_pos (by omega), ckT (by omega), ckT (by omega), h6, bindS rfl, decide_eq_true hp]
    unfold labels_accepts_k47 labels_accepts_k46
    rw [if_neg (by simp), wr (by omega) (by omega)]
  · have hn := h.nb hk
    have q2 : (at' (at' g.2 (v : Int)) (k : Int)).1 = (lnk (row g v) k).1 := rfl
    unfold labels_accepts_s7
    rw [if_pos (by omega), ckT (by omega), ckT (by omega), h6, bindS rfl, decide_eq_false hp]
    unfold labels_accepts_k47 labels_accepts_k46 labels_accepts_k44
    rw [if_pos (by rfl), decide_eq_true (by omega)]
    rfl
  · unfold labels_accepts_s7
    rw [if_neg (by omega)]
    rfl
end
end Go.Proofs.Ytmajgimhmfeliaa
end
section
set_option linter.unusedVariables false
set_option linter.unusedSimpArgs false
namespace Go.Proofs.Ytmajgimhmfeliaa
open Go.Sx
section
variable {g : GR} {st : List Int} {l : List (Int × Int)} {v : Nat}
/-- what a state may say at a node -/
def FitAt (kind : Int) (g : GR) (v : Nat) (x : Int) : Prop :=
  if kind = 1 ∨ kind = 4 then -1 ≤ x ∧ x < ((row g v).length : Int) else if kind = 2 then x = 0 ∨ x = 1 else x = 0

theorem Same2.of {R : Type} {a b : Option R} {r : R} (h1 : a = some r) (h2 : b = some r) : Same2 a b := ⟨r, h1, h2⟩

theorem prog_enter (h : Ctx39 g st l v) (kind : Int) : m_labels_accepts 1000 kind g st l (v : Int) = labels_accepts_k1 1000 kind g st l (v : Int) () := by
  have := h.hl
  have := h.hv
  unfold m_labels_accepts
  rw [ckT (by omega), ckT (by omega)]

theorem refK1 (h : Ctx39 g st l v) (b : Bool) : ref39_sees_k1 1000 1 g st l (v : Int) b = some (if at' st (v : Int) < 0 then decide ((lab l v).1 = at' g.1 (v : Int) ∧ (lab l v).2 = 0) else b) := by
  have hs := h.hs
  have hv := h.hv
  have hlen := h.V.len
  unfold ref39_sees_k1
  rw [if_pos rfl, ckT (by omega)]
  by_cases hx : at' st (v : Int) < 0
  · rw [if_pos hx, if_pos hx, ckT (by omega), ckT (by omega)]
    by_cases hi : (at' l (v : Int)).1 = at' g.1 (v : Int)
    · rw [if_pos hi]
      by_cases hy : (at' l (v : Int)).2 = 0
      · rw [if_pos hy, decide_eq_true ⟨hi, hy⟩]; rfl
      · rw [if_neg hy, if_neg (by omega), decide_eq_false (fun hc => hy hc.2)]; rfl
    · rw [if_neg hi, if_neg (by omega), decide_eq_false (fun hc => hi hc.1)]; rfl
  · rw [if_neg hx, if_neg hx, ckT (by omega), if_pos (by omega)]; rfl

theorem refK2 (h : Ctx39 g st l v) (hf : at' st (v : Int) = 0 ∨ at' st (v : Int) = 1) (b : Bool) : ref39_sees_k1 1000 2 g st l (v : Int) b = some (if at' st (v : Int) = 1 then decide ((lab l v).1 = at' g.1 (v : Int) ∧ (lab l v).2 = 0) else b) := by
  have hs := h.hs
  have hv := h.hv
  have hlen := h.V.len
  unfold ref39_sees_k1
  rw [if_neg (by decide), if_pos rfl, ckT (by omega)]
  by_cases hx : at' st (v : Int) = 1
  · rw [if_pos hx, if_pos hx, ckT (by omega), ckT (by omega)]
    by_cases hi : (at' l (v : Int)).1 = at' g.1 (v : Int)
    · rw [if_pos hi]
      by_cases hy : (at' l (v : Int)).2 = 0
      · rw [if_pos hy, decide_eq_true ⟨hi, hy⟩]; rfl
      · rw [if_neg hy, if_neg (by omega), decide_eq_false (fun hc => hy hc.2)]; rfl
    · rw [if_neg hi, if_neg (by omega), decide_eq_false (fun hc => hi hc.1)]; rfl
  · rw [if_neg hx, if_neg hx, ckT (by omega), if_pos (by omega)]; rfl

theorem progK3 (h : Ctx39 g st l v) : labels_accepts_k3 g l v true = some (decide ((lab l v).1 = at' g.1 (v : Int) ∧ (lab l v).2 = 0)) := by
  have hv := h.hv
  have hlen := h.V.len
  unfold labels_accepts_k3 labels_accepts_k2
  rw [if_pos rfl, ckT (by omega)]
  by_cases hi : (at' l (v : Int)).1 = at' g.1 (v : Int)
  · rw [if_pos hi]; congr 1; exact decide_eq_decide.2 ⟨fun hy => ⟨hi, hy⟩, fun hy => hy.2⟩
  · rw [if_neg hi, decide_eq_false (fun hc => hi hc.1)]

theorem progK17 (h : Ctx39 g st l v) : labels_accepts_k17 g l v true = some (decide ((lab l v).1 = at' g.1 (v : Int) ∧ (lab l v).2 = 0)) := by
  have hv := h.hv
  have hlen := h.V.len
  unfold labels_accepts_k17 labels_accepts_k16
  rw [if_pos rfl, ckT (by omega)]
  by_cases hi : (at' l (v : Int)).1 = at' g.1 (v : Int)
  · rw [if_pos hi]; congr 1; exact decide_eq_decide.2 ⟨fun hy => ⟨hi, hy⟩, fun hy => hy.2⟩
  · rw [if_neg hi, decide_eq_false (fun hc => hi hc.1)]

theorem alike1 (h : Ctx39 g st l v) (hf : FitAt 1 g v (at' st (v : Int))) : Same2 (m_labels_accepts 1000 1 g st l (v : Int)) (m_ref39_sees 1000 1 g st l (v : Int)) := by
  have hs := h.hs
  have hl := h.hl
  have hv := h.hv
  have q1 : (at' g.2 (v : Int)).length = (row g v).length := rfl
  rw [FitAt, if_pos (.inl rfl)] at hf
  have pe : m_labels_accepts 1000 1 g st l (v : Int) = if at' st (v : Int) < 0 then iter (labels_accepts_s1 1000 g l v) 1000 0 else iter (labels_accepts_s2 1000 g st l v) 1000 0 := by
    rw [prog_enter h]
    unfold labels_accepts_k1
    rw [if_pos rfl, ckT (by omega), ckT (by omega), ckT (by omega)]
  rw [pe]
  by_cases ha : ∀ i, i < (row g v).length → SameAt g l v i
  rotate_left
  · rw [(sees12 h (.inl rfl)).2 ha, (acc1 h).2 ha, (acc2 h).2 ha]
    exact ⟨false, by split <;> rfl, rfl⟩
  obtain ⟨b, hb, he⟩ := (sees12 h (.inl rfl)).1 ha
  rw [he, refK1 h, (acc1 h).1 ha, (acc2 h).1 ha, progK3 h]
  by_cases hx : at' st (v : Int) < 0
  · rw [if_pos hx, if_pos hx]; exact ⟨_, rfl, rfl⟩
  rw [if_neg hx, if_neg hx]
  refine ⟨b, ?_, rfl⟩
  unfold labels_accepts_k10 labels_accepts_k9
  rw [if_pos rfl]
  obtain ⟨k, hk⟩ : ∃ k : Nat, at' st (v : Int) = k := ⟨(at' st (v : Int)).toNat, by omega⟩
  have hkd : k < (row g v).length := by omega
  have hn := h.nb hkd
  have q2 : (at' (at' g.2 (v : Int)) (k : Int)).1 = (lnk (row g v) k).1 := rfl
  by_cases hy : (1 : Int) ≤ (at' l (v : Int)).2
  · rw [if_pos hy, ckT (by omega), ckT (by omega), hk, ckT (by omega), ckT (by omega)]
    unfold m_labels_accepts_4
    rw [bindS rfl]
    congr 1
    rw [Bool.eq_iff_iff, hb, decide_eq_true_eq]
    constructor
    · intro h3; exact ⟨k, hkd, .inr hk.symm, hy, h3⟩
    · rintro ⟨i, hi, h1, _, h3⟩
      rcases h1 with h1 | h1
      · cases h1
      · have : i = k := by omega
        subst this; exact h3
  · rw [if_neg hy]
    congr 1
    cases b with
    | false => rfl
    | true => obtain ⟨_, _, _, h2, _⟩ := hb.1 rfl; exact absurd h2 hy

theorem alike2 (h : Ctx39 g st l v) (hf : FitAt 2 g v (at' st (v : Int))) : Same2 (m_labels_accepts 1000 2 g st l (v : Int)) (m_ref39_sees 1000 2 g st l (v : Int)) := by
  have hs := h.hs
  have hl := h.hl
  have hv := h.hv
  rw [FitAt, if_neg (by decide), if_pos rfl] at hf
  have pe : m_labels_accepts 1000 2 g st l (v : Int) = if at' st (v : Int) = 1 then iter (labels_accepts_s3 1000 g l v) 1000 0 else iter (labels_accepts_s5 1000 g l v) 1000 0 := by
    rw [prog_enter h]
    unfold labels_accepts_k1
    rw [if_neg (by decide), if_pos rfl, ckT (by omega), ckT (by omega), ckT (by omega)]
  rw [pe]
  by_cases ha : ∀ i, i < (row g v).length → SameAt g l v i
  rotate_left
  · rw [(sees12 h (.inr rfl)).2 ha, (acc3 h).2 ha, (acc5 h).2 ha]
    exact ⟨false, by split <;> rfl, rfl⟩
  obtain ⟨b, hb, he⟩ := (sees12 h (.inr rfl)).1 ha
  rw [he, refK2 h hf, (acc3 h).1 ha, (acc5 h).1 ha, progK17 h]
  by_cases hx : at' st (v : Int) = 1
  · rw [if_pos hx, if_pos hx]; exact ⟨_, rfl, rfl⟩
  rw [if_neg hx, if_neg hx]
  refine ⟨b, ?_, rfl⟩
  unfold labels_accepts_k24 labels_accepts_k23
  rw [if_pos rfl]
  by_cases hy : (1 : Int) ≤ (at' l (v : Int)).2
  · rw [if_pos hy, ckT (by omega)]
    by_cases hn : ∀ i, i < (row g v).length → ¬ NearAt g l v i
    · rw [(acc4 h).1 hn]
      congr 1
      cases b with
      | false => rfl
      | true => obtain ⟨i, hi, _, _, h3⟩ := hb.1 rfl; exact absurd h3 (hn i hi)
    · rw [(acc4 h).2 hn]
      congr 1
      symm
      rw [hb]
      apply Classical.byContradiction
      intro hc
      exact hn fun i hi h3 => hc ⟨i, hi, .inl rfl, hy, h3⟩
  · rw [if_neg hy]
    congr 1
    cases b with
    | false => rfl
    | true => obtain ⟨_, _, _, h2, _⟩ := hb.1 rfl; exact absurd h2 hy

theorem alike3 (h : Ctx39 g st l v) : Same2 (m_labels_accepts 1000 3 g st l (v : Int)) (m_ref39_sees 1000 3 g st l (v : Int)) := by
  have hs := h.hs
  have hl := h.hl
  have hv := h.hv
  have key := sees34 h (kind := 3) (.inl rfl) (fun i => (nlab g l v i).1 = wI .i64 (1 - (lab l v).1)) (fun _ _ => Iff.rfl) (fun hc => by omega)
  rw [prog_enter h]
  unfold labels_accepts_k1
  rw [if_neg (by decide), if_neg (by decide)]
  have k34 : labels_accepts_k34 1000 3 g st l v false = iter (labels_accepts_s6 1000 g l v) 1000 0 := by
    unfold labels_accepts_k34
    rw [if_neg (by simp), if_pos rfl, ckT (by omega)]
  have fin : ∀ c : Bool, ((at' l (v : Int)).1 = 0 ∨ (at' l (v : Int)).1 = 1) → Same2 (iter (labels_accepts_s6 1000 g l v) 1000 0) (m_ref39_sees 1000 3 g st l v) := by
    intro _ hx
    by_cases ha : ∀ i, i < (row g v).length → (nlab g l v i).1 = wI .i64 (1 - (lab l v).1)
    · rw [(acc6 h).1 ha, key.1 ha]
      unfold ref39_sees_k1
      rw [if_neg (by decide), if_neg (by decide), if_pos rfl]
      rcases hx with hx | hx
      · rw [if_pos hx]; exact ⟨_, rfl, rfl⟩
      · rw [if_neg (by omega), decide_eq_true hx]; exact ⟨_, rfl, rfl⟩
    · rw [(acc6 h).2 ha, key.2 ha]; exact ⟨_, rfl, rfl⟩
  by_cases h0 : (at' l (v : Int)).1 ≠ 0
  · rw [if_pos h0]
    by_cases h1 : (at' l (v : Int)).1 ≠ 1
    · rw [decide_eq_true h1]
      have e1 : labels_accepts_k34 1000 3 g st l v true = some false := rfl
      rw [e1]
      by_cases ha : ∀ i, i < (row g v).length → (nlab g l v i).1 = wI .i64 (1 - (lab l v).1)
      · rw [key.1 ha]
        unfold ref39_sees_k1
        rw [if_neg (by decide), if_neg (by decide), if_pos rfl, if_neg h0, decide_eq_false h1]; exact ⟨_, rfl, rfl⟩
      · rw [key.2 ha]; exact ⟨_, rfl, rfl⟩
    · rw [decide_eq_false h1, k34]; exact fin true (.inr (by omega))
  · rw [if_neg h0, k34]; exact fin true (.inl (by omega))

theorem refBack_eq (h : Ctx39 g st l v) {k : Nat} (hk : k < (row g v).length) {u : Nat} (hu : u < g.2.length) (he : (lnk (row g v) k).1 = (u : Int)) : m_ref01_Back 1000 g (v : Int) (k : Int) = some (portOf (row g u) (v : Int)) := by
  have hd := h.deg
  have hv := h.hv
  have h24 := h.V.n24
  have q1 : (at' g.2 (v : Int)).length = (row g v).length := rfl
  have q2 : (at' (at' g.2 (v : Int)) (k : Int)).1 = (lnk (row g v) k).1 := rfl
  have hdeg : m_ref01_Degree 1000 g (v : Int) = some ((row g v).length : Int) := by
    unfold m_ref01_Degree
    rw [bindS ((refValid_eq g h.V.light).1 h.V)]
    unfold ref01_Degree_k1
    rw [if_neg (by simp), wr (by omega) (by omega), refIn_eq, decide_eq_true (by omega), bindS rfl]
    first | rw [if_neg (by simp), ckT (by omega)] | rfl
  unfold m_ref01_Back
  rw [bindS hdeg, wr (by omega) (by omega), refIn_eq, decide_eq_true (by omega), bindS rfl, if_neg (by simp), ckT (by omega), ckT (by omega), q2, he, bindS (refPort_eq g u v hu (by have := (h.V.node u hu).deg; omega))]

theorem prog4 (h : Ctx39 g st l v) : m_labels_accepts 1000 4 g st l (v : Int) = if (at' l (v : Int)).1 = 0 ∨ (at' l (v : Int)).1 = 1 then iter (labels_accepts_s7 1000 g st l v) 1000 0 else some false := by
  have hs := h.hs
  have hl := h.hl
  have hv := h.hv
  have k34 : labels_accepts_k34 1000 4 g st l v false = iter (labels_accepts_s7 1000 g st l v) 1000 0 := by
    unfold labels_accepts_k34
    rw [if_neg (by simp), if_neg (by decide), ckT (by omega)]
  rw [prog_enter h]
  unfold labels_accepts_k1
  rw [if_neg (by decide), if_neg (by decide)]
  by_cases h0 : (at' l (v : Int)).1 = 0
  · rw [if_neg (fun hne => hne h0), if_pos (.inl h0), k34]
  · rw [if_pos h0]
    by_cases h1 : (at' l (v : Int)).1 = 1
    · rw [decide_eq_false (fun hne => hne h1), if_pos (.inr h1), k34]
    · rw [decide_eq_true h1, if_neg (fun hc => hc.elim h0 h1)]; rfl

theorem refPartner (h : Ctx39 g st l v) (hf : FitAt 4 g v (at' st (v : Int))) : m_ref39_partner 1000 g st v = some (if at' st (v : Int) < 0 then -1 else (at' (at' g.2 (v : Int)) (at' st (v : Int))).1) := by
  have hs := h.hs
  have hv := h.hv
  have q1 : (at' g.2 (v : Int)).length = (row g v).length := rfl
  rw [FitAt, if_pos (.inr rfl)] at hf
  unfold m_ref39_partner
  rw [ckT (by omega)]
  by_cases hx : at' st (v : Int) < 0
  · rw [if_pos hx, if_pos hx]
  · rw [if_neg hx, if_neg hx, ckT (by omega), ckT (by omega), ckT (by omega)]

theorem ref4 (kind : Int) (hk : kind = 4) : ref39_sees_k1 1000 kind g st l v false = Option.bind (m_ref39_partner 1000 g st v) fun r42 => (if (0 : Int) ≤ r42 then (ck (0 ≤ r42 ∧ r42 < (List.length st : Int)) (ck (0 ≤ (v : Int) ∧ (v : Int) < (List.length st : Int)) (Option.bind (m_ref01_Back 1000 ((g.1, g.2)) v (at' st v)) fun r59 => (ref39_sees_k5 l v r42 (decide ((at' st r42) ≠ r59)))))) else (ref39_sees_k5 l v r42 (false))) := by
  unfold ref39_sees_k1
  rw [if_neg (by omega), if_neg (by omega), if_neg (by omega)]

/-- the value at kind 4 where all neighbours are covered -/
def val4 (g : GR) (st : List Int) (l : List (Int × Int)) (v : Nat) : Bool :=
  if at' st (v : Int) < 0 then decide ((at' l (v : Int)).1 = 0) else
    let u := (at' (at' g.2 (v : Int)) (at' st (v : Int))).1
    decide (at' st u = portOf (at' g.2 u) (v : Int)) && (decide ((at' l (v : Int)).1 = 0) || (decide ((at' l (v : Int)).1 = 1) && decide ((at' l u).1 = 0)))

theorem refVal4 (h : Ctx39 g st l v) (hf : FitAt 4 g v (at' st (v : Int))) : ref39_sees_k1 1000 4 g st l v false = some (val4 g st l v) := by
  have hs := h.hs
  have hl := h.hl
  have hv := h.hv
  have h24 := h.V.n24
  have q1 : (at' g.2 (v : Int)).length = (row g v).length := rfl
  rw [ref4 4 rfl, bindS (refPartner h hf)]
  rw [FitAt, if_pos (.inr rfl)] at hf
  unfold val4
  by_cases hx : at' st (v : Int) < 0
  · rw [if_pos hx, if_pos hx, if_neg (by decide)]
    unfold ref39_sees_k5
    rw [if_neg (by simp)]
    by_cases h0 : (at' l (v : Int)).1 = 0
    · rw [if_pos h0, decide_eq_true h0]; rfl
    · rw [if_neg h0, decide_eq_false h0]
      by_cases h1 : (at' l (v : Int)).1 = 1
      · rw [if_pos h1, if_neg (by decide)]; rfl
      · rw [if_neg h1]; rfl
  · rw [if_neg hx, if_neg hx]
    obtain ⟨k, hk⟩ : ∃ k : Nat, at' st (v : Int) = k := ⟨(at' st (v : Int)).toNat, by omega⟩
    have hkd : k < (row g v).length := by omega
    obtain ⟨u, hu, he, _⟩ := h.V.port hv hkd
    have q2 : (at' (at' g.2 (v : Int)) (k : Int)).1 = (u : Int) := he
    rw [hk, q2]
    dsimp only
    rw [if_pos (by omega), ckT (by omega), ckT (by omega), bindS (refBack_eq h hkd hu he)]
    have q3 : at' g.2 (u : Int) = row g u := rfl
    rw [q3]
    by_cases hb : at' st (u : Int) = portOf (row g u) (v : Int)
    · rw [decide_eq_false (fun hne => hne hb), decide_eq_true hb]
      unfold ref39_sees_k5
      rw [if_neg (by simp)]
      by_cases h0 : (at' l (v : Int)).1 = 0
      · rw [if_pos h0, decide_eq_true h0]; rfl
      · rw [if_neg h0, decide_eq_false h0]
        by_cases h1 : (at' l (v : Int)).1 = 1
        · rw [if_pos h1, if_pos (by omega), ckT (by omega), decide_eq_true h1]; rfl
        · rw [if_neg h1, decide_eq_false h1]; rfl
    · rw [decide_eq_true hb, decide_eq_false hb]; rfl

theorem progVal4 (h : Ctx39 g st l v) (hf : FitAt 4 g v (at' st (v : Int))) (h01 : (at' l (v : Int)).1 = 0 ∨ (at' l (v : Int)).1 = 1) : labels_accepts_k41 1000 g st l v true = some (val4 g st l v) := by
  have hs := h.hs
  have hl := h.hl
  have hv := h.hv
  have h24 := h.V.n24
  have q1 : (at' g.2 (v : Int)).length = (row g v).length := rfl
  rw [FitAt, if_pos (.inr rfl)] at hf
  unfold labels_accepts_k41 val4
  rw [if_neg (by simp), ckT (by omega)]
  by_cases hx : at' st (v : Int) < 0
  · rw [if_pos hx, if_pos hx]
  · rw [if_neg hx, if_neg hx]
    obtain ⟨k, hk⟩ : ∃ k : Nat, at' st (v : Int) = k := ⟨(at' st (v : Int)).toNat, by omega⟩
    have hkd : k < (row g v).length := by omega
    obtain ⟨u, hu, he, _⟩ := h.V.port hv hkd
    have q2 : (at' (at' g.2 (v : Int)) (k : Int)).1 = (u : Int) := he
    have q3 : at' g.2 (u : Int) = row g u := rfl
    have du := (h.V.node u hu).deg
    rw [hk]
    dsimp only
    rw [ckT (by omega), ckT (by omega), ckT (by omega), q2, q3, ckT (by omega), bindS (portTo_eq g u (v : Int) hu (by omega)), ckT (by omega)]
    unfold labels_accepts_k42
    by_cases hb : at' st (u : Int) = portOf (row g u) (v : Int)
    · rw [if_pos hb, decide_eq_true hb]
      by_cases h0 : (at' l (v : Int)).1 = 0
      · rw [if_pos h0, decide_eq_true h0]; rfl
      · rw [if_neg h0, decide_eq_false h0, decide_eq_true (h01.resolve_left h0)]; rfl
    · rw [if_neg hb, decide_eq_false hb]; rfl

theorem alike4 (h : Ctx39 g st l v) (hf : FitAt 4 g v (at' st (v : Int))) : Same2 (m_labels_accepts 1000 4 g st l (v : Int)) (m_ref39_sees 1000 4 g st l (v : Int)) := by
  have key := sees34 h (kind := 4) (.inr rfl) (fun i => (lab l v).1 = 1 ∨ (nlab g l v i).1 = 1) (fun hc => by omega) (fun _ _ => Iff.rfl)
  rw [prog4 h]
  by_cases ha : ∀ i, i < (row g v).length → ((lab l v).1 = 1 ∨ (nlab g l v i).1 = 1)
  rotate_left
  · rw [key.2 ha, (acc7 h).2 ha]
    exact ⟨false, by split <;> rfl, rfl⟩
  rw [key.1 ha, refVal4 h hf, (acc7 h).1 ha]
  refine ⟨_, ?_, rfl⟩
  by_cases h01 : (at' l (v : Int)).1 = 0 ∨ (at' l (v : Int)).1 = 1
  · rw [if_pos h01, progVal4 h hf h01]
  · rw [if_neg h01]
    have h0 : ¬ (at' l (v : Int)).1 = 0 := fun hc => h01 (.inl hc)
    have h1 : ¬ (at' l (v : Int)).1 = 1 := fun hc => h01 (.inr hc)
    unfold val4
    rw [decide_eq_false h0, decide_eq_false h1]
    by_cases hx : at' st (v : Int) < 0
    · rw [if_pos hx]
    · rw [if_neg hx]; simp
end
/-! ## the numbers of a state -/
theorem number_eq {g : GR} {v : Nat} (hv : v < g.2.length) (kind x : Int) : (FitAt kind g v x → m_labels_number 1000 kind g v x = some true) ∧ (¬ FitAt kind g v x → m_labels_number 1000 kind g v x = some false) := by
  have q1 : (at' g.2 (v : Int)).length = (row g v).length := rfl
  have e : m_labels_number 1000 kind g v x = labels_number_k1 kind g v x (decide (kind = 1 ∨ kind = 4)) := by
    unfold m_labels_number
    by_cases h1 : kind = 1
    · rw [if_pos h1, decide_eq_true h1, decide_eq_true (.inl h1)]
    · rw [if_neg h1]; congr 1; exact decide_eq_decide.2 ⟨.inr, fun h => h.resolve_left h1⟩
  rw [e]
  unfold labels_number_k1 FitAt
  by_cases h14 : kind = 1 ∨ kind = 4
  · rw [if_pos (decide_eq_true h14), if_pos h14]
    by_cases h1 : -1 ≤ x
    · rw [if_pos h1, ckT (by omega)]
      unfold labels_number_k2
      by_cases h2 : x < ((row g v).length : Int)
      · rw [decide_eq_true h2]; exact ⟨fun _ => rfl, fun hn => absurd ⟨h1, h2⟩ hn⟩
      · rw [decide_eq_false h2]; exact ⟨fun hy => absurd hy.2 h2, fun _ => rfl⟩
    · rw [if_neg h1]; exact ⟨fun hy => absurd hy.1 h1, fun _ => rfl⟩
  · rw [if_neg h14, decide_eq_false h14, if_neg (c := (false = true)) (by simp)]
    by_cases h2 : kind = 2
    · rw [if_pos h2, if_pos h2]
      unfold labels_number_k3
      by_cases h0 : x = 0
      · rw [if_pos h0]; exact ⟨fun _ => rfl, fun hn => absurd (.inl h0) hn⟩
      · rw [if_neg h0]
        by_cases h1 : x = 1
        · rw [decide_eq_true h1]; exact ⟨fun _ => rfl, fun hn => absurd (.inr h1) hn⟩
        · rw [decide_eq_false h1]; exact ⟨fun hy => by rcases hy with hy | hy; exact absurd hy h0; exact absurd hy h1, fun _ => rfl⟩
    · rw [if_neg h2, if_neg h2]
      by_cases h0 : x = 0
      · rw [decide_eq_true h0]; exact ⟨fun _ => rfl, fun hn => absurd h0 hn⟩
      · rw [decide_eq_false h0]; exact ⟨fun hy => absurd hy h0, fun _ => rfl⟩

theorem fits_eq {g : GR} {v : Nat} (hv : v < g.2.length) (hd : (row g v).length ≤ 900) (kind x : Int) : (FitAt kind g v x → m_ref39_Fits 1000 kind g v x = some true) ∧ (¬ FitAt kind g v x → m_ref39_Fits 1000 kind g v x = some false) := by
  have q1 : (at' g.2 (v : Int)).length = (row g v).length := rfl
  have e : m_ref39_Fits 1000 kind g v x = ref39_Fits_k1 1000 kind g v x (decide (kind = 1 ∨ kind = 4)) := by
    unfold m_ref39_Fits
    by_cases h1 : kind = 1
    · rw [if_pos h1, decide_eq_true h1, decide_eq_true (.inl h1)]
    · rw [if_neg h1]; congr 1; exact decide_eq_decide.2 ⟨.inr, fun h => h.resolve_left h1⟩
  rw [e]
  unfold ref39_Fits_k1 FitAt
  by_cases h14 : kind = 1 ∨ kind = 4
  · rw [if_pos (decide_eq_true h14), if_pos h14, ckT (by omega), wr (by omega) (by omega), refIn_eq, bindS rfl]
    by_cases h1 : -1 ≤ x ∧ x ≤ ((at' g.2 (v : Int)).length : Int) - 1
    · rw [decide_eq_true h1]; exact ⟨fun _ => rfl, fun hn => absurd ⟨h1.1, by omega⟩ hn⟩
    · rw [decide_eq_false h1]; exact ⟨fun hy => absurd ⟨hy.1, by omega⟩ h1, fun _ => rfl⟩
  · rw [if_neg h14, decide_eq_false h14, if_neg (c := (false = true)) (by simp)]
    by_cases h2 : kind = 2
    · rw [if_pos h2, if_pos h2]
      unfold ref39_Fits_k2
      by_cases h0 : x = 0
      · rw [if_pos h0]; exact ⟨fun _ => rfl, fun hn => absurd (.inl h0) hn⟩
      · rw [if_neg h0]
        by_cases h1 : x = 1
        · rw [decide_eq_true h1]; exact ⟨fun _ => rfl, fun hn => absurd (.inr h1) hn⟩
        · rw [decide_eq_false h1]; exact ⟨fun hy => by rcases hy with hy | hy; exact absurd hy h0; exact absurd hy h1, fun _ => rfl⟩
    · rw [if_neg h2, if_neg h2]
      by_cases h0 : x = 0
      · rw [decide_eq_true h0]; exact ⟨fun _ => rfl, fun hn => absurd h0 hn⟩
      · rw [decide_eq_false h0]; exact ⟨fun hy => absurd hy h0, fun _ => rfl⟩

/-! ## Accepts -/
/-- what is asked for -/
def OK39 (kind : Int) (g : GR) (st : List Int) (l : List (Int × Int)) (w : Int) : Prop :=
  (1 ≤ kind ∧ kind ≤ 4) ∧ (0 ≤ w ∧ w ≤ (g.2.length : Int) - 1) ∧ st.length = g.2.length ∧ l.length = g.2.length ∧ FitAt kind g w.toNat (at' st w)

theorem progA {g : GR} (hlg : light g) (hV : VG g) (kind : Int) (st : List Int) (l : List (Int × Int)) (w : Int) :
    (OK39 kind g st l w → m_labels_Accepts 1000 kind g st l w = (m_labels_accepts 1000 kind g st l w).bind fun r => some r) ∧ (¬ OK39 kind g st l w → m_labels_Accepts 1000 kind g st l w = some false) := by
  have hlen := hV.len
  have h24 := hV.n24
  have hkn : m_labels_known 1000 kind = some (decide (1 ≤ kind ∧ kind ≤ 4)) := by
    unfold m_labels_known labels_known_k1
    by_cases h1 : 1 ≤ kind
    · rw [if_pos h1]; congr 1; exact decide_eq_decide.2 ⟨fun h => ⟨h1, h⟩, fun h => h.2⟩
    · rw [if_neg h1, decide_eq_false (fun h => h1 h.1)]
  have no1 : labels_Accepts_k1 1000 kind g st l w true = some false := rfl
  have no3 : labels_Accepts_k2 1000 kind g st l w true = some false := rfl
  unfold m_labels_Accepts
  rw [bindS ((valid_eq g hlg).1 hV), if_neg (by simp), hkn, bindS rfl]
  by_cases hk : 1 ≤ kind ∧ kind ≤ 4
  rotate_left
  · rw [decide_eq_false hk, if_pos (by rfl), no1]; exact ⟨fun h => absurd h.1 hk, fun _ => rfl⟩
  rw [decide_eq_true hk, if_neg (c := ((!true) = true)) (by simp)]
  by_cases hw : 0 ≤ w ∧ w ≤ (g.2.length : Int) - 1
  rotate_left
  · refine ⟨fun h => absurd h.2.1 hw, fun _ => ?_⟩
    by_cases h0 : w < 0
    · rw [if_pos h0]; exact no1
    · rw [if_neg h0, decide_eq_true (by omega)]; exact no1
  rw [if_neg (show ¬ w < 0 by omega), decide_eq_false (show ¬ (g.1.length : Int) ≤ w by omega)]
  obtain ⟨v, rfl⟩ : ∃ k : Nat, w = k := ⟨w.toNat, by omega⟩
  unfold labels_Accepts_k1
  rw [if_neg (c := (false = true)) (by simp)]
  by_cases hs : st.length = g.2.length
  rotate_left
  · rw [if_pos (show (st.length : Int) ≠ (g.1.length : Int) by omega), no3]; exact ⟨fun h => absurd h.2.2.1 hs, fun _ => rfl⟩
  rw [if_neg (show ¬ (st.length : Int) ≠ (g.1.length : Int) by omega)]
  by_cases hl : l.length = g.2.length
  rotate_left
  · rw [if_pos (show (l.length : Int) ≠ (g.1.length : Int) by omega), no3]; exact ⟨fun h => absurd h.2.2.2.1 hl, fun _ => rfl⟩
  rw [if_neg (show ¬ (l.length : Int) ≠ (g.1.length : Int) by omega), ckT (by omega)]
  by_cases hf : FitAt kind g v (at' st (v : Int))
  rotate_left
  · rw [bindS ((number_eq (by omega) kind _).2 hf)]; exact ⟨fun h => absurd h.2.2.2.2 hf, fun _ => no3⟩
  rw [bindS ((number_eq (by omega) kind _).1 hf)]
  exact ⟨fun _ => rfl, fun h => absurd ⟨hk, hw, hs, hl, hf⟩ h⟩

theorem refA {g : GR} (hlg : light g) (hV : VG g) (kind : Int) (st : List Int) (l : List (Int × Int)) (w : Int) :
    (OK39 kind g st l w → m_ref39_Accepts 1000 kind g st l w = (m_ref39_sees 1000 kind g st l w).bind fun r => some r) ∧ (¬ OK39 kind g st l w → m_ref39_Accepts 1000 kind g st l w = some false) := by
  have hlen := hV.len
  have h24 := hV.n24
  have no2 : ref39_Accepts_k1 1000 kind g st l w true = some false := rfl
  unfold m_ref39_Accepts
  rw [bindS ((refValid_eq g hlg).1 hV), if_neg (by simp), refIn_eq, bindS rfl]
  by_cases hk : 1 ≤ kind ∧ kind ≤ 4
  rotate_left
  · rw [decide_eq_false hk, if_pos (by rfl), no2]; exact ⟨fun h => absurd h.1 hk, fun _ => rfl⟩
  rw [decide_eq_true hk, if_neg (c := ((!true) = true)) (by simp), wr (by omega) (by omega), refIn_eq, bindS rfl]
  by_cases hw : 0 ≤ w ∧ w ≤ (g.2.length : Int) - 1
  rotate_left
  · rw [decide_eq_false hw, if_pos (by rfl), no2]; exact ⟨fun h => absurd h.2.1 hw, fun _ => rfl⟩
  rw [decide_eq_true hw, if_neg (c := ((!true) = true)) (by simp)]
  obtain ⟨v, rfl⟩ : ∃ k : Nat, w = k := ⟨w.toNat, by omega⟩
  by_cases hs : st.length = g.2.length
  rotate_left
  · rw [if_pos (show (st.length : Int) ≠ (g.2.length : Int) by omega), no2]; exact ⟨fun h => absurd h.2.2.1 hs, fun _ => rfl⟩
  rw [if_neg (show ¬ (st.length : Int) ≠ (g.2.length : Int) by omega)]
  by_cases hl : l.length = g.2.length
  rotate_left
  · rw [if_pos (show (l.length : Int) ≠ (g.2.length : Int) by omega), no2]; exact ⟨fun h => absurd h.2.2.2.1 hl, fun _ => rfl⟩
  rw [if_neg (show ¬ (l.length : Int) ≠ (g.2.length : Int) by omega), ckT (by omega)]
  have hc : Ctx39 g st l v := ⟨hV, by omega, hs, hl⟩
  have hdg := hc.deg
  by_cases hf : FitAt kind g v (at' st (v : Int))
  rotate_left
  · rw [bindS ((fits_eq (by omega) (by omega) kind _).2 hf)]; exact ⟨fun h => absurd h.2.2.2.2 hf, fun _ => no2⟩
  rw [bindS ((fits_eq (by omega) (by omega) kind _).1 hf)]
  exact ⟨fun _ => rfl, fun h => absurd ⟨hk, hw, hs, hl, hf⟩ h⟩

theorem accepts_alike {g : GR} (hlg : light g) (kind : Int) (st : List Int) (l : List (Int × Int)) (w : Int) : Same2 (m_labels_Accepts 1000 kind g st l w) (m_ref39_Accepts 1000 kind g st l w) := by
  by_cases hV : VG g
  rotate_left
  · refine ⟨false, ?_, ?_⟩
    · unfold m_labels_Accepts; rw [bindS ((valid_eq g hlg).2 hV)]; rfl
    · unfold m_ref39_Accepts; rw [bindS ((refValid_eq g hlg).2 hV)]; rfl
  by_cases hok : OK39 kind g st l w
  rotate_left
  · exact ⟨false, (progA hlg hV kind st l w).2 hok, (refA hlg hV kind st l w).2 hok⟩
  rw [(progA hlg hV kind st l w).1 hok, (refA hlg hV kind st l w).1 hok]
  obtain ⟨hk, hw, hs, hl, hf⟩ := hok
  obtain ⟨v, rfl⟩ : ∃ k : Nat, w = k := ⟨w.toNat, by omega⟩
  have hc : Ctx39 g st l v := ⟨hV, by have := hV.len; omega, hs, hl⟩
  have key : Same2 (m_labels_accepts 1000 kind g st l (v : Int)) (m_ref39_sees 1000 kind g st l (v : Int)) := by
    rcases (show kind = 1 ∨ kind = 2 ∨ kind = 3 ∨ kind = 4 by omega) with rfl | rfl | rfl | rfl
    · exact alike1 hc hf
    · exact alike2 hc hf
    · exact alike3 hc
    · exact alike4 hc hf
  obtain ⟨r, h1, h2⟩ := key
  rw [bindS h1, bindS h2]
  exact ⟨_, rfl, rfl⟩

/-! ## Rejecting -/
theorem rejecting_alike {g : GR} (hlg : light g) (kind : Int) (st : List Int) (l : List (Int × Int)) : Same2 (m_labels_Rejecting 1000 kind g st l) (m_ref39_Rejecting 1000 kind g st l) := by
  unfold m_labels_Rejecting m_ref39_Rejecting
  by_cases hV : VG g
  rotate_left
  · rw [bindS ((valid_eq g hlg).2 hV), if_pos (by rfl)]
    refine ⟨0, rfl, ?_⟩
    show ref39_Rejecting_s1 1000 kind g st l (0, 0) (iter _ 999) = _
    unfold ref39_Rejecting_s1 ref39_Rejecting_k2
    dsimp only
    by_cases h0 : (0 : Int) < (g.2.length : Int)
    · rw [if_pos h0, bindS ((refValid_eq g hlg).2 hV)]; rfl
    · rw [if_neg h0]; rfl
  have hlen := hV.len
  have h24 := hV.n24
  rw [bindS ((valid_eq g hlg).1 hV), if_neg (by simp)]
  -- step by step
  have key : ∀ (d k fuel : Nat) (x : Int), k + d = g.2.length → d < fuel → Same2 (iter (labels_Rejecting_s1 1000 kind g st l) fuel (x, (k : Int))) (iter (ref39_Rejecting_s1 1000 kind g st l) fuel (x, (k : Int))) := by
    intro d
    induction d with
    | zero =>
      intro k fuel x hk hf
      obtain ⟨f, rfl⟩ : ∃ f, fuel = f + 1 := ⟨fuel - 1, by omega⟩
      refine ⟨x, ?_, ?_⟩
      · show labels_Rejecting_s1 1000 kind g st l (x, (k : Int)) _ = _
        unfold labels_Rejecting_s1
        dsimp only
        rw [if_neg (by omega)]; rfl
      · show ref39_Rejecting_s1 1000 kind g st l (x, (k : Int)) _ = _
        unfold ref39_Rejecting_s1
        dsimp only
        rw [if_neg (by omega)]; rfl
    | succ d ih =>
      intro k fuel x hk hf
      obtain ⟨f, rfl⟩ : ∃ f, fuel = f + 1 := ⟨fuel - 1, by omega⟩
      obtain ⟨r, h1, h2⟩ := accepts_alike hlg kind st l (k : Int)
      show Same2 (labels_Rejecting_s1 1000 kind g st l (x, (k : Int)) (iter (labels_Rejecting_s1 1000 kind g st l) f)) (ref39_Rejecting_s1 1000 kind g st l (x, (k : Int)) (iter (ref39_Rejecting_s1 1000 kind g st l) f))
      have e1 : ∀ ag, labels_Rejecting_s1 1000 kind g st l (x, (k : Int)) ag = ag (if r = true then x else bOr .u32 x (bShl .u32 1 (k : Int)), (k : Int) + 1) := by
        intro ag
        unfold labels_Rejecting_s1
        dsimp only
        rw [if_pos (by omega), bindS h1]
        unfold labels_Rejecting_k2
        dsimp only
        rw [wr (by omega) (by omega)]
        cases r
        · rw [if_pos (by rfl), ckT (by omega), if_neg (by simp)]
        · rw [if_neg (by simp), if_pos rfl]
      have hw : wI .u64 (k : Int) = (k : Int) := by
        show (k : Int) % 2 ^ 64 = (k : Int)
        omega
      have e2 : ∀ ag, ref39_Rejecting_s1 1000 kind g st l (x, (k : Int)) ag = ag (if r = true then x else bOr .u32 x (bShl .u32 1 (k : Int)), (k : Int) + 1) := by
        intro ag
        unfold ref39_Rejecting_s1 ref39_Rejecting_k2
        dsimp only
        rw [if_pos (by omega), bindS ((refValid_eq g hlg).1 hV), if_pos rfl, bindS h2, hw]
        unfold ref39_Rejecting_k3
        dsimp only
        rw [wr (by omega) (by omega)]
        cases r
        · rw [if_pos (by rfl), ckT (by omega), if_neg (by simp)]
        · rw [if_neg (by simp), if_pos rfl]
      rw [e1, e2]
      have := ih (k + 1) f (if r = true then x else bOr .u32 x (bShl .u32 1 (k : Int))) (by omega) (by omega)
      rwa [show ((k + 1 : Nat) : Int) = (k : Int) + 1 by omega] at this
  exact key g.2.length 0 1000 0 (by omega) (by omega)
end Go.Proofs.Ytmajgimhmfeliaa
end
section
set_option linter.unusedVariables false
set_option linter.unusedSimpArgs false
namespace Go.Proofs.Ytmajgimhmfeliaa
open Go.Sx
set_option linter.unusedVariables false
set_option linter.unusedSimpArgs false
def labels_fits_k1  (a3 : Unit) : Option (Bool) :=
  some (true)
def labels_fits_s1 (fuel : Nat) (p0 : Int) (p1 : List (Int) × (List (List (Int × Int)))) (p2 : List (Int)) (a7 : Int) (ag6 : (Int) → Option (Bool)) : Option (Bool) :=
  if a7 < (List.length p2 : Int) then (ck (0 ≤ a7 ∧ a7 < (List.length p2 : Int)) (Option.bind (m_labels_number fuel p0 ((p1.1, p1.2)) a7 (at' p2 a7)) fun r12 => (if (!r12) = true then (some (false)) else (ag6 (wI .i64 (a7 + (1 : Int))))))) else (labels_fits_k1  (()))
def m_labels_fits (fuel : Nat) (p0 : Int) (p1 : List (Int) × (List (List (Int × Int)))) (p2 : List (Int)) : Option (Bool) :=
  if (List.length p2 : Int) ≠ (List.length p1.1 : Int) then (some (false)) else (iter (labels_fits_s1 fuel p0 p1 p2) fuel (0 : Int))

theorem body31 : HasBody Try.prog 31 := Try.call31

set_option maxHeartbeats 4000000 in
set_option maxRecDepth 20000 in
theorem t_labels_fits (fuel : Nat) {p0 : Int} {p1 : List (Int) × (List (List (Int × Int)))} {p2 : List (Int)} (v0 : Value)  (v1 : Value)  (z2 : List (Value × List (Int × Int)))  (v3 : Value) (r : Bool) (h : m_labels_fits fuel p0 p1 p2 = some r) :
    Meets Try.prog 31 #[Value.int .i64 (p0), Value.agg #[v0, v1], v3] [Sl RI64 v0 p1.1, S2 RI64I64p v1 z2 p1.2, Sl RI64 v3 p2] (fun x : Unit => Value.bool (r)) (fun x l => l) (fun _ l => l) := by
  refine Meets.of (vs := [Value.int .i64 (p0), Value.agg #[v0, v1], v3]) Try.func31 rfl Try.ntmps31 rfl fun c => ?_
  unfold m_labels_fits at h
  refine J.seq ?_
  refine J.region ?_
  refine J.loud (Loud.box (cs := [v0, v1]) rfl rfl) rfl fun b1 => ?_
  refine J.quiet (Y.assign rfl) rfl ?_
  refine J.done ?_
  refine J.thenN ?_
  refine J.seq ?_
  refine J.seq ?_
  refine J.region ?_
  refine J.quiet (Y.move rfl) rfl ?_
  refine J.quiet (Y.lenS rfl (Lent.fact 2 rfl) rfl) rfl ?_
  refine J.quiet (Y.fieldB rfl rfl rfl rfl rfl) rfl ?_
  refine J.quiet (Y.loadB 0 rfl rfl rfl rfl rfl) rfl ?_
  refine J.quiet (Y.lenS rfl (Lent.fact 0 rfl) rfl) rfl ?_
  refine J.quiet (Y.neq rfl rfl) rfl ?_
  refine J.done ?_
  refine J.thenN ?_
  refine J.condD (by exact rfl) (fun hp2 => ?_) (fun hp2 => ?_)
  · replace h := ifP hp2 h
    refine J.seq ?_
    refine J.region ?_
    refine J.quiet (Y.assign rfl) rfl ?_
    refine J.done ?_
    refine J.thenN ?_
    refine J.ret ?_
    refine J.thenR ?_
    obtain rfl := Option.some.inj h
    exact J.retG1 (()) rfl rfl (RV.tmp rfl) (SubM.nil) LentAll.nil
  · replace h := ifN hp2 h
    refine J.skip ?_
    refine J.thenN ?_
    refine J.seq ?_
    refine J.midI (A := Unit) (B := Unit) (fun a3 => labels_fits_k1  a3 = some r) (fun a3 b4 => []) (fun a3 b4 => []) (fun a3 b4 => [Sl RI64 v0 p1.1, S2 RI64I64p v1 z2 p1.2, Sl RI64 v3 p2]) ?_ ?_
    · refine J.seq ?_
      refine J.region ?_
      refine J.quiet (Y.move rfl) rfl ?_
      refine J.quiet (Y.lenS rfl (Lent.fact 2 rfl) rfl) rfl ?_
      refine J.quiet (Y.move rfl) rfl ?_
      refine J.done ?_
      refine J.thenN ?_
      refine J.block ?_
      refine J.loopI (A := Int) (B := Unit) (labels_fits_s1 fuel p0 p1 p2) (fun a7 b8 => [(0, Value.int .i64 (p0)), (4, Value.pointer (some ⟨b1, 0, none⟩)), (15, v3), (16, Value.int .i64 (List.length p2 : Int)), (17, Value.int .i64 (a7))]) (fun a7 b8 => [Blk b1 [v0, v1] 29]) (fun a7 b8 => [Sl RI64 v0 p1.1, S2 RI64I64p v1 z2 p1.2, Sl RI64 v3 p2]) (0 : Int) (()) h (by repeat (first | exact SubF.nil | refine SubF.cons rfl ?_)) (SubM.refl _) (LentAll.refl _ _) ?_
      clear h
      intro k9 a7 b8 h
      unfold labels_fits_s1 at h
      refine J.seq ?_
      refine J.region ?_
      refine J.quiet (Y.lss rfl rfl) rfl ?_
      refine J.done ?_
      refine J.thenN ?_
      refine J.seq ?_
      refine J.condD (by exact rfl) (fun hp10 => ?_) (fun hp10 => ?_)
      · replace h := ifP hp10 h
        refine J.skip ?_
        refine J.thenN ?_
        refine J.seq ?_
        refine J.block ?_
        refine J.seq ?_
        refine J.region ?_
        refine J.quiet (Y.move rfl) rfl ?_
        replace h := ck_some h; obtain ⟨hc11, h⟩ := h
        refine J.quiet (Y.indexS rfl rfl (Lent.fact 2 rfl) rfl rfl hc11) rfl ?_
        refine J.quiet (Y.loadS0 rfl (Lent.fact 2 rfl) rfl rfl rfl RI64c0 hc11) rfl ?_
        refine J.quiet (Y.assign rfl) rfl ?_
        refine J.quiet (Y.assign rfl) rfl ?_
        refine J.done ?_
        refine J.thenN ?_
        refine J.seq ?_
        refine J.region ?_
        refine J.quiet (Y.move rfl) rfl ?_
        refine J.quiet (Y.loadBAll 0 rfl rfl rfl rfl) rfl ?_
        refine J.quiet (Y.move rfl) rfl ?_
        refine J.quiet (Y.move rfl) rfl ?_
        replace h := bnd h; obtain ⟨r12, hr13, h⟩ := h
        refine J.loud (Loud.callL body46 (t_labels_number fuel v0 v1 z2 r12 hr13) rfl (LentAll.cons (Lent.fact 0 rfl) (LentAll.cons (Lent.fact 1 rfl) (LentAll.nil))) (fun _ _ => rfl)) rfl fun x14 => ?_
        refine J.quiet (Y.not rfl) rfl ?_
        refine J.done ?_
        refine J.thenN ?_
        refine J.cond (by exact rfl) (fun hp15 => ?_) (fun hp15 => ?_)
        · replace h := ifP hp15 h
          refine J.seq ?_
          refine J.region ?_
          refine J.quiet (Y.assign rfl) rfl ?_
          refine J.done ?_
          refine J.thenN ?_
          refine J.ret ?_
          refine J.inR ?_
          refine J.thenR ?_
          refine J.thenR ?_
          refine J.inR ?_
          refine J.thenR ?_
          obtain rfl := Option.some.inj h
          exact J.retG1 (()) rfl rfl (RV.tmp rfl) (SubM.nil) LentAll.nil
        · replace h := ifBN hp15 h
          refine J.skip ?_
          refine J.inN ?_
          refine J.thenN ?_
          refine J.region ?_
          refine J.quiet (Y.addW rfl rfl) rfl ?_
          refine J.quiet (Y.move rfl) rfl ?_
          refine J.done ?_
          refine J.thenN ?_
          exact J.againI (wI .i64 (a7 + (1 : Int))) (()) h (by repeat (first | exact SubF.nil | refine SubF.cons rfl ?_)) (SubM.refl _) (LentAll.refl _ _)
      · replace h := ifN hp10 h
        refine J.exit ?_
        refine J.thenX ?_
        refine J.thenX ?_
        refine J.inX ?_
        refine J.thenN ?_
        exact J.meetI (()) (()) h (by repeat (first | exact SubF.nil | refine SubF.cons rfl ?_)) (SubM.nil) (LentAll.refl _ _)
    · clear h
      intro a3 b4 h
      unfold labels_fits_k1 at h
      refine J.seq ?_
      refine J.region ?_
      refine J.quiet (Y.assign rfl) rfl ?_
      refine J.done ?_
      refine J.thenN ?_
      refine J.ret ?_
      obtain rfl := Option.some.inj h
      exact J.retG1 (()) rfl rfl (RV.tmp rfl) (SubM.refl _) LentAll.nil

end Go.Proofs.Ytmajgimhmfeliaa
end
section
set_option linter.unusedVariables false
set_option linter.unusedSimpArgs false
namespace Go.Proofs.Ytmajgimhmfeliaa
open Go.Sx
set_option linter.unusedVariables false
set_option linter.unusedSimpArgs false
def labels_only_k1  (a3 : Int × Int) : Option (Int) :=
  if a3.2 ≠ (1 : Int) then (some (-1 : Int)) else (some (a3.1))
def labels_only_k2 (a10 : Int × Int × Int) (ag9 : (Int × Int × Int) → Option (Int)) (a16 : Int × Int) : Option (Int) :=
  ag9 (a16.1, a16.2, (wI .i64 (a10.2.2 + (1 : Int))))
def labels_only_s1 (p0 : List (Int)) (p1 : Int) (a10 : Int × Int × Int) (ag9 : (Int × Int × Int) → Option (Int)) : Option (Int) :=
  if a10.2.2 < (List.length p0 : Int) then (ck (0 ≤ a10.2.2 ∧ a10.2.2 < (List.length p0 : Int)) (if (at' p0 a10.2.2) = p1 then (labels_only_k2 a10 ag9 (a10.2.2, (wI .i64 (a10.2.1 + (1 : Int))))) else (labels_only_k2 a10 ag9 (a10.1, a10.2.1)))) else (labels_only_k1  (a10.1, a10.2.1))
def m_labels_only (fuel : Nat) (p0 : List (Int)) (p1 : Int) : Option (Int) :=
  iter (labels_only_s1 p0 p1) fuel ((-1 : Int), (0 : Int), (0 : Int))

theorem body54 : HasBody Try.prog 54 := Try.call54

set_option maxHeartbeats 4000000 in
set_option maxRecDepth 20000 in
theorem t_labels_only (fuel : Nat) {p0 : List (Int)} {p1 : Int} (v0 : Value) (r : Int) (h : m_labels_only fuel p0 p1 = some r) :
    Meets Try.prog 54 #[v0, Value.int .i64 (p1)] [Sl RI64 v0 p0] (fun x : Unit => Value.int .i64 (r)) (fun x l => l) (fun _ l => l) := by
  refine Meets.of (vs := [v0, Value.int .i64 (p1)]) Try.func54 rfl Try.ntmps54 rfl fun c => ?_
  unfold m_labels_only at h
  refine J.seq ?_
  refine J.region ?_
  refine J.quiet (Y.assign rfl) rfl ?_
  refine J.done ?_
  refine J.thenN ?_
  refine J.seq ?_
  refine J.region ?_
  refine J.quiet (Y.assign rfl) rfl ?_
  refine J.quiet (Y.assign rfl) rfl ?_
  refine J.done ?_
  refine J.thenN ?_
  refine J.seq ?_
  refine J.midI (A := Int × Int) (B := Unit) (fun a3 => labels_only_k1  a3 = some r) (fun a3 b4 => [(5, Value.int .i64 (a3.1)), (6, Value.int .i64 (a3.2))]) (fun a3 b4 => []) (fun a3 b4 => [Sl RI64 v0 p0]) ?_ ?_
  · refine J.seq ?_
    refine J.region ?_
    refine J.quiet (Y.move rfl) rfl ?_
    refine J.quiet (Y.lenS rfl (Lent.fact 0 rfl) rfl) rfl ?_
    refine J.quiet (Y.move rfl) rfl ?_
    refine J.done ?_
    refine J.thenN ?_
    refine J.block ?_
    refine J.loopI (A := Int × Int × Int) (B := Unit) (labels_only_s1 p0 p1) (fun a10 b11 => [(1, Value.int .i64 (p1)), (5, Value.int .i64 (a10.1)), (6, Value.int .i64 (a10.2.1)), (9, v0), (10, Value.int .i64 (List.length p0 : Int)), (11, Value.int .i64 (a10.2.2))]) (fun a10 b11 => []) (fun a10 b11 => [Sl RI64 v0 p0]) ((-1 : Int), (0 : Int), (0 : Int)) (()) h (by repeat (first | exact SubF.nil | refine SubF.cons rfl ?_)) (SubM.refl _) (LentAll.refl _ _) ?_
    clear h
    intro k12 a10 b11 h
    unfold labels_only_s1 at h
    refine J.seq ?_
    refine J.region ?_
    refine J.quiet (Y.lss rfl rfl) rfl ?_
    refine J.done ?_
    refine J.thenN ?_
    refine J.seq ?_
    refine J.condD (by exact rfl) (fun hp13 => ?_) (fun hp13 => ?_)
    · replace h := ifP hp13 h
      refine J.skip ?_
      refine J.thenN ?_
      refine J.seq ?_
      refine J.midI (A := Int × Int) (B := Unit) (fun a16 => labels_only_k2 a10 (iter (labels_only_s1 p0 p1) k12) a16 = some r) (fun a16 b17 => [(1, Value.int .i64 (p1)), (5, Value.int .i64 (a16.1)), (6, Value.int .i64 (a16.2)), (9, v0), (10, Value.int .i64 (List.length p0 : Int)), (11, Value.int .i64 (a10.2.2))]) (fun a16 b17 => []) (fun a16 b17 => [Sl RI64 v0 p0]) ?_ ?_
      · refine J.block ?_
        refine J.seq ?_
        refine J.region ?_
        refine J.quiet (Y.move rfl) rfl ?_
        replace h := ck_some h; obtain ⟨hc18, h⟩ := h
        refine J.quiet (Y.indexS rfl rfl (Lent.fact 0 rfl) rfl rfl hc18) rfl ?_
        refine J.quiet (Y.loadS0 rfl (Lent.fact 0 rfl) rfl rfl rfl RI64c0 hc18) rfl ?_
        refine J.quiet (Y.assign rfl) rfl ?_
        refine J.quiet (Y.assign rfl) rfl ?_
        refine J.done ?_
        refine J.thenN ?_
        refine J.seq ?_
        refine J.region ?_
        refine J.quiet (Y.move rfl) rfl ?_
        refine J.quiet (Y.move rfl) rfl ?_
        refine J.quiet (Y.eql rfl rfl) rfl ?_
        refine J.done ?_
        refine J.thenN ?_
        refine J.condD (by exact rfl) (fun hp19 => ?_) (fun hp19 => ?_)
        · replace h := ifP hp19 h
          refine J.seq ?_
          refine J.region ?_
          refine J.quiet (Y.move rfl) rfl ?_
          refine J.quiet (Y.assign rfl) rfl ?_
          refine J.done ?_
          refine J.thenN ?_
          refine J.region ?_
          refine J.quiet (Y.move rfl) rfl ?_
          refine J.quiet (Y.addW rfl rfl) rfl ?_
          refine J.quiet (Y.assign rfl) rfl ?_
          refine J.done ?_
          refine J.inN ?_
          refine J.thenN ?_
          exact J.meetI (a10.2.2, (wI .i64 (a10.2.1 + (1 : Int)))) (()) h (by repeat (first | exact SubF.nil | refine SubF.cons rfl ?_)) (SubM.refl _) (LentAll.refl _ _)
        · replace h := ifN hp19 h
          refine J.skip ?_
          refine J.inN ?_
          refine J.thenN ?_
          exact J.meetI (a10.1, a10.2.1) (()) h (by repeat (first | exact SubF.nil | refine SubF.cons rfl ?_)) (SubM.refl _) (LentAll.refl _ _)
      · clear h
        intro a16 b17 h
        unfold labels_only_k2 at h
        refine J.region ?_
        refine J.quiet (Y.addW rfl rfl) rfl ?_
        refine J.quiet (Y.move rfl) rfl ?_
        refine J.done ?_
        refine J.thenN ?_
        exact J.againI (a16.1, a16.2, (wI .i64 (a10.2.2 + (1 : Int)))) (()) h (by repeat (first | exact SubF.nil | refine SubF.cons rfl ?_)) (SubM.refl _) (LentAll.refl _ _)
    · replace h := ifN hp13 h
      refine J.exit ?_
      refine J.thenX ?_
      refine J.thenX ?_
      refine J.inX ?_
      refine J.thenN ?_
      exact J.meetI (a10.1, a10.2.1) (()) h (by repeat (first | exact SubF.nil | refine SubF.cons rfl ?_)) (SubM.refl _) (LentAll.refl _ _)
  · clear h
    intro a3 b4 h
    unfold labels_only_k1 at h
    refine J.seq ?_
    refine J.seq ?_
    refine J.region ?_
    refine J.quiet (Y.move rfl) rfl ?_
    refine J.quiet (Y.neq rfl rfl) rfl ?_
    refine J.done ?_
    refine J.thenN ?_
    refine J.condD (by exact rfl) (fun hp5 => ?_) (fun hp5 => ?_)
    · replace h := ifP hp5 h
      refine J.seq ?_
      refine J.region ?_
      refine J.quiet (Y.assign rfl) rfl ?_
      refine J.done ?_
      refine J.thenN ?_
      refine J.ret ?_
      refine J.thenR ?_
      obtain rfl := Option.some.inj h
      exact J.retG1 (()) rfl rfl (RV.tmp rfl) (SubM.refl _) LentAll.nil
    · replace h := ifN hp5 h
      refine J.skip ?_
      refine J.thenN ?_
      refine J.seq ?_
      refine J.region ?_
      refine J.quiet (Y.move rfl) rfl ?_
      refine J.quiet (Y.assign rfl) rfl ?_
      refine J.done ?_
      refine J.thenN ?_
      refine J.ret ?_
      obtain rfl := Option.some.inj h
      exact J.retG1 (()) rfl rfl (RV.tmp rfl) (SubM.refl _) LentAll.nil

end Go.Proofs.Ytmajgimhmfeliaa
end
section
set_option linter.unusedVariables false
set_option linter.unusedSimpArgs false
namespace Go.Proofs.Ytmajgimhmfeliaa
open Go.Sx
set_option linter.unusedVariables false
set_option linter.unusedSimpArgs false
def labels_tree_k1  (a9 : (List (Int × Int))) : Option ((List (Int × Int)) × Bool) :=
  some (a9, true)
def labels_tree_k2 (p0 : List (Int) × (List (List (Int × Int)))) (r2 : Int) (a14 : Int × (List (Int × Int))) (ag13 : (Int × (List (Int × Int))) → Option ((List (Int × Int)) × Bool)) (a19 : Int) : Option ((List (Int × Int)) × Bool) :=
  ck (0 ≤ r2 ∧ r2 < (List.length p0.1 : Int)) (ck (0 ≤ a14.1 ∧ a14.1 < (List.length a14.2 : Int)) (ag13 ((wI .i64 (a14.1 + (1 : Int))), (List.set a14.2 (Int.toNat a14.1) ((at' p0.1 r2), a19)))))
def labels_tree_s2 (p0 : List (Int) × (List (List (Int × Int)))) (p1 : List (Int)) (r2 : Int) (a14 : Int × (List (Int × Int))) (ag13 : (Int × (List (Int × Int))) → Option ((List (Int × Int)) × Bool)) (a27 : Int × Int) (ag26 : (Int × Int) → Option ((List (Int × Int)) × Bool)) : Option ((List (Int × Int)) × Bool) :=
  if a27.2 ≠ r2 then (if (List.length p1 : Int) ≤ (wI .i64 (a27.1 + (1 : Int))) then (some (([] : List (Int × Int)), false)) else (ck (0 ≤ a27.2 ∧ a27.2 < (List.length p0.2 : Int)) (ck (0 ≤ a27.2 ∧ a27.2 < (List.length p1 : Int)) (ck (0 ≤ (at' p1 a27.2) ∧ (at' p1 a27.2) < (List.length (at' p0.2 a27.2) : Int)) (ag26 ((wI .i64 (a27.1 + (1 : Int))), ((at' (at' p0.2 a27.2) (at' p1 a27.2)).1))))))) else (labels_tree_k2 p0 r2 a14 ag13 (a27.1))
def labels_tree_s1 (fuel : Nat) (p0 : List (Int) × (List (List (Int × Int)))) (p1 : List (Int)) (r2 : Int) (a14 : Int × (List (Int × Int))) (ag13 : (Int × (List (Int × Int))) → Option ((List (Int × Int)) × Bool)) : Option ((List (Int × Int)) × Bool) :=
  if a14.1 < (List.length p1 : Int) then (iter (labels_tree_s2 p0 p1 r2 a14 ag13) fuel ((0 : Int), a14.1)) else (labels_tree_k1  (a14.2))
def m_labels_tree (fuel : Nat) (p0 : List (Int) × (List (List (Int × Int)))) (p1 : List (Int)) : Option ((List (Int × Int)) × Bool) :=
  Option.bind (m_labels_only fuel p1 (-1 : Int)) fun r2 => (if r2 < (0 : Int) then (some (([] : List (Int × Int)), false)) else (ck (0 ≤ (List.length p1 : Int) ∧ (List.length p1 : Int) ≤ 1099511627) (iter (labels_tree_s1 fuel p0 p1 r2) fuel ((0 : Int), (List.replicate (Int.toNat (List.length p1 : Int)) ((0 : Int), (0 : Int)))))))

theorem body32 : HasBody Try.prog 32 := Try.call32

set_option maxHeartbeats 4000000 in
set_option maxRecDepth 20000 in
theorem t_labels_tree (fuel : Nat) {p0 : List (Int) × (List (List (Int × Int)))} {p1 : List (Int)} (v0 : Value)  (v1 : Value)  (z2 : List (Value × List (Int × Int)))  (v3 : Value) (r : (List (Int × Int)) × Bool) (h : m_labels_tree fuel p0 p1 = some r) :
    Meets Try.prog 32 #[Value.agg #[v0, v1], v3] [Sl RI64 v0 p0.1, S2 RI64I64p v1 z2 p0.2, Sl RI64 v3 p1] (fun x : Value => Value.tuple #[x, Value.bool (r.2)]) (fun x l => Ar EI64I64p x r.1 :: l) (fun _ l => l) := by
  refine Meets.of (vs := [Value.agg #[v0, v1], v3]) Try.func32 rfl Try.ntmps32 rfl fun c => ?_
  unfold m_labels_tree at h
  refine J.seq ?_
  refine J.region ?_
  refine J.loud (Loud.box (cs := [v0, v1]) rfl rfl) rfl fun b1 => ?_
  refine J.quiet (Y.assign rfl) rfl ?_
  refine J.quiet (Y.assign rfl) rfl ?_
  refine J.done ?_
  refine J.thenN ?_
  refine J.seq ?_
  refine J.region ?_
  refine J.quiet (Y.move rfl) rfl ?_
  replace h := bnd h; obtain ⟨r2, hr3, h⟩ := h
  refine J.loud (Loud.callL body54 (t_labels_only fuel v3 r2 hr3) rfl (LentAll.cons (Lent.fact 2 rfl) (LentAll.nil)) (fun _ _ => rfl)) rfl fun x4 => ?_
  refine J.quiet (Y.assign rfl) rfl ?_
  refine J.done ?_
  refine J.thenN ?_
  refine J.seq ?_
  refine J.seq ?_
  refine J.region ?_
  refine J.quiet (Y.move rfl) rfl ?_
  refine J.quiet (Y.lss rfl rfl) rfl ?_
  refine J.done ?_
  refine J.thenN ?_
  refine J.condD (by exact rfl) (fun hp5 => ?_) (fun hp5 => ?_)
  · replace h := ifP hp5 h
    refine J.seq ?_
    refine J.region ?_
    refine J.quiet (Y.assign rfl) rfl ?_
    refine J.quiet (Y.assign rfl) rfl ?_
    refine J.done ?_
    refine J.thenN ?_
    refine J.ret ?_
    refine J.thenR ?_
    refine J.stp (Stp.nilAr EI64I64p) ?_
    obtain rfl := Option.some.inj h
    exact J.retG2 (Value.slice none 0 0) rfl rfl (RV.tmp rfl) (RV.tmp rfl) (SubM.cons 0 rfl (SubM.nil)) LentAll.nil
  · replace h := ifN hp5 h
    refine J.skip ?_
    refine J.thenN ?_
    refine J.seq ?_
    refine J.region ?_
    refine J.quiet (Y.move rfl) rfl ?_
    refine J.quiet (Y.lenS rfl (Lent.fact 2 rfl) rfl) rfl ?_
    replace h := ck_some h; obtain ⟨hc6, h⟩ := h
    refine J.loud (Loud.makeS (e := EI64I64p) (((0 : Int), (0 : Int))) rfl rfl rfl rfl hc6 rfl rfl rfl) rfl fun u7 => ?_
    refine J.quiet (Y.assign rfl) rfl ?_
    refine J.done ?_
    refine J.thenN ?_
    refine J.seq ?_
    refine J.midI (A := (List (Int × Int))) (B := Unit) (fun a9 => labels_tree_k1  a9 = some r) (fun a9 b10 => [(7, u7)]) (fun a9 b10 => [Ar EI64I64p u7 a9]) (fun a9 b10 => [Sl RI64 v0 p0.1, S2 RI64I64p v1 z2 p0.2, Sl RI64 v3 p1]) ?_ ?_
    · refine J.seq ?_
      refine J.region ?_
      refine J.quiet (Y.move rfl) rfl ?_
      refine J.quiet (Y.lenS rfl (Lent.fact 2 rfl) rfl) rfl ?_
      refine J.quiet (Y.move rfl) rfl ?_
      refine J.done ?_
      refine J.thenN ?_
      refine J.block ?_
      refine J.loopI (A := Int × (List (Int × Int))) (B := Unit) (labels_tree_s1 fuel p0 p1 r2) (fun a14 b15 => [(1, v3), (2, Value.pointer (some ⟨b1, 0, none⟩)), (6, Value.int .i64 (r2)), (7, u7), (19, Value.int .i64 (List.length p1 : Int)), (20, Value.int .i64 (a14.1))]) (fun a14 b15 => [Ar EI64I64p u7 a14.2, Blk b1 [v0, v1] 29]) (fun a14 b15 => [Sl RI64 v0 p0.1, S2 RI64I64p v1 z2 p0.2, Sl RI64 v3 p1]) ((0 : Int), (List.replicate (Int.toNat (List.length p1 : Int)) ((0 : Int), (0 : Int)))) (()) h (by repeat (first | exact SubF.nil | refine SubF.cons rfl ?_)) (SubM.refl _) (LentAll.refl _ _) ?_
      clear h
      intro k16 a14 b15 h
      unfold labels_tree_s1 at h
      refine J.seq ?_
      refine J.region ?_
      refine J.quiet (Y.lss rfl rfl) rfl ?_
      refine J.done ?_
      refine J.thenN ?_
      refine J.seq ?_
      refine J.condD (by exact rfl) (fun hp17 => ?_) (fun hp17 => ?_)
      · replace h := ifP hp17 h
        refine J.skip ?_
        refine J.thenN ?_
        refine J.seq ?_
        refine J.block ?_
        refine J.seq ?_
        refine J.region ?_
        refine J.quiet (Y.move rfl) rfl ?_
        refine J.quiet (Y.assign rfl) rfl ?_
        refine J.done ?_
        refine J.thenN ?_
        refine J.seq ?_
        refine J.region ?_
        refine J.quiet (Y.assign rfl) rfl ?_
        refine J.done ?_
        refine J.thenN ?_
        refine J.seq ?_
        refine J.midI (A := Int) (B := Unit) (fun a19 => labels_tree_k2 p0 r2 a14 (iter (labels_tree_s1 fuel p0 p1 r2) k16) a19 = some r) (fun a19 b20 => [(1, v3), (2, Value.pointer (some ⟨b1, 0, none⟩)), (6, Value.int .i64 (r2)), (7, u7), (8, Value.int .i64 (a14.1)), (9, Value.int .i64 (a19)), (19, Value.int .i64 (List.length p1 : Int)), (20, Value.int .i64 (a14.1))]) (fun a19 b20 => [Ar EI64I64p u7 a14.2, Blk b1 [v0, v1] 29]) (fun a19 b20 => [Sl RI64 v0 p0.1, S2 RI64I64p v1 z2 p0.2, Sl RI64 v3 p1]) ?_ ?_
        · refine J.seq ?_
          refine J.region ?_
          refine J.quiet (Y.move rfl) rfl ?_
          refine J.quiet (Y.assign rfl) rfl ?_
          refine J.done ?_
          refine J.thenN ?_
          refine J.block ?_
          refine J.loopI (A := Int × Int) (B := Unit) (labels_tree_s2 p0 p1 r2 a14 (iter (labels_tree_s1 fuel p0 p1 r2) k16)) (fun a27 b28 => [(1, v3), (2, Value.pointer (some ⟨b1, 0, none⟩)), (6, Value.int .i64 (r2)), (7, u7), (8, Value.int .i64 (a14.1)), (9, Value.int .i64 (a27.1)), (10, Value.int .i64 (a27.2)), (19, Value.int .i64 (List.length p1 : Int)), (20, Value.int .i64 (a14.1))]) (fun a27 b28 => [Ar EI64I64p u7 a14.2, Blk b1 [v0, v1] 29]) (fun a27 b28 => [Sl RI64 v0 p0.1, S2 RI64I64p v1 z2 p0.2, Sl RI64 v3 p1]) ((0 : Int), a14.1) (()) h (by repeat (first | exact SubF.nil | refine SubF.cons rfl ?_)) (SubM.refl _) (LentAll.refl _ _) ?_
          clear h
          intro k29 a27 b28 h
          unfold labels_tree_s2 at h
          refine J.seq ?_
          refine J.seq ?_
          refine J.region ?_
          refine J.quiet (Y.move rfl) rfl ?_
          refine J.quiet (Y.move rfl) rfl ?_
          refine J.quiet (Y.neq rfl rfl) rfl ?_
          refine J.done ?_
          refine J.thenN ?_
          refine J.condD (by exact rfl) (fun hp30 => ?_) (fun hp30 => ?_)
          · replace h := ifP hp30 h
            refine J.skip ?_
            refine J.thenN ?_
            refine J.seq ?_
            refine J.block ?_
            refine J.seq ?_
            refine J.region ?_
            refine J.quiet (Y.move rfl) rfl ?_
            refine J.quiet (Y.addW rfl rfl) rfl ?_
            refine J.quiet (Y.assign rfl) rfl ?_
            refine J.done ?_
            refine J.thenN ?_
            refine J.seq ?_
            refine J.region ?_
            refine J.quiet (Y.move rfl) rfl ?_
            refine J.quiet (Y.move rfl) rfl ?_
            refine J.quiet (Y.lenS rfl (Lent.fact 2 rfl) rfl) rfl ?_
            refine J.quiet (Y.geq rfl rfl) rfl ?_
            refine J.done ?_
            refine J.thenN ?_
            refine J.condD (by exact rfl) (fun hp31 => ?_) (fun hp31 => ?_)
            · replace h := ifP hp31 h
              refine J.seq ?_
              refine J.region ?_
              refine J.quiet (Y.assign rfl) rfl ?_
              refine J.quiet (Y.assign rfl) rfl ?_
              refine J.done ?_
              refine J.thenN ?_
              refine J.ret ?_
              refine J.inR ?_
              refine J.thenR ?_
              refine J.thenR ?_
              refine J.inR ?_
              refine J.thenR ?_
              refine J.inR ?_
              refine J.thenR ?_
              refine J.thenR ?_
              refine J.inR ?_
              refine J.thenR ?_
              refine J.stp (Stp.nilAr EI64I64p) ?_
              obtain rfl := Option.some.inj h
              exact J.retG2 (Value.slice none 0 0) rfl rfl (RV.tmp rfl) (RV.tmp rfl) (SubM.cons 0 rfl (SubM.nil)) LentAll.nil
            · replace h := ifN hp31 h
              refine J.skip ?_
              refine J.inN ?_
              refine J.thenN ?_
              refine JR.start [0, 1, 0, 7, 15, 0, 0, 96, 224, 511, 1023, 2047, 4095] 9 mixedOrders (by decide +kernel) ?_
              refine JR.open (by exact rfl) ?_
              refine JR.qt rfl (SubM.nil) (SubL.nil) (Y.fieldB rfl rfl rfl rfl rfl) HistOk.z ?_
              refine JR.qt rfl (SubM.cons 1 rfl (SubM.nil)) (SubL.nil) (Y.loadB 0 rfl rfl rfl rfl rfl) HistOk.z ?_
              refine JR.qt rfl (SubM.nil) (SubL.nil) (Y.move rfl) HistOk.z ?_
              replace h := ck_some h; obtain ⟨hc32, h⟩ := h
              refine JR.qt rfl (SubM.nil) (SubL.cons (List.mem_of_getElem? (i := 1) rfl) (SubL.nil)) (Y.indexN rfl rfl (Lent.fact 0 rfl) rfl rfl hc32) HistOk.z ?_
              refine JR.qt rfl (SubM.nil) (SubL.cons (List.mem_of_getElem? (i := 1) rfl) (SubL.nil)) (Y.loadRow rfl (Lent.fact 0 rfl) rfl rfl hc32) HistOk.z ?_
              refine JR.qt rfl (SubM.nil) (SubL.nil) (Y.move rfl) HistOk.z ?_
              refine JR.qt rfl (SubM.nil) (SubL.nil) (Y.move rfl) HistOk.z ?_
              replace h := ck_some h; obtain ⟨hc33, h⟩ := h
              refine JR.qt rfl (SubM.nil) (SubL.cons (List.mem_of_getElem? (i := 2) rfl) (SubL.nil)) (Y.indexS rfl rfl (Lent.fact 0 rfl) rfl rfl hc33) HistOk.z ?_
              refine JR.qt rfl (SubM.nil) (SubL.cons (List.mem_of_getElem? (i := 2) rfl) (SubL.nil)) (Y.loadS0 rfl (Lent.fact 0 rfl) rfl rfl rfl RI64c0 hc33) HistOk.z ?_
              refine JR.tailD 9 rfl rfl ?_
              replace h := ck_some h; obtain ⟨hc34, h⟩ := h
              refine J.quiet (Y.indexS rfl rfl (Lent.el (Lent.fact 1 rfl) hc32.1 hc32.2) rfl rfl hc34) rfl ?_
              refine J.quiet (Y.fieldEl rfl rfl rfl rfl rfl) rfl ?_
              refine J.quiet (Y.loadS rfl (Lent.el (Lent.fact 1 rfl) hc32.1 hc32.2) rfl rfl rfl RI64I64pc0 hc34) rfl ?_
              refine J.quiet (Y.assign rfl) rfl ?_
              refine J.done ?_
              refine J.thenN ?_
              exact J.againI ((wI .i64 (a27.1 + (1 : Int))), ((at' (at' p0.2 a27.2) (at' p1 a27.2)).1)) (()) h (by repeat (first | exact SubF.nil | refine SubF.cons rfl ?_)) (SubM.refl _) (LentAll.refl _ _)
          · replace h := ifN hp30 h
            refine J.exit ?_
            refine J.thenX ?_
            refine J.thenX ?_
            refine J.inX ?_
            refine J.thenN ?_
            exact J.meetI (a27.1) (()) h (by repeat (first | exact SubF.nil | refine SubF.cons rfl ?_)) (SubM.refl _) (LentAll.refl _ _)
        · clear h
          intro a19 b20 h
          unfold labels_tree_k2 at h
          refine J.region ?_
          refine J.quiet (Y.move rfl) rfl ?_
          refine J.quiet (Y.move rfl) rfl ?_
          refine J.quiet (Y.fieldB rfl rfl rfl rfl rfl) rfl ?_
          refine J.quiet (Y.loadB 1 rfl rfl rfl rfl rfl) rfl ?_
          refine J.quiet (Y.move rfl) rfl ?_
          replace h := ck_some h; obtain ⟨hc21, h⟩ := h
          refine J.quiet (Y.indexS rfl rfl (Lent.fact 0 rfl) rfl rfl hc21) rfl ?_
          refine J.quiet (Y.loadS0 rfl (Lent.fact 0 rfl) rfl rfl rfl RI64c0 hc21) rfl ?_
          refine J.quiet (Y.move rfl) rfl ?_
          refine J.quiet (Y.bld2 (r := Value.agg #[Value.int .i64 (at' p0.1 r2), Value.int .i64 (a19)]) rfl rfl (by intro w; simp [Instr.build, Instr.fill, cells_intV, cells_boolV, cells_sliceV, cells_ptrV, cells_strV, cells_funcV, cells_agg])) rfl ?_
          replace h := ck_some h; obtain ⟨hc22, h⟩ := h
          refine J.quiet (Y.indexS rfl rfl (Lent.ar (Lent.res 0 rfl) FI64I64p) rfl rfl hc22) rfl ?_
          refine J.loud0 (Loud.storeE (us := [Value.int .i64 (at' p0.1 r2), Value.int .i64 (a19)]) (o := 0) 0 (((at' p0.1 r2), a19)) hc22 rfl rfl rfl rfl rfl rfl rfl rfl rfl rfl) fun x23 => ?_
          refine J.done ?_
          refine J.inN ?_
          refine J.thenN ?_
          refine J.region ?_
          refine J.quiet (Y.addW rfl rfl) rfl ?_
          refine J.quiet (Y.move rfl) rfl ?_
          refine J.done ?_
          refine J.thenN ?_
          exact J.againI ((wI .i64 (a14.1 + (1 : Int))), (List.set a14.2 (Int.toNat a14.1) ((at' p0.1 r2), a19))) (()) h (by repeat (first | exact SubF.nil | refine SubF.cons rfl ?_)) (SubM.refl _) (LentAll.refl _ _)
      · replace h := ifN hp17 h
        refine J.exit ?_
        refine J.thenX ?_
        refine J.thenX ?_
        refine J.inX ?_
        refine J.thenN ?_
        exact J.meetI (a14.2) (()) h (by repeat (first | exact SubF.nil | refine SubF.cons rfl ?_)) (SubM.cons 0 rfl (SubM.nil)) (LentAll.refl _ _)
    · clear h
      intro a9 b10 h
      unfold labels_tree_k1 at h
      refine J.seq ?_
      refine J.region ?_
      refine J.quiet (Y.move rfl) rfl ?_
      refine J.quiet (Y.assign rfl) rfl ?_
      refine J.quiet (Y.assign rfl) rfl ?_
      refine J.done ?_
      refine J.thenN ?_
      refine J.ret ?_
      obtain rfl := Option.some.inj h
      exact J.retG2 (u7) rfl rfl (RV.tmp rfl) (RV.tmp rfl) (SubM.refl _) LentAll.nil

end Go.Proofs.Ytmajgimhmfeliaa
end
section
set_option linter.unusedVariables false
set_option linter.unusedSimpArgs false
namespace Go.Proofs.Ytmajgimhmfeliaa
open Go.Sx
set_option linter.unusedVariables false
set_option linter.unusedSimpArgs false
def labels_leader_k1  (a9 : (List (Int × Int))) : Option ((List (Int × Int)) × Bool) :=
  some (a9, true)
def labels_leader_s1 (p0 : List (Int) × (List (List (Int × Int)))) (r2 : Int) (r11 : List (Int)) (a17 : Int × (List (Int × Int))) (ag16 : (Int × (List (Int × Int))) → Option ((List (Int × Int)) × Bool)) : Option ((List (Int × Int)) × Bool) :=
  if a17.1 < (List.length r11 : Int) then (ck (0 ≤ a17.1 ∧ a17.1 < (List.length r11 : Int)) (ck (0 ≤ r2 ∧ r2 < (List.length p0.1 : Int)) (ck (0 ≤ a17.1 ∧ a17.1 < (List.length a17.2 : Int)) (ag16 ((wI .i64 (a17.1 + (1 : Int))), (List.set a17.2 (Int.toNat a17.1) ((at' p0.1 r2), (at' r11 a17.1)))))))) else (labels_leader_k1  (a17.2))
def m_labels_leader (fuel : Nat) (p0 : List (Int) × (List (List (Int × Int)))) (p1 : List (Int)) : Option ((List (Int × Int)) × Bool) :=
  Option.bind (m_labels_only fuel p1 (1 : Int)) fun r2 => (if r2 < (0 : Int) then (some (([] : List (Int × Int)), false)) else (ck (0 ≤ (List.length p1 : Int) ∧ (List.length p1 : Int) ≤ 1099511627) (Option.bind (m_graph_Distances fuel ((p0.1, p0.2)) r2) fun r11 => (iter (labels_leader_s1 p0 r2 r11) fuel ((0 : Int), (List.replicate (Int.toNat (List.length p1 : Int)) ((0 : Int), (0 : Int))))))))

theorem body33 : HasBody Try.prog 33 := Try.call33

set_option maxHeartbeats 4000000 in
set_option maxRecDepth 20000 in
theorem t_labels_leader (fuel : Nat) {p0 : List (Int) × (List (List (Int × Int)))} {p1 : List (Int)} (v0 : Value)  (v1 : Value)  (z2 : List (Value × List (Int × Int)))  (v3 : Value) (r : (List (Int × Int)) × Bool) (h : m_labels_leader fuel p0 p1 = some r) :
    Meets Try.prog 33 #[Value.agg #[v0, v1], v3] [Sl RI64 v0 p0.1, S2 RI64I64p v1 z2 p0.2, Sl RI64 v3 p1] (fun x : Value => Value.tuple #[x, Value.bool (r.2)]) (fun x l => Ar EI64I64p x r.1 :: l) (fun _ l => l) := by
  refine Meets.of (vs := [Value.agg #[v0, v1], v3]) Try.func33 rfl Try.ntmps33 rfl fun c => ?_
  unfold m_labels_leader at h
  refine J.seq ?_
  refine J.region ?_
  refine J.loud (Loud.box (cs := [v0, v1]) rfl rfl) rfl fun b1 => ?_
  refine J.quiet (Y.assign rfl) rfl ?_
  refine J.quiet (Y.assign rfl) rfl ?_
  refine J.done ?_
  refine J.thenN ?_
  refine J.seq ?_
  refine J.region ?_
  refine J.quiet (Y.move rfl) rfl ?_
  replace h := bnd h; obtain ⟨r2, hr3, h⟩ := h
  refine J.loud (Loud.callL body54 (t_labels_only fuel v3 r2 hr3) rfl (LentAll.cons (Lent.fact 2 rfl) (LentAll.nil)) (fun _ _ => rfl)) rfl fun x4 => ?_
  refine J.quiet (Y.assign rfl) rfl ?_
  refine J.done ?_
  refine J.thenN ?_
  refine J.seq ?_
  refine J.seq ?_
  refine J.region ?_
  refine J.quiet (Y.move rfl) rfl ?_
  refine J.quiet (Y.lss rfl rfl) rfl ?_
  refine J.done ?_
  refine J.thenN ?_
  refine J.condD (by exact rfl) (fun hp5 => ?_) (fun hp5 => ?_)
  · replace h := ifP hp5 h
    refine J.seq ?_
    refine J.region ?_
    refine J.quiet (Y.assign rfl) rfl ?_
    refine J.quiet (Y.assign rfl) rfl ?_
    refine J.done ?_
    refine J.thenN ?_
    refine J.ret ?_
    refine J.thenR ?_
    refine J.stp (Stp.nilAr EI64I64p) ?_
    obtain rfl := Option.some.inj h
    exact J.retG2 (Value.slice none 0 0) rfl rfl (RV.tmp rfl) (RV.tmp rfl) (SubM.cons 0 rfl (SubM.nil)) LentAll.nil
  · replace h := ifN hp5 h
    refine J.skip ?_
    refine J.thenN ?_
    refine J.seq ?_
    refine J.region ?_
    refine J.quiet (Y.move rfl) rfl ?_
    refine J.quiet (Y.lenS rfl (Lent.fact 2 rfl) rfl) rfl ?_
    replace h := ck_some h; obtain ⟨hc6, h⟩ := h
    refine J.loud (Loud.makeS (e := EI64I64p) (((0 : Int), (0 : Int))) rfl rfl rfl rfl hc6 rfl rfl rfl) rfl fun u7 => ?_
    refine J.quiet (Y.assign rfl) rfl ?_
    refine J.done ?_
    refine J.thenN ?_
    refine J.seq ?_
    refine J.midI (A := (List (Int × Int))) (B := Unit) (fun a9 => labels_leader_k1  a9 = some r) (fun a9 b10 => [(7, u7)]) (fun a9 b10 => [Ar EI64I64p u7 a9]) (fun a9 b10 => [Sl RI64 v0 p0.1, S2 RI64I64p v1 z2 p0.2, Sl RI64 v3 p1]) ?_ ?_
    · refine J.seq ?_
      refine J.region ?_
      refine J.quiet (Y.loadBAll 1 rfl rfl rfl rfl) rfl ?_
      refine J.quiet (Y.move rfl) rfl ?_
      replace h := bnd h; obtain ⟨r11, hr12, h⟩ := h
      refine J.loud (Loud.callL body55 (t_graph_Distances fuel v0 v1 z2 r11 hr12) rfl (LentAll.cons (Lent.fact 0 rfl) (LentAll.cons (Lent.fact 1 rfl) (LentAll.nil))) (fun _ _ => rfl)) rfl fun x13 => ?_
      refine J.quiet (Y.lenS rfl (Lent.ar (Lent.res 0 rfl) FI64) rfl) rfl ?_
      refine J.quiet (Y.move rfl) rfl ?_
      refine J.done ?_
      refine J.thenN ?_
      refine J.block ?_
      refine J.loopI (A := Int × (List (Int × Int))) (B := Unit) (labels_leader_s1 p0 r2 r11) (fun a17 b18 => [(2, Value.pointer (some ⟨b1, 0, none⟩)), (6, Value.int .i64 (r2)), (7, u7), (19, x13), (20, Value.int .i64 (List.length r11 : Int)), (21, Value.int .i64 (a17.1))]) (fun a17 b18 => [Ar EI64 x13 r11, Ar EI64I64p u7 a17.2, Blk b1 [v0, v1] 29]) (fun a17 b18 => [Sl RI64 v0 p0.1, S2 RI64I64p v1 z2 p0.2, Sl RI64 v3 p1]) ((0 : Int), (List.replicate (Int.toNat (List.length p1 : Int)) ((0 : Int), (0 : Int)))) (()) h (by repeat (first | exact SubF.nil | refine SubF.cons rfl ?_)) (SubM.refl _) (LentAll.refl _ _) ?_
      clear h
      intro k19 a17 b18 h
      unfold labels_leader_s1 at h
      refine J.seq ?_
      refine J.region ?_
      refine J.quiet (Y.lss rfl rfl) rfl ?_
      refine J.done ?_
      refine J.thenN ?_
      refine J.seq ?_
      refine J.condD (by exact rfl) (fun hp20 => ?_) (fun hp20 => ?_)
      · replace h := ifP hp20 h
        refine J.skip ?_
        refine J.thenN ?_
        refine J.seq ?_
        refine J.block ?_
        refine J.seq ?_
        refine J.region ?_
        refine J.quiet (Y.move rfl) rfl ?_
        replace h := ck_some h; obtain ⟨hc21, h⟩ := h
        refine J.quiet (Y.indexS rfl rfl (Lent.ar (Lent.res 0 rfl) FI64) rfl rfl hc21) rfl ?_
        refine J.quiet (Y.loadS0 rfl (Lent.ar (Lent.res 0 rfl) FI64) rfl rfl rfl RI64c0 hc21) rfl ?_
        refine J.quiet (Y.assign rfl) rfl ?_
        refine J.quiet (Y.assign rfl) rfl ?_
        refine J.done ?_
        refine J.thenN ?_
        refine J.region ?_
        refine J.quiet (Y.move rfl) rfl ?_
        refine J.quiet (Y.move rfl) rfl ?_
        refine J.quiet (Y.fieldB rfl rfl rfl rfl rfl) rfl ?_
        refine J.quiet (Y.loadB 2 rfl rfl rfl rfl rfl) rfl ?_
        refine J.quiet (Y.move rfl) rfl ?_
        replace h := ck_some h; obtain ⟨hc22, h⟩ := h
        refine J.quiet (Y.indexS rfl rfl (Lent.fact 0 rfl) rfl rfl hc22) rfl ?_
        refine J.quiet (Y.loadS0 rfl (Lent.fact 0 rfl) rfl rfl rfl RI64c0 hc22) rfl ?_
        refine J.quiet (Y.move rfl) rfl ?_
        refine J.quiet (Y.bld2 (r := Value.agg #[Value.int .i64 (at' p0.1 r2), Value.int .i64 (at' r11 a17.1)]) rfl rfl (by intro w; simp [Instr.build, Instr.fill, cells_intV, cells_boolV, cells_sliceV, cells_ptrV, cells_strV, cells_funcV, cells_agg])) rfl ?_
        replace h := ck_some h; obtain ⟨hc23, h⟩ := h
        refine J.quiet (Y.indexS rfl rfl (Lent.ar (Lent.res 1 rfl) FI64I64p) rfl rfl hc23) rfl ?_
        refine J.loud0 (Loud.storeE (us := [Value.int .i64 (at' p0.1 r2), Value.int .i64 (at' r11 a17.1)]) (o := 0) 1 (((at' p0.1 r2), (at' r11 a17.1))) hc23 rfl rfl rfl rfl rfl rfl rfl rfl rfl rfl) fun x24 => ?_
        refine J.done ?_
        refine J.inN ?_
        refine J.thenN ?_
        refine J.region ?_
        refine J.quiet (Y.addW rfl rfl) rfl ?_
        refine J.quiet (Y.move rfl) rfl ?_
        refine J.done ?_
        refine J.thenN ?_
        exact J.againI ((wI .i64 (a17.1 + (1 : Int))), (List.set a17.2 (Int.toNat a17.1) ((at' p0.1 r2), (at' r11 a17.1)))) (()) h (by repeat (first | exact SubF.nil | refine SubF.cons rfl ?_)) (SubM.refl _) (LentAll.refl _ _)
      · replace h := ifN hp20 h
        refine J.exit ?_
        refine J.thenX ?_
        refine J.thenX ?_
        refine J.inX ?_
        refine J.thenN ?_
        exact J.meetI (a17.2) (()) h (by repeat (first | exact SubF.nil | refine SubF.cons rfl ?_)) (SubM.cons 1 rfl (SubM.nil)) (LentAll.refl _ _)
    · clear h
      intro a9 b10 h
      unfold labels_leader_k1 at h
      refine J.seq ?_
      refine J.region ?_
      refine J.quiet (Y.move rfl) rfl ?_
      refine J.quiet (Y.assign rfl) rfl ?_
      refine J.quiet (Y.assign rfl) rfl ?_
      refine J.done ?_
      refine J.thenN ?_
      refine J.ret ?_
      obtain rfl := Option.some.inj h
      exact J.retG2 (u7) rfl rfl (RV.tmp rfl) (RV.tmp rfl) (SubM.refl _) LentAll.nil

end Go.Proofs.Ytmajgimhmfeliaa
end
section
set_option linter.unusedVariables false
set_option linter.unusedSimpArgs false
namespace Go.Proofs.Ytmajgimhmfeliaa
open Go.Sx
set_option linter.unusedVariables false
set_option linter.unusedSimpArgs false
def __labels_coverer__spread_k3  (a17 : List (Int)) : Option (Bool × List (Int)) :=
  some (true, a17)
def __labels_coverer__spread_s1 (p0 : (List (Int) × (List (List (Int × Int)))) × List (Int) × List (Int)) (p1 : Int) (rc : ((List (Int) × (List (List (Int × Int)))) × List (Int) × List (Int)) → Int → Int → Option (Bool × List (Int))) (a23 : Int × List (Int)) (ag22 : (Int × List (Int)) → Option (Bool × List (Int))) : Option (Bool × List (Int)) :=
  if a23.1 < (List.length (at' p0.1.2 p1) : Int) then (ck (0 ≤ a23.1 ∧ a23.1 < (List.length (at' p0.1.2 p1) : Int)) (Option.bind (rc ((((p0.1.1, p0.1.2)), p0.2.1, a23.2)) ((at' (at' p0.1.2 p1) a23.1).1) (1 : Int)) fun r29 => (if (!r29.1) = true then (some (false, r29.2)) else (ag22 ((wI .i64 (a23.1 + (1 : Int))), r29.2))))) else (__labels_coverer__spread_k3  (a23.2))
def __labels_coverer__spread_k2 (fuel : Nat) (p0 : (List (Int) × (List (List (Int × Int)))) × List (Int) × List (Int)) (p1 : Int) (p2 : Int) (rc : ((List (Int) × (List (List (Int × Int)))) × List (Int) × List (Int)) → Int → Int → Option (Bool × List (Int))) (a12 : Bool × List (Int)) : Option (Bool × List (Int)) :=
  if a12.1 = true then (some (false, a12.2)) else (if p2 = (1 : Int) then (some (true, a12.2)) else (ck (0 ≤ p1 ∧ p1 < (List.length p0.1.2 : Int)) (iter (__labels_coverer__spread_s1 p0 p1 rc) fuel ((0 : Int), a12.2))))
def __labels_coverer__spread_k1 (fuel : Nat) (p0 : (List (Int) × (List (List (Int × Int)))) × List (Int) × List (Int)) (p1 : Int) (p2 : Int) (rc : ((List (Int) × (List (List (Int × Int)))) × List (Int) × List (Int)) → Int → Int → Option (Bool × List (Int))) (a6 : Bool) : Option (Bool × List (Int)) :=
  if a6 = true then (some (false, p0.2.2)) else (ck (0 ≤ p1 ∧ p1 < (List.length p0.2.2 : Int)) (if (0 : Int) ≤ (at' p0.2.1 p1) then (Option.bind (rc ((((p0.1.1, p0.1.2)), p0.2.1, (List.set p0.2.2 (Int.toNat p1) p2))) (at' p0.2.1 p1) (wI .i64 ((1 : Int) - p2))) fun r34 => (__labels_coverer__spread_k2 fuel p0 p1 p2 rc (((!r34.1)), r34.2))) else (__labels_coverer__spread_k2 fuel p0 p1 p2 rc (false, (List.set p0.2.2 (Int.toNat p1) p2)))))
def __labels_coverer__spread_b (rc : ((List (Int) × (List (List (Int × Int)))) × List (Int) × List (Int)) → Int → Int → Option (Bool × List (Int))) (fuel : Nat) (p0 : (List (Int) × (List (List (Int × Int)))) × List (Int) × List (Int)) (p1 : Int) (p2 : Int) : Option (Bool × List (Int)) :=
  ck (0 ≤ p1 ∧ p1 < (List.length p0.2.2 : Int)) (if (at' p0.2.2 p1) ≠ (-1 : Int) then (ck (0 ≤ p1 ∧ p1 < (List.length p0.2.2 : Int)) (some ((decide ((at' p0.2.2 p1) = p2)), p0.2.2))) else (ck (0 ≤ p1 ∧ p1 < (List.length p0.2.1 : Int)) (if (at' p0.2.1 p1) < (0 : Int) then (__labels_coverer__spread_k1 fuel p0 p1 p2 rc (decide (p2 = (1 : Int)))) else (__labels_coverer__spread_k1 fuel p0 p1 p2 rc (false)))))
def m___labels_coverer__spread : Nat → ((List (Int) × (List (List (Int × Int)))) × List (Int) × List (Int)) → Int → Int → Option (Bool × List (Int))
  | 0, _, _, _ => none
  | fuel + 1, p0, p1, p2 => __labels_coverer__spread_b (m___labels_coverer__spread fuel) fuel p0 p1 p2

theorem body77 : HasBody Try.prog 77 := Try.call77

set_option maxHeartbeats 4000000 in
set_option maxRecDepth 20000 in
theorem t___labels_coverer__spread_b (rc : ((List (Int) × (List (List (Int × Int)))) × List (Int) × List (Int)) → Int → Int → Option (Bool × List (Int))) (fuel : Nat) (hrc : ∀ {p0 : (List (Int) × (List (List (Int × Int)))) × List (Int) × List (Int)} {p1 : Int} {p2 : Int} (bx0 : Nat)  (v1 : Value)  (v2 : Value)  (z3 : List (Value × List (Int × Int)))  (v4 : Value)  (v5 : Value) (r : Bool × List (Int)), rc p0 p1 p2 = some r → MeetsM Try.prog 77 #[Value.pointer (some ⟨bx0, 0, none⟩), Value.int .i64 (p1), Value.int .i64 (p2)] [Ar EI64 v5 p0.2.2] [Blk bx0 [v1, v2, v4, v5] 75, Sl RI64 v1 p0.1.1, S2 RI64I64p v2 z3 p0.1.2, Sl RI64 v4 p0.2.1] (fun x : Unit => Value.bool (r.1)) (fun x l => Ar EI64 v5 r.2 :: l)) {p0 : (List (Int) × (List (List (Int × Int)))) × List (Int) × List (Int)} {p1 : Int} {p2 : Int} (bx0 : Nat)  (v1 : Value)  (v2 : Value)  (z3 : List (Value × List (Int × Int)))  (v4 : Value)  (v5 : Value) (r : Bool × List (Int)) (h : __labels_coverer__spread_b rc fuel p0 p1 p2 = some r) :
    MeetsM Try.prog 77 #[Value.pointer (some ⟨bx0, 0, none⟩), Value.int .i64 (p1), Value.int .i64 (p2)] [Ar EI64 v5 p0.2.2] [Blk bx0 [v1, v2, v4, v5] 75, Sl RI64 v1 p0.1.1, S2 RI64I64p v2 z3 p0.1.2, Sl RI64 v4 p0.2.1] (fun x : Unit => Value.bool (r.1)) (fun x l => Ar EI64 v5 r.2 :: l) := by
  refine MeetsM.of (vs := [Value.pointer (some ⟨bx0, 0, none⟩), Value.int .i64 (p1), Value.int .i64 (p2)]) Try.func77 rfl Try.ntmps77 rfl fun c => ?_
  unfold __labels_coverer__spread_b at h
  refine J.seq ?_
  refine J.region ?_
  refine J.quiet (Y.assign rfl) rfl ?_
  refine J.done ?_
  refine J.thenN ?_
  refine J.seq ?_
  refine J.seq ?_
  refine J.region ?_
  refine J.quiet (Y.move rfl) rfl ?_
  refine J.quiet (Y.nilCheckB rfl) rfl ?_
  refine J.quiet (Y.fieldB rfl rfl rfl rfl rfl) rfl ?_
  refine J.quiet (Y.loadBS rfl (Lent.fact 0 rfl) rfl rfl rfl) rfl ?_
  refine J.quiet (Y.move rfl) rfl ?_
  replace h := ck_some h; obtain ⟨hc1, h⟩ := h
  refine J.quiet (Y.indexS rfl rfl (Lent.ar (Lent.res 0 rfl) FI64) rfl rfl hc1) rfl ?_
  refine J.quiet (Y.loadS0 rfl (Lent.ar (Lent.res 0 rfl) FI64) rfl rfl rfl RI64c0 hc1) rfl ?_
  refine J.quiet (Y.neq rfl rfl) rfl ?_
  refine J.done ?_
  refine J.thenN ?_
  refine J.condD (by exact rfl) (fun hp2 => ?_) (fun hp2 => ?_)
  · replace h := ifP hp2 h
    refine J.seq ?_
    refine J.region ?_
    refine J.quiet (Y.move rfl) rfl ?_
    refine J.quiet (Y.nilCheckB rfl) rfl ?_
    refine J.quiet (Y.fieldB rfl rfl rfl rfl rfl) rfl ?_
    refine J.quiet (Y.loadBS rfl (Lent.fact 0 rfl) rfl rfl rfl) rfl ?_
    refine J.quiet (Y.move rfl) rfl ?_
    replace h := ck_some h; obtain ⟨hc3, h⟩ := h
    refine J.quiet (Y.indexS rfl rfl (Lent.ar (Lent.res 0 rfl) FI64) rfl rfl hc3) rfl ?_
    refine J.quiet (Y.loadS0 rfl (Lent.ar (Lent.res 0 rfl) FI64) rfl rfl rfl RI64c0 hc3) rfl ?_
    refine J.quiet (Y.move rfl) rfl ?_
    refine J.quiet (Y.eql rfl rfl) rfl ?_
    refine J.quiet (Y.assign rfl) rfl ?_
    refine J.done ?_
    refine J.thenN ?_
    refine J.ret ?_
    refine J.thenR ?_
    obtain rfl := Option.some.inj h
    exact J.retG1 (()) rfl rfl (RV.tmp rfl) (SubM.refl _) LentAll.nil
  · replace h := ifN hp2 h
    refine J.skip ?_
    refine J.thenN ?_
    refine J.seq ?_
    refine J.region ?_
    refine J.quiet (Y.move rfl) rfl ?_
    refine J.quiet (Y.nilCheckB rfl) rfl ?_
    refine J.quiet (Y.fieldB rfl rfl rfl rfl rfl) rfl ?_
    refine J.quiet (Y.loadBS rfl (Lent.fact 0 rfl) rfl rfl rfl) rfl ?_
    refine J.quiet (Y.move rfl) rfl ?_
    replace h := ck_some h; obtain ⟨hc4, h⟩ := h
    refine J.quiet (Y.indexS rfl rfl (Lent.fact 3 rfl) rfl rfl hc4) rfl ?_
    refine J.quiet (Y.loadS0 rfl (Lent.fact 3 rfl) rfl rfl rfl RI64c0 hc4) rfl ?_
    refine J.quiet (Y.assign rfl) rfl ?_
    refine J.done ?_
    refine J.thenN ?_
    refine J.seq ?_
    refine J.seq ?_
    refine J.midI (A := Bool) (B := Unit) (fun a6 => __labels_coverer__spread_k1 fuel p0 p1 p2 rc a6 = some r) (fun a6 b7 => [(0, Value.pointer (some ⟨bx0, 0, none⟩)), (1, Value.int .i64 (p1)), (2, Value.int .i64 (p2)), (7, Value.int .i64 (at' p0.2.1 p1)), (39, Value.bool (a6))]) (fun a6 b7 => [Ar EI64 v5 p0.2.2]) (fun a6 b7 => [Blk bx0 [v1, v2, v4, v5] 75, Sl RI64 v1 p0.1.1, S2 RI64I64p v2 z3 p0.1.2, Sl RI64 v4 p0.2.1]) ?_ ?_
    · refine J.region ?_
      refine J.quiet (Y.move rfl) rfl ?_
      refine J.quiet (Y.lss rfl rfl) rfl ?_
      refine J.quiet (Y.move rfl) rfl ?_
      refine J.guardD (by exact rfl) (by exact rfl) (fun hp37 => ?_) (fun hp37 => ?_)
      · replace h := ifP hp37 h
        refine J.guardY rfl (Y.move rfl) rfl ?_
        refine J.guardY rfl (Y.eql rfl rfl) rfl ?_
        refine J.quiet (Y.pickT rfl rfl) rfl ?_
        refine J.done ?_
        refine J.thenN ?_
        exact J.meetI (decide (p2 = (1 : Int))) (()) h (by repeat (first | exact SubF.nil | refine SubF.cons rfl ?_)) (SubM.refl _) (LentAll.refl _ _)
      · replace h := ifN hp37 h
        refine J.guardN rfl rfl rfl ?_
        refine J.guardN rfl rfl rfl ?_
        refine J.quiet (Y.pickF rfl rfl) rfl ?_
        refine J.done ?_
        refine J.thenN ?_
        exact J.meetI (false) (()) h (by repeat (first | exact SubF.nil | refine SubF.cons rfl ?_)) (SubM.refl _) (LentAll.refl _ _)
    · clear h
      intro a6 b7 h
      unfold __labels_coverer__spread_k1 at h
      refine J.cond (by exact rfl) (fun hp8 => ?_) (fun hp8 => ?_)
      · replace h := ifP hp8 h
        refine J.seq ?_
        refine J.region ?_
        refine J.quiet (Y.assign rfl) rfl ?_
        refine J.done ?_
        refine J.thenN ?_
        refine J.ret ?_
        refine J.thenR ?_
        obtain rfl := Option.some.inj h
        exact J.retG1 (()) rfl rfl (RV.tmp rfl) (SubM.refl _) LentAll.nil
      · replace h := ifBN hp8 h
        refine J.skip ?_
        refine J.thenN ?_
        refine J.seq ?_
        refine J.region ?_
        refine J.quiet (Y.move rfl) rfl ?_
        refine J.quiet (Y.nilCheckB rfl) rfl ?_
        refine J.quiet (Y.fieldB rfl rfl rfl rfl rfl) rfl ?_
        refine J.quiet (Y.loadBS rfl (Lent.fact 0 rfl) rfl rfl rfl) rfl ?_
        refine J.quiet (Y.move rfl) rfl ?_
        refine J.quiet (Y.move rfl) rfl ?_
        replace h := ck_some h; obtain ⟨hc9, h⟩ := h
        refine J.quiet (Y.indexS rfl rfl (Lent.ar (Lent.res 0 rfl) FI64) rfl rfl hc9) rfl ?_
        refine J.storeS 0 p2 hc9 rfl rfl rfl rfl rfl rfl rfl ?_
        refine J.done ?_
        refine J.thenN ?_
        refine J.seq ?_
        refine J.seq ?_
        refine J.midI (A := Bool × List (Int)) (B := Unit) (fun a12 => __labels_coverer__spread_k2 fuel p0 p1 p2 rc a12 = some r) (fun a12 b13 => [(0, Value.pointer (some ⟨bx0, 0, none⟩)), (1, Value.int .i64 (p1)), (2, Value.int .i64 (p2)), (56, Value.bool (a12.1))]) (fun a12 b13 => [Ar EI64 v5 a12.2]) (fun a12 b13 => [Blk bx0 [v1, v2, v4, v5] 75, Sl RI64 v1 p0.1.1, S2 RI64I64p v2 z3 p0.1.2, Sl RI64 v4 p0.2.1]) ?_ ?_
        · refine J.region ?_
          refine J.quiet (Y.move rfl) rfl ?_
          refine J.quiet (Y.geq rfl rfl) rfl ?_
          refine J.quiet (Y.move rfl) rfl ?_
          refine J.guardD (by exact rfl) (by exact rfl) (fun hp33 => ?_) (fun hp33 => ?_)
          · replace h := ifP hp33 h
            refine J.guardY rfl (Y.move rfl) rfl ?_
            refine J.guardY rfl (Y.move rfl) rfl ?_
            refine J.guardY rfl (Y.move rfl) rfl ?_
            refine J.guardY rfl (Y.subW rfl rfl) rfl ?_
            replace h := bnd h; obtain ⟨r34, hr35, h⟩ := h
            refine J.loudG rfl (Loud.callM (Min := [Ar EI64 v5 (List.set p0.2.2 (Int.toNat p1) p2)]) (Mr := []) body77 (hrc bx0 v1 v2 z3 v4 v5 r34 hr35) rfl (SubM.refl _) (LentAll.cons (Lent.fact 0 rfl) (LentAll.cons (Lent.fact 1 rfl) (LentAll.cons (Lent.fact 2 rfl) (LentAll.cons (Lent.fact 3 rfl) (LentAll.nil))))) (fun _ _ => rfl)) rfl fun x36 => ?_
            refine J.guardY rfl (Y.not rfl) rfl ?_
            refine J.quiet (Y.pickT rfl rfl) rfl ?_
            refine J.done ?_
            refine J.thenN ?_
            exact J.meetI (((!r34.1)), r34.2) (()) h (by repeat (first | exact SubF.nil | refine SubF.cons rfl ?_)) (SubM.refl _) (LentAll.refl _ _)
          · replace h := ifN hp33 h
            refine J.guardN rfl rfl rfl ?_
            refine J.guardN rfl rfl rfl ?_
            refine J.guardN rfl rfl rfl ?_
            refine J.guardN rfl rfl rfl ?_
            refine J.guardN rfl rfl rfl ?_
            refine J.guardN rfl rfl rfl ?_
            refine J.quiet (Y.pickF rfl rfl) rfl ?_
            refine J.done ?_
            refine J.thenN ?_
            exact J.meetI (false, (List.set p0.2.2 (Int.toNat p1) p2)) (()) h (by repeat (first | exact SubF.nil | refine SubF.cons rfl ?_)) (SubM.refl _) (LentAll.refl _ _)
        · clear h
          intro a12 b13 h
          unfold __labels_coverer__spread_k2 at h
          refine J.cond (by exact rfl) (fun hp14 => ?_) (fun hp14 => ?_)
          · replace h := ifP hp14 h
            refine J.seq ?_
            refine J.region ?_
            refine J.quiet (Y.assign rfl) rfl ?_
            refine J.done ?_
            refine J.thenN ?_
            refine J.ret ?_
            refine J.thenR ?_
            obtain rfl := Option.some.inj h
            exact J.retG1 (()) rfl rfl (RV.tmp rfl) (SubM.refl _) LentAll.nil
          · replace h := ifBN hp14 h
            refine J.skip ?_
            refine J.thenN ?_
            refine J.seq ?_
            refine J.seq ?_
            refine J.region ?_
            refine J.quiet (Y.move rfl) rfl ?_
            refine J.quiet (Y.eql rfl rfl) rfl ?_
            refine J.done ?_
            refine J.thenN ?_
            refine J.condD (by exact rfl) (fun hp15 => ?_) (fun hp15 => ?_)
            · replace h := ifP hp15 h
              refine J.seq ?_
              refine J.region ?_
              refine J.quiet (Y.assign rfl) rfl ?_
              refine J.done ?_
              refine J.thenN ?_
              refine J.ret ?_
              refine J.thenR ?_
              obtain rfl := Option.some.inj h
              exact J.retG1 (()) rfl rfl (RV.tmp rfl) (SubM.refl _) LentAll.nil
            · replace h := ifN hp15 h
              refine J.skip ?_
              refine J.thenN ?_
              refine J.seq ?_
              refine J.midI (A := List (Int)) (B := Unit) (fun a17 => __labels_coverer__spread_k3  a17 = some r) (fun a17 b18 => []) (fun a17 b18 => [Ar EI64 v5 a17]) (fun a17 b18 => [Blk bx0 [v1, v2, v4, v5] 75, Sl RI64 v1 p0.1.1, S2 RI64I64p v2 z3 p0.1.2, Sl RI64 v4 p0.2.1]) ?_ ?_
              · refine J.seq ?_
                refine J.region ?_
                refine J.quiet (Y.move rfl) rfl ?_
                refine J.quiet (Y.nilCheckB rfl) rfl ?_
                refine J.quiet (Y.fieldB rfl rfl rfl rfl rfl) rfl ?_
                refine J.quiet (Y.fieldB rfl rfl rfl rfl rfl) rfl ?_
                refine J.quiet (Y.loadBS rfl (Lent.fact 0 rfl) rfl rfl rfl) rfl ?_
                refine J.quiet (Y.move rfl) rfl ?_
                replace h := ck_some h; obtain ⟨hc19, h⟩ := h
                refine J.quiet (Y.indexN rfl rfl (Lent.fact 2 rfl) rfl rfl hc19) rfl ?_
                refine J.quiet (Y.loadRow rfl (Lent.fact 2 rfl) rfl rfl hc19) rfl ?_
                refine J.quiet (Y.lenS rfl (Lent.el (Lent.fact 2 rfl) hc19.1 hc19.2) rfl) rfl ?_
                refine J.quiet (Y.move rfl) rfl ?_
                refine J.done ?_
                refine J.thenN ?_
                refine J.block ?_
                refine J.loopI (A := Int × List (Int)) (B := Unit) (__labels_coverer__spread_s1 p0 p1 rc) (fun a23 b24 => [(0, Value.pointer (some ⟨bx0, 0, none⟩)), (66, (at' z3 p1).1), (67, Value.int .i64 (List.length (at' p0.1.2 p1) : Int)), (68, Value.int .i64 (a23.1))]) (fun a23 b24 => [Ar EI64 v5 a23.2]) (fun a23 b24 => [Blk bx0 [v1, v2, v4, v5] 75, Sl RI64 v1 p0.1.1, S2 RI64I64p v2 z3 p0.1.2, Sl RI64 v4 p0.2.1]) ((0 : Int), a12.2) (()) h (by repeat (first | exact SubF.nil | refine SubF.cons rfl ?_)) (SubM.refl _) (LentAll.refl _ _) ?_
                clear h
                intro k25 a23 b24 h
                unfold __labels_coverer__spread_s1 at h
                refine J.seq ?_
                refine J.region ?_
                refine J.quiet (Y.lss rfl rfl) rfl ?_
                refine J.done ?_
                refine J.thenN ?_
                refine J.seq ?_
                refine J.condD (by exact rfl) (fun hp26 => ?_) (fun hp26 => ?_)
                · replace h := ifP hp26 h
                  refine J.skip ?_
                  refine J.thenN ?_
                  refine J.seq ?_
                  refine J.block ?_
                  refine J.seq ?_
                  refine J.region ?_
                  replace h := ck_some h; obtain ⟨hc27, h⟩ := h
                  refine J.quiet (Y.indexS rfl rfl (Lent.el (Lent.fact 2 rfl) hc19.1 hc19.2) rfl rfl hc27) rfl ?_
                  refine J.quiet (Y.loadAggS (cs := [Value.int .i64 ((at' (at' p0.1.2 p1) a23.1).1), Value.int .i64 ((at' (at' p0.1.2 p1) a23.1).2)]) rfl (Lent.el (Lent.fact 2 rfl) hc19.1 hc19.2) FI64I64p rfl rfl rfl rfl hc27) rfl ?_
                  refine J.loud (Loud.alloc (cs := [Value.int .i64 (0 : Int), Value.int .i64 (0 : Int)]) rfl rfl) rfl fun b28 => ?_
                  refine J.storeAll 0 (vs := [Value.int .i64 ((at' (at' p0.1.2 p1) a23.1).1), Value.int .i64 ((at' (at' p0.1.2 p1) a23.1).2)]) rfl rfl rfl rfl rfl rfl ?_
                  refine J.done ?_
                  refine J.thenN ?_
                  refine J.seq ?_
                  refine J.region ?_
                  refine J.quiet (Y.move rfl) rfl ?_
                  refine J.quiet (Y.fieldB rfl rfl rfl rfl rfl) rfl ?_
                  refine J.quiet (Y.loadB 0 rfl rfl rfl rfl rfl) rfl ?_
                  replace h := bnd h; obtain ⟨r29, hr30, h⟩ := h
                  refine J.loud (Loud.callM (Min := [Ar EI64 v5 a23.2]) (Mr := [Blk b28 [Value.int .i64 ((at' (at' p0.1.2 p1) a23.1).1), Value.int .i64 ((at' (at' p0.1.2 p1) a23.1).2)] 40]) body77 (hrc bx0 v1 v2 z3 v4 v5 r29 hr30) rfl (SubM.cons 1 rfl (SubM.cons 0 rfl (SubM.nil))) (LentAll.cons (Lent.fact 0 rfl) (LentAll.cons (Lent.fact 1 rfl) (LentAll.cons (Lent.fact 2 rfl) (LentAll.cons (Lent.fact 3 rfl) (LentAll.nil))))) (fun _ _ => rfl)) rfl fun x31 => ?_
                  refine J.quiet (Y.not rfl) rfl ?_
                  refine J.done ?_
                  refine J.thenN ?_
                  refine J.cond (by exact rfl) (fun hp32 => ?_) (fun hp32 => ?_)
                  · replace h := ifP hp32 h
                    refine J.seq ?_
                    refine J.region ?_
                    refine J.quiet (Y.assign rfl) rfl ?_
                    refine J.done ?_
                    refine J.thenN ?_
                    refine J.ret ?_
                    refine J.inR ?_
                    refine J.thenR ?_
                    refine J.thenR ?_
                    refine J.inR ?_
                    refine J.thenR ?_
                    obtain rfl := Option.some.inj h
                    exact J.retG1 (()) rfl rfl (RV.tmp rfl) (SubM.cons 0 rfl (SubM.nil)) LentAll.nil
                  · replace h := ifBN hp32 h
                    refine J.skip ?_
                    refine J.inN ?_
                    refine J.thenN ?_
                    refine J.region ?_
                    refine J.quiet (Y.addW rfl rfl) rfl ?_
                    refine J.quiet (Y.move rfl) rfl ?_
                    refine J.done ?_
                    refine J.thenN ?_
                    exact J.againI ((wI .i64 (a23.1 + (1 : Int))), r29.2) (()) h (by repeat (first | exact SubF.nil | refine SubF.cons rfl ?_)) (SubM.cons 0 rfl (SubM.nil)) (LentAll.refl _ _)
                · replace h := ifN hp26 h
                  refine J.exit ?_
                  refine J.thenX ?_
                  refine J.thenX ?_
                  refine J.inX ?_
                  refine J.thenN ?_
                  exact J.meetI (a23.2) (()) h (by repeat (first | exact SubF.nil | refine SubF.cons rfl ?_)) (SubM.refl _) (LentAll.refl _ _)
              · clear h
                intro a17 b18 h
                unfold __labels_coverer__spread_k3 at h
                refine J.seq ?_
                refine J.region ?_
                refine J.quiet (Y.assign rfl) rfl ?_
                refine J.done ?_
                refine J.thenN ?_
                refine J.ret ?_
                obtain rfl := Option.some.inj h
                exact J.retG1 (()) rfl rfl (RV.tmp rfl) (SubM.refl _) LentAll.nil

theorem t___labels_coverer__spread (fuel : Nat) : ∀ {p0 : (List (Int) × (List (List (Int × Int)))) × List (Int) × List (Int)} {p1 : Int} {p2 : Int} (bx0 : Nat)  (v1 : Value)  (v2 : Value)  (z3 : List (Value × List (Int × Int)))  (v4 : Value)  (v5 : Value) (r : Bool × List (Int)), m___labels_coverer__spread fuel p0 p1 p2 = some r →
    MeetsM Try.prog 77 #[Value.pointer (some ⟨bx0, 0, none⟩), Value.int .i64 (p1), Value.int .i64 (p2)] [Ar EI64 v5 p0.2.2] [Blk bx0 [v1, v2, v4, v5] 75, Sl RI64 v1 p0.1.1, S2 RI64I64p v2 z3 p0.1.2, Sl RI64 v4 p0.2.1] (fun x : Unit => Value.bool (r.1)) (fun x l => Ar EI64 v5 r.2 :: l) := by
  induction fuel with
  | zero => intros; rename_i h; cases h
  | succ fuel ih => exact fun bx0 v1 v2 z3 v4 v5 r h => t___labels_coverer__spread_b (m___labels_coverer__spread fuel) fuel ih bx0 v1 v2 z3 v4 v5 r h

end Go.Proofs.Ytmajgimhmfeliaa
end
section
set_option linter.unusedVariables false
set_option linter.unusedSimpArgs false
namespace Go.Proofs.Ytmajgimhmfeliaa
open Go.Sx
set_option linter.unusedVariables false
set_option linter.unusedSimpArgs false
def m___labels_coverer__set (fuel : Nat) (p0 : (List (Int) × (List (List (Int × Int)))) × List (Int) × List (Int)) (p1 : Int) (p2 : Int) : Option (Bool × List (Int)) :=
  ck ((List.length ([] : List Int) : Int) + (List.length p0.2.2 : Int) ≤ 1099511627) (Option.bind (m___labels_coverer__spread fuel ((((p0.1.1, p0.1.2)), p0.2.1, p0.2.2)) p1 p2) fun r3 => (if r3.1 = true then (some (true, r3.2)) else (some (false, (([] : List Int) ++ p0.2.2)))))

theorem body57 : HasBody Try.prog 57 := Try.call57

set_option maxHeartbeats 4000000 in
set_option maxRecDepth 20000 in
theorem t___labels_coverer__set (fuel : Nat) {p0 : (List (Int) × (List (List (Int × Int)))) × List (Int) × List (Int)} {p1 : Int} {p2 : Int} (bx0 : Nat)  (v1 : Value)  (v2 : Value)  (z3 : List (Value × List (Int × Int)))  (v4 : Value)  (v5 : Value) (r : Bool × List (Int)) (h : m___labels_coverer__set fuel p0 p1 p2 = some r) :
    MeetsM Try.prog 57 #[Value.pointer (some ⟨bx0, 0, none⟩), Value.int .i64 (p1), Value.int .i64 (p2)] [Blk bx0 [v1, v2, v4, v5] 75, Ar EI64 v5 p0.2.2] [Sl RI64 v1 p0.1.1, S2 RI64I64p v2 z3 p0.1.2, Sl RI64 v4 p0.2.1] (fun x : Value => Value.bool (r.1)) (fun x l => Blk bx0 [v1, v2, v4, x] 75 :: Ar EI64 x r.2 :: l) := by
  refine MeetsM.of (vs := [Value.pointer (some ⟨bx0, 0, none⟩), Value.int .i64 (p1), Value.int .i64 (p2)]) Try.func57 rfl Try.ntmps57 rfl fun c => ?_
  unfold m___labels_coverer__set at h
  refine J.seq ?_
  refine J.region ?_
  refine J.quiet (Y.assign rfl) rfl ?_
  refine J.done ?_
  refine J.thenN ?_
  refine J.seq ?_
  refine J.region ?_
  refine J.quiet (Y.move rfl) rfl ?_
  refine J.quiet (Y.nilCheckB rfl) rfl ?_
  refine J.quiet (Y.fieldB rfl rfl rfl rfl rfl) rfl ?_
  refine J.quiet (Y.loadB 0 rfl rfl rfl rfl rfl) rfl ?_
  refine J.stp (Stp.nilAr EI64) ?_
  replace h := ck_some h; obtain ⟨hc2, h⟩ := h
  refine J.loud (Loud.appendL 0 FI64 rfl rfl rfl (Lent.ar (Lent.res 2 rfl) FI64) rfl rfl rfl rfl hc2 rfl) rfl fun u1 => ?_
  refine J.quiet (Y.assign rfl) rfl ?_
  refine J.done ?_
  refine J.thenN ?_
  refine J.seq ?_
  refine J.seq ?_
  refine J.region ?_
  refine J.quiet (Y.move rfl) rfl ?_
  refine J.quiet (Y.move rfl) rfl ?_
  refine J.quiet (Y.move rfl) rfl ?_
  replace h := bnd h; obtain ⟨r3, hr4, h⟩ := h
  refine J.loud (Loud.callM (Min := [Ar EI64 v5 p0.2.2]) (Mr := [Ar EI64 u1 (([] : List Int) ++ p0.2.2), Blk bx0 [v1, v2, v4, v5] 75]) body77 (t___labels_coverer__spread fuel bx0 v1 v2 z3 v4 v5 r3 hr4) rfl (SubM.cons 2 rfl (SubM.cons 0 rfl (SubM.cons 0 rfl (SubM.nil)))) (LentAll.cons (Lent.res 1 rfl) (LentAll.cons (Lent.fact 0 rfl) (LentAll.cons (Lent.fact 1 rfl) (LentAll.cons (Lent.fact 2 rfl) (LentAll.nil))))) (fun _ _ => rfl)) rfl fun x5 => ?_
  refine J.done ?_
  refine J.thenN ?_
  refine J.cond (by exact rfl) (fun hp6 => ?_) (fun hp6 => ?_)
  · replace h := ifP hp6 h
    refine J.seq ?_
    refine J.region ?_
    refine J.quiet (Y.assign rfl) rfl ?_
    refine J.done ?_
    refine J.thenN ?_
    refine J.ret ?_
    refine J.thenR ?_
    obtain rfl := Option.some.inj h
    exact J.retG1 (v5) rfl rfl (RV.tmp rfl) (SubM.cons 2 rfl (SubM.cons 0 rfl (SubM.nil))) LentAll.nil
  · replace h := ifBN hp6 h
    refine J.skip ?_
    refine J.thenN ?_
    refine J.seq ?_
    refine J.region ?_
    refine J.quiet (Y.move rfl) rfl ?_
    refine J.quiet (Y.move rfl) rfl ?_
    refine J.quiet (Y.nilCheckB rfl) rfl ?_
    refine J.quiet (Y.fieldB rfl rfl rfl rfl rfl) rfl ?_
    refine J.know (Know.one ((Lent.ar (Lent.res 1 rfl) FI64))) fun ho7 => ?_
    refine J.store1 2 rfl rfl ho7 rfl rfl rfl ?_
    refine J.done ?_
    refine J.thenN ?_
    refine J.seq ?_
    refine J.region ?_
    refine J.quiet (Y.assign rfl) rfl ?_
    refine J.done ?_
    refine J.thenN ?_
    refine J.ret ?_
    obtain rfl := Option.some.inj h
    exact J.retG1 (u1) rfl rfl (RV.tmp rfl) (SubM.cons 2 rfl (SubM.cons 1 rfl (SubM.nil))) LentAll.nil

end Go.Proofs.Ytmajgimhmfeliaa
end
