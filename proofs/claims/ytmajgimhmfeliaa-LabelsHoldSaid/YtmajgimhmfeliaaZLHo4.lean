/- Models of functions with their proofs, by program (gen/xt.py), and plain laws, in one text. Conditions: none. -/
import Derived.Test.YtmajgimhmfeliaaZLHo2
import Derived.Test.YtmajgimhmfeliaaZLHo3
import Derived.Test.YtmajgimhmfeliaaZLHo1
section
set_option linter.unusedVariables false
set_option linter.unusedSimpArgs false
namespace Go.Proofs.Ytmajgimhmfeliaa
open Go.Sx
set_option linter.unusedVariables false
set_option linter.unusedSimpArgs false
def ref39_hops_k1  (a2 : Unit) : Option (Int) :=
  some (-1 : Int)
def ref39_hops_s1 (fuel : Nat) (p0 : List (Int) × (List (List (Int × Int)))) (p1 : List (Int)) (a7 : Int × Int) (ag6 : (Int × Int) → Option (Int)) : Option (Int) :=
  if a7.2 ≤ (List.length p1 : Int) then (ck (0 ≤ a7.1 ∧ a7.1 < (List.length p1 : Int)) (if (at' p1 a7.1) < (0 : Int) then (some (a7.2)) else (Option.bind (m_ref39_partner fuel ((p0.1, p0.2)) p1 a7.1) fun r13 => (ag6 (r13, (wI .i64 (a7.2 + (1 : Int)))))))) else (ref39_hops_k1  (()))
def m_ref39_hops (fuel : Nat) (p0 : List (Int) × (List (List (Int × Int)))) (p1 : List (Int)) (p2 : Int) : Option (Int) :=
  iter (ref39_hops_s1 fuel p0 p1) fuel (p2, (0 : Int))

theorem body39 : HasBody Try.prog 39 := Try.call39

set_option maxHeartbeats 4000000 in
set_option maxRecDepth 20000 in
theorem t_ref39_hops (fuel : Nat) {p0 : List (Int) × (List (List (Int × Int)))} {p1 : List (Int)} {p2 : Int} (v0 : Value)  (v1 : Value)  (z2 : List (Value × List (Int × Int)))  (v3 : Value) (r : Int) (h : m_ref39_hops fuel p0 p1 p2 = some r) :
    Meets Try.prog 39 #[Value.agg #[v0, v1], v3, Value.int .i64 (p2)] [Sl RI64 v0 p0.1, S2 RI64I64p v1 z2 p0.2, Sl RI64 v3 p1] (fun x : Unit => Value.int .i64 (r)) (fun x l => l) (fun _ l => l) := by
  refine Meets.of (vs := [Value.agg #[v0, v1], v3, Value.int .i64 (p2)]) Try.func39 rfl Try.ntmps39 rfl fun c => ?_
  unfold m_ref39_hops at h
  refine J.seq ?_
  refine J.region ?_
  refine J.loud (Loud.box (cs := [v0, v1]) rfl rfl) rfl fun b1 => ?_
  refine J.quiet (Y.assign rfl) rfl ?_
  refine J.done ?_
  refine J.thenN ?_
  refine J.seq ?_
  refine J.midI (A := Unit) (B := Unit) (fun a2 => ref39_hops_k1  a2 = some r) (fun a2 b3 => []) (fun a2 b3 => []) (fun a2 b3 => [Sl RI64 v0 p0.1, S2 RI64I64p v1 z2 p0.2, Sl RI64 v3 p1]) ?_ ?_
  · refine J.seq ?_
    refine J.region ?_
    refine J.quiet (Y.assign rfl) rfl ?_
    refine J.done ?_
    refine J.thenN ?_
    refine J.block ?_
    refine J.loopI (A := Int × Int) (B := Unit) (ref39_hops_s1 fuel p0 p1) (fun a7 b8 => [(1, v3), (2, Value.int .i64 (a7.1)), (3, Value.pointer (some ⟨b1, 0, none⟩)), (7, Value.int .i64 (a7.2))]) (fun a7 b8 => [Blk b1 [v0, v1] 29]) (fun a7 b8 => [Sl RI64 v0 p0.1, S2 RI64I64p v1 z2 p0.2, Sl RI64 v3 p1]) (p2, (0 : Int)) (()) h (by repeat (first | exact SubF.nil | refine SubF.cons rfl ?_)) (SubM.refl _) (LentAll.refl _ _) ?_
    clear h
    intro k9 a7 b8 h
    unfold ref39_hops_s1 at h
    refine J.seq ?_
    refine J.seq ?_
    refine J.region ?_
    refine J.quiet (Y.move rfl) rfl ?_
    refine J.quiet (Y.move rfl) rfl ?_
    refine J.quiet (Y.lenS rfl (Lent.fact 2 rfl) rfl) rfl ?_
    refine J.quiet (Y.leq rfl rfl) rfl ?_
    refine J.done ?_
    refine J.thenN ?_
    refine J.condD (by exact rfl) (fun hp10 => ?_) (fun hp10 => ?_)
    · replace h := ifP hp10 h
      refine J.skip ?_
      refine J.thenN ?_
      refine J.seq ?_
      refine J.block ?_
      refine J.seq ?_
      refine J.seq ?_
      refine J.region ?_
      refine J.quiet (Y.move rfl) rfl ?_
      refine J.quiet (Y.move rfl) rfl ?_
      replace h := ck_some h; obtain ⟨hc11, h⟩ := h
      refine J.quiet (Y.indexS rfl rfl (Lent.fact 2 rfl) rfl rfl hc11) rfl ?_
      refine J.quiet (Y.loadS0 rfl (Lent.fact 2 rfl) rfl rfl rfl RI64c0 hc11) rfl ?_
      refine J.quiet (Y.lss rfl rfl) rfl ?_
      refine J.done ?_
      refine J.thenN ?_
      refine J.condD (by exact rfl) (fun hp12 => ?_) (fun hp12 => ?_)
      · replace h := ifP hp12 h
        refine J.seq ?_
        refine J.region ?_
        refine J.quiet (Y.move rfl) rfl ?_
        refine J.quiet (Y.assign rfl) rfl ?_
        refine J.done ?_
        refine J.thenN ?_
        refine J.ret ?_
        refine J.thenR ?_
        refine J.inR ?_
        refine J.thenR ?_
        refine J.thenR ?_
        refine J.inR ?_
        refine J.thenR ?_
        obtain rfl := Option.some.inj h
        exact J.retG1 (()) rfl rfl (RV.tmp rfl) (SubM.nil) LentAll.nil
      · replace h := ifN hp12 h
        refine J.skip ?_
        refine J.thenN ?_
        refine J.region ?_
        refine J.quiet (Y.loadBAll 0 rfl rfl rfl rfl) rfl ?_
        refine J.quiet (Y.move rfl) rfl ?_
        refine J.quiet (Y.move rfl) rfl ?_
        replace h := bnd h; obtain ⟨r13, hr14, h⟩ := h
        refine J.loud (Loud.callL body59 (t_ref39_partner fuel v0 v1 z2 v3 r13 hr14) rfl (LentAll.cons (Lent.fact 0 rfl) (LentAll.cons (Lent.fact 1 rfl) (LentAll.cons (Lent.fact 2 rfl) (LentAll.nil)))) (fun _ _ => rfl)) rfl fun x15 => ?_
        refine J.quiet (Y.assign rfl) rfl ?_
        refine J.done ?_
        refine J.inN ?_
        refine J.thenN ?_
        refine J.region ?_
        refine J.quiet (Y.move rfl) rfl ?_
        refine J.quiet (Y.addW rfl rfl) rfl ?_
        refine J.quiet (Y.assign rfl) rfl ?_
        refine J.done ?_
        refine J.thenN ?_
        exact J.againI (r13, (wI .i64 (a7.2 + (1 : Int)))) (()) h (by repeat (first | exact SubF.nil | refine SubF.cons rfl ?_)) (SubM.refl _) (LentAll.refl _ _)
    · replace h := ifN hp10 h
      refine J.exit ?_
      refine J.thenX ?_
      refine J.thenX ?_
      refine J.inX ?_
      refine J.thenN ?_
      exact J.meetI (()) (()) h (by repeat (first | exact SubF.nil | refine SubF.cons rfl ?_)) (SubM.nil) (LentAll.refl _ _)
  · clear h
    intro a2 b3 h
    unfold ref39_hops_k1 at h
    refine J.seq ?_
    refine J.region ?_
    refine J.quiet (Y.assign rfl) rfl ?_
    refine J.done ?_
    refine J.thenN ?_
    refine J.ret ?_
    obtain rfl := Option.some.inj h
    exact J.retG1 (()) rfl rfl (RV.tmp rfl) (SubM.refl _) LentAll.nil

end Go.Proofs.Ytmajgimhmfeliaa
end
section
set_option linter.unusedVariables false
set_option linter.unusedSimpArgs false
namespace Go.Proofs.Ytmajgimhmfeliaa
open Go.Sx
set_option linter.unusedVariables false
set_option linter.unusedSimpArgs false
def ref39_fits_k1  (a3 : Unit) : Option (Bool) :=
  some (true)
def ref39_fits_s1 (fuel : Nat) (p0 : Int) (p1 : List (Int) × (List (List (Int × Int)))) (p2 : List (Int)) (a7 : Int) (ag6 : (Int) → Option (Bool)) : Option (Bool) :=
  if a7 < (List.length p2 : Int) then (ck (0 ≤ a7 ∧ a7 < (List.length p2 : Int)) (Option.bind (m_ref39_Fits fuel p0 ((p1.1, p1.2)) a7 (at' p2 a7)) fun r12 => (if (!r12) = true then (some (false)) else (ag6 (wI .i64 (a7 + (1 : Int))))))) else (ref39_fits_k1  (()))
def m_ref39_fits (fuel : Nat) (p0 : Int) (p1 : List (Int) × (List (List (Int × Int)))) (p2 : List (Int)) : Option (Bool) :=
  if (List.length p2 : Int) ≠ (List.length p1.2 : Int) then (some (false)) else (iter (ref39_fits_s1 fuel p0 p1 p2) fuel (0 : Int))

theorem body42 : HasBody Try.prog 42 := Try.call42

set_option maxHeartbeats 4000000 in
set_option maxRecDepth 20000 in
theorem t_ref39_fits (fuel : Nat) {p0 : Int} {p1 : List (Int) × (List (List (Int × Int)))} {p2 : List (Int)} (v0 : Value)  (v1 : Value)  (z2 : List (Value × List (Int × Int)))  (v3 : Value) (r : Bool) (h : m_ref39_fits fuel p0 p1 p2 = some r) :
    Meets Try.prog 42 #[Value.int .i64 (p0), Value.agg #[v0, v1], v3] [Sl RI64 v0 p1.1, S2 RI64I64p v1 z2 p1.2, Sl RI64 v3 p2] (fun x : Unit => Value.bool (r)) (fun x l => l) (fun _ l => l) := by
  refine Meets.of (vs := [Value.int .i64 (p0), Value.agg #[v0, v1], v3]) Try.func42 rfl Try.ntmps42 rfl fun c => ?_
  unfold m_ref39_fits at h
  refine J.seq ?_
  refine J.region ?_
  refine J.loud (Loud.box (cs := [v0, v1]) rfl rfl) rfl fun b1 => ?_
  refine J.quiet (Y.assign rfl) rfl ?_
  refine J.done ?_
  refine J.thenN ?_
  refine J.seq ?_
  refine J.seq ?_
  refine J.region ?_
  refine J.quiet (Y.move rfl) rfl ?_
  refine J.quiet (Y.lenS rfl (Lent.fact 2 rfl) rfl) rfl ?_
  refine J.quiet (Y.fieldB rfl rfl rfl rfl rfl) rfl ?_
  refine J.quiet (Y.loadB 0 rfl rfl rfl rfl rfl) rfl ?_
  refine J.quiet (Y.lenN rfl (Lent.fact 1 rfl) rfl) rfl ?_
  refine J.quiet (Y.neq rfl rfl) rfl ?_
  refine J.done ?_
  refine J.thenN ?_
  refine J.condD (by exact rfl) (fun hp2 => ?_) (fun hp2 => ?_)
  · replace h := ifP hp2 h
    refine J.seq ?_
    refine J.region ?_
    refine J.quiet (Y.assign rfl) rfl ?_
    refine J.done ?_
    refine J.thenN ?_
    refine J.ret ?_
    refine J.thenR ?_
    obtain rfl := Option.some.inj h
    exact J.retG1 (()) rfl rfl (RV.tmp rfl) (SubM.nil) LentAll.nil
  · replace h := ifN hp2 h
    refine J.skip ?_
    refine J.thenN ?_
    refine J.seq ?_
    refine J.midI (A := Unit) (B := Unit) (fun a3 => ref39_fits_k1  a3 = some r) (fun a3 b4 => []) (fun a3 b4 => []) (fun a3 b4 => [Sl RI64 v0 p1.1, S2 RI64I64p v1 z2 p1.2, Sl RI64 v3 p2]) ?_ ?_
    · refine J.seq ?_
      refine J.region ?_
      refine J.quiet (Y.assign rfl) rfl ?_
      refine J.done ?_
      refine J.thenN ?_
      refine J.block ?_
      refine J.loopI (A := Int) (B := Unit) (ref39_fits_s1 fuel p0 p1 p2) (fun a7 b8 => [(0, Value.int .i64 (p0)), (2, v3), (4, Value.pointer (some ⟨b1, 0, none⟩)), (7, Value.int .i64 (a7))]) (fun a7 b8 => [Blk b1 [v0, v1] 29]) (fun a7 b8 => [Sl RI64 v0 p1.1, S2 RI64I64p v1 z2 p1.2, Sl RI64 v3 p2]) (0 : Int) (()) h (by repeat (first | exact SubF.nil | refine SubF.cons rfl ?_)) (SubM.refl _) (LentAll.refl _ _) ?_
      clear h
      intro k9 a7 b8 h
      unfold ref39_fits_s1 at h
      refine J.seq ?_
      refine J.seq ?_
      refine J.region ?_
      refine J.quiet (Y.move rfl) rfl ?_
      refine J.quiet (Y.move rfl) rfl ?_
      refine J.quiet (Y.lenS rfl (Lent.fact 2 rfl) rfl) rfl ?_
      refine J.quiet (Y.lss rfl rfl) rfl ?_
      refine J.done ?_
      refine J.thenN ?_
      refine J.condD (by exact rfl) (fun hp10 => ?_) (fun hp10 => ?_)
      · replace h := ifP hp10 h
        refine J.skip ?_
        refine J.thenN ?_
        refine J.seq ?_
        refine J.block ?_
        refine J.seq ?_
        refine JR.start [0, 0, 0, 0, 0, 24, 56, 127, 255] 7 mixedOrders (by decide +kernel) ?_
        refine JR.open (by exact rfl) ?_
        refine JR.qt rfl (SubM.nil) (SubL.nil) (Y.move rfl) HistOk.z ?_
        refine JR.qt rfl (SubM.refl _) (SubL.nil) (Y.loadBAll 0 rfl rfl rfl rfl) HistOk.z ?_
        refine JR.qt rfl (SubM.nil) (SubL.nil) (Y.move rfl) HistOk.z ?_
        refine JR.qt rfl (SubM.nil) (SubL.nil) (Y.move rfl) HistOk.z ?_
        refine JR.qt rfl (SubM.nil) (SubL.nil) (Y.move rfl) HistOk.z ?_
        replace h := ck_some h; obtain ⟨hc11, h⟩ := h
        refine JR.qt rfl (SubM.nil) (SubL.cons (List.mem_of_getElem? (i := 2) rfl) (SubL.nil)) (Y.indexS rfl rfl (Lent.fact 0 rfl) rfl rfl hc11) HistOk.z ?_
        refine JR.qt rfl (SubM.nil) (SubL.cons (List.mem_of_getElem? (i := 2) rfl) (SubL.nil)) (Y.loadS0 rfl (Lent.fact 0 rfl) rfl rfl rfl RI64c0 hc11) HistOk.z ?_
        refine JR.tailD 7 rfl rfl ?_
        replace h := bnd h; obtain ⟨r12, hr13, h⟩ := h
        refine J.loud (Loud.callL body49 (t_ref39_Fits fuel v0 v1 z2 r12 hr13) rfl (LentAll.cons (Lent.fact 0 rfl) (LentAll.cons (Lent.fact 1 rfl) (LentAll.nil))) (fun _ _ => rfl)) rfl fun x14 => ?_
        refine J.quiet (Y.not rfl) rfl ?_
        refine J.done ?_
        refine J.thenN ?_
        refine J.cond (by exact rfl) (fun hp15 => ?_) (fun hp15 => ?_)
        · replace h := ifP hp15 h
          refine J.seq ?_
          refine J.region ?_
          refine J.quiet (Y.assign rfl) rfl ?_
          refine J.done ?_
          refine J.thenN ?_
          refine J.ret ?_
          refine J.inR ?_
          refine J.thenR ?_
          refine J.thenR ?_
          refine J.inR ?_
          refine J.thenR ?_
          obtain rfl := Option.some.inj h
          exact J.retG1 (()) rfl rfl (RV.tmp rfl) (SubM.nil) LentAll.nil
        · replace h := ifBN hp15 h
          refine J.skip ?_
          refine J.inN ?_
          refine J.thenN ?_
          refine J.region ?_
          refine J.quiet (Y.move rfl) rfl ?_
          refine J.quiet (Y.addW rfl rfl) rfl ?_
          refine J.quiet (Y.assign rfl) rfl ?_
          refine J.done ?_
          refine J.thenN ?_
          exact J.againI (wI .i64 (a7 + (1 : Int))) (()) h (by repeat (first | exact SubF.nil | refine SubF.cons rfl ?_)) (SubM.refl _) (LentAll.refl _ _)
      · replace h := ifN hp10 h
        refine J.exit ?_
        refine J.thenX ?_
        refine J.thenX ?_
        refine J.inX ?_
        refine J.thenN ?_
        exact J.meetI (()) (()) h (by repeat (first | exact SubF.nil | refine SubF.cons rfl ?_)) (SubM.nil) (LentAll.refl _ _)
    · clear h
      intro a3 b4 h
      unfold ref39_fits_k1 at h
      refine J.seq ?_
      refine J.region ?_
      refine J.quiet (Y.assign rfl) rfl ?_
      refine J.done ?_
      refine J.thenN ?_
      refine J.ret ?_
      obtain rfl := Option.some.inj h
      exact J.retG1 (()) rfl rfl (RV.tmp rfl) (SubM.refl _) LentAll.nil

end Go.Proofs.Ytmajgimhmfeliaa
end
section
set_option linter.unusedVariables false
set_option linter.unusedSimpArgs false
namespace Go.Proofs.Ytmajgimhmfeliaa
open Go.Sx
set_option linter.unusedVariables false
set_option linter.unusedSimpArgs false
def ref39_paired_k1  (a2 : Unit) : Option (Bool) :=
  some (true)
def ref39_paired_k2 (a6 : Int) (ag5 : (Int) → Option (Bool)) (a14 : Bool) : Option (Bool) :=
  if a14 = true then (some (false)) else (ag5 (wI .i64 (a6 + (1 : Int))))
def ref39_paired_s1 (fuel : Nat) (p0 : List (Int) × (List (List (Int × Int)))) (p1 : List (Int)) (a6 : Int) (ag5 : (Int) → Option (Bool)) : Option (Bool) :=
  if a6 < (List.length p1 : Int) then (Option.bind (m_ref39_partner fuel ((p0.1, p0.2)) p1 a6) fun r10 => (if (0 : Int) ≤ r10 then (Option.bind (m_ref39_partner fuel ((p0.1, p0.2)) p1 r10) fun r18 => (ref39_paired_k2 a6 ag5 (decide (r18 ≠ a6)))) else (ref39_paired_k2 a6 ag5 (false)))) else (ref39_paired_k1  (()))
def m_ref39_paired (fuel : Nat) (p0 : List (Int) × (List (List (Int × Int)))) (p1 : List (Int)) : Option (Bool) :=
  iter (ref39_paired_s1 fuel p0 p1) fuel (0 : Int)

theorem body43 : HasBody Try.prog 43 := Try.call43

set_option maxHeartbeats 4000000 in
set_option maxRecDepth 20000 in
theorem t_ref39_paired (fuel : Nat) {p0 : List (Int) × (List (List (Int × Int)))} {p1 : List (Int)} (v0 : Value)  (v1 : Value)  (z2 : List (Value × List (Int × Int)))  (v3 : Value) (r : Bool) (h : m_ref39_paired fuel p0 p1 = some r) :
    Meets Try.prog 43 #[Value.agg #[v0, v1], v3] [Sl RI64 v0 p0.1, S2 RI64I64p v1 z2 p0.2, Sl RI64 v3 p1] (fun x : Unit => Value.bool (r)) (fun x l => l) (fun _ l => l) := by
  refine Meets.of (vs := [Value.agg #[v0, v1], v3]) Try.func43 rfl Try.ntmps43 rfl fun c => ?_
  unfold m_ref39_paired at h
  refine J.seq ?_
  refine J.region ?_
  refine J.loud (Loud.box (cs := [v0, v1]) rfl rfl) rfl fun b1 => ?_
  refine J.quiet (Y.assign rfl) rfl ?_
  refine J.done ?_
  refine J.thenN ?_
  refine J.seq ?_
  refine J.midI (A := Unit) (B := Unit) (fun a2 => ref39_paired_k1  a2 = some r) (fun a2 b3 => []) (fun a2 b3 => []) (fun a2 b3 => [Sl RI64 v0 p0.1, S2 RI64I64p v1 z2 p0.2, Sl RI64 v3 p1]) ?_ ?_
  · refine J.seq ?_
    refine J.region ?_
    refine J.quiet (Y.assign rfl) rfl ?_
    refine J.done ?_
    refine J.thenN ?_
    refine J.block ?_
    refine J.loopI (A := Int) (B := Unit) (ref39_paired_s1 fuel p0 p1) (fun a6 b7 => [(1, v3), (2, Value.pointer (some ⟨b1, 0, none⟩)), (5, Value.int .i64 (a6))]) (fun a6 b7 => [Blk b1 [v0, v1] 29]) (fun a6 b7 => [Sl RI64 v0 p0.1, S2 RI64I64p v1 z2 p0.2, Sl RI64 v3 p1]) (0 : Int) (()) h (by repeat (first | exact SubF.nil | refine SubF.cons rfl ?_)) (SubM.refl _) (LentAll.refl _ _) ?_
    clear h
    intro k8 a6 b7 h
    unfold ref39_paired_s1 at h
    refine J.seq ?_
    refine J.seq ?_
    refine J.region ?_
    refine J.quiet (Y.move rfl) rfl ?_
    refine J.quiet (Y.move rfl) rfl ?_
    refine J.quiet (Y.lenS rfl (Lent.fact 2 rfl) rfl) rfl ?_
    refine J.quiet (Y.lss rfl rfl) rfl ?_
    refine J.done ?_
    refine J.thenN ?_
    refine J.condD (by exact rfl) (fun hp9 => ?_) (fun hp9 => ?_)
    · replace h := ifP hp9 h
      refine J.skip ?_
      refine J.thenN ?_
      refine J.seq ?_
      refine J.block ?_
      refine J.seq ?_
      refine J.region ?_
      refine J.quiet (Y.loadBAll 0 rfl rfl rfl rfl) rfl ?_
      refine J.quiet (Y.move rfl) rfl ?_
      refine J.quiet (Y.move rfl) rfl ?_
      replace h := bnd h; obtain ⟨r10, hr11, h⟩ := h
      refine J.loud (Loud.callL body59 (t_ref39_partner fuel v0 v1 z2 v3 r10 hr11) rfl (LentAll.cons (Lent.fact 0 rfl) (LentAll.cons (Lent.fact 1 rfl) (LentAll.cons (Lent.fact 2 rfl) (LentAll.nil)))) (fun _ _ => rfl)) rfl fun x12 => ?_
      refine J.quiet (Y.assign rfl) rfl ?_
      refine J.done ?_
      refine J.thenN ?_
      refine J.seq ?_
      refine J.midI (A := Bool) (B := Unit) (fun a14 => ref39_paired_k2 a6 (iter (ref39_paired_s1 fuel p0 p1) k8) a14 = some r) (fun a14 b15 => [(1, v3), (2, Value.pointer (some ⟨b1, 0, none⟩)), (5, Value.int .i64 (a6)), (26, Value.bool (a14))]) (fun a14 b15 => [Blk b1 [v0, v1] 29]) (fun a14 b15 => [Sl RI64 v0 p0.1, S2 RI64I64p v1 z2 p0.2, Sl RI64 v3 p1]) ?_ ?_
      · refine J.region ?_
        refine J.quiet (Y.move rfl) rfl ?_
        refine J.quiet (Y.geq rfl rfl) rfl ?_
        refine J.quiet (Y.move rfl) rfl ?_
        refine J.guardD (by exact rfl) (by exact rfl) (fun hp17 => ?_) (fun hp17 => ?_)
        · replace h := ifP hp17 h
          refine J.guardY rfl (Y.loadBAll 0 rfl rfl rfl rfl) rfl ?_
          refine J.guardY rfl (Y.move rfl) rfl ?_
          refine J.guardY rfl (Y.move rfl) rfl ?_
          replace h := bnd h; obtain ⟨r18, hr19, h⟩ := h
          refine J.loudG rfl (Loud.callL body59 (t_ref39_partner fuel v0 v1 z2 v3 r18 hr19) rfl (LentAll.cons (Lent.fact 0 rfl) (LentAll.cons (Lent.fact 1 rfl) (LentAll.cons (Lent.fact 2 rfl) (LentAll.nil)))) (fun _ _ => rfl)) rfl fun x20 => ?_
          refine J.guardY rfl (Y.move rfl) rfl ?_
          refine J.guardY rfl (Y.neq rfl rfl) rfl ?_
          refine J.quiet (Y.pickT rfl rfl) rfl ?_
          refine J.done ?_
          refine J.thenN ?_
          exact J.meetI (decide (r18 ≠ a6)) (()) h (by repeat (first | exact SubF.nil | refine SubF.cons rfl ?_)) (SubM.refl _) (LentAll.refl _ _)
        · replace h := ifN hp17 h
          refine J.guardN rfl rfl rfl ?_
          refine J.guardN rfl rfl rfl ?_
          refine J.guardN rfl rfl rfl ?_
          refine J.guardN rfl rfl rfl ?_
          refine J.guardN rfl rfl rfl ?_
          refine J.guardN rfl rfl rfl ?_
          refine J.quiet (Y.pickF rfl rfl) rfl ?_
          refine J.done ?_
          refine J.thenN ?_
          exact J.meetI (false) (()) h (by repeat (first | exact SubF.nil | refine SubF.cons rfl ?_)) (SubM.refl _) (LentAll.refl _ _)
      · clear h
        intro a14 b15 h
        unfold ref39_paired_k2 at h
        refine J.cond (by exact rfl) (fun hp16 => ?_) (fun hp16 => ?_)
        · replace h := ifP hp16 h
          refine J.seq ?_
          refine J.region ?_
          refine J.quiet (Y.assign rfl) rfl ?_
          refine J.done ?_
          refine J.thenN ?_
          refine J.ret ?_
          refine J.inR ?_
          refine J.thenR ?_
          refine J.thenR ?_
          refine J.inR ?_
          refine J.thenR ?_
          obtain rfl := Option.some.inj h
          exact J.retG1 (()) rfl rfl (RV.tmp rfl) (SubM.nil) LentAll.nil
        · replace h := ifBN hp16 h
          refine J.skip ?_
          refine J.inN ?_
          refine J.thenN ?_
          refine J.region ?_
          refine J.quiet (Y.move rfl) rfl ?_
          refine J.quiet (Y.addW rfl rfl) rfl ?_
          refine J.quiet (Y.assign rfl) rfl ?_
          refine J.done ?_
          refine J.thenN ?_
          exact J.againI (wI .i64 (a6 + (1 : Int))) (()) h (by repeat (first | exact SubF.nil | refine SubF.cons rfl ?_)) (SubM.refl _) (LentAll.refl _ _)
    · replace h := ifN hp9 h
      refine J.exit ?_
      refine J.thenX ?_
      refine J.thenX ?_
      refine J.inX ?_
      refine J.thenN ?_
      exact J.meetI (()) (()) h (by repeat (first | exact SubF.nil | refine SubF.cons rfl ?_)) (SubM.nil) (LentAll.refl _ _)
  · clear h
    intro a2 b3 h
    unfold ref39_paired_k1 at h
    refine J.seq ?_
    refine J.region ?_
    refine J.quiet (Y.assign rfl) rfl ?_
    refine J.done ?_
    refine J.thenN ?_
    refine J.ret ?_
    obtain rfl := Option.some.inj h
    exact J.retG1 (()) rfl rfl (RV.tmp rfl) (SubM.refl _) LentAll.nil

end Go.Proofs.Ytmajgimhmfeliaa
end
section
set_option linter.unusedVariables false
set_option linter.unusedSimpArgs false
namespace Go.Proofs.Ytmajgimhmfeliaa
open Go.Sx
set_option linter.unusedVariables false
set_option linter.unusedSimpArgs false
def ref39_Holds_k2 (fuel : Nat) (p2 : List (Int)) (a7 : Unit) : Option (Bool) :=
  Option.bind (m_ref39_only fuel p2 (-1 : Int)) fun r9 => (some (decide ((0 : Int) ≤ r9)))
def ref39_Holds_s1 (fuel : Nat) (p1 : List (Int) × (List (List (Int × Int)))) (p2 : List (Int)) (a14 : Int) (ag13 : (Int) → Option (Bool)) : Option (Bool) :=
  if a14 < (List.length p2 : Int) then (Option.bind (m_ref39_hops fuel ((p1.1, p1.2)) p2 a14) fun r18 => (if r18 < (0 : Int) then (some (false)) else (ag13 (wI .i64 (a14 + (1 : Int)))))) else (ref39_Holds_k2 fuel p2 (()))
def ref39_Holds_k3  (a30 : Unit) : Option (Bool) :=
  some (true)
def ref39_Holds_k4 (a34 : Int) (ag33 : (Int) → Option (Bool)) (a38 : Unit) : Option (Bool) :=
  ag33 (wI .i64 (a34 + (1 : Int)))
def ref39_Holds_s3 (p1 : List (Int) × (List (List (Int × Int)))) (r27 : List (Int)) (a34 : Int) (ag33 : (Int) → Option (Bool)) (a42 : Int) (ag41 : (Int) → Option (Bool)) : Option (Bool) :=
  ck (0 ≤ a34 ∧ a34 < (List.length p1.2 : Int)) (if a42 < (List.length (at' p1.2 a34) : Int) then (ck (0 ≤ a34 ∧ a34 < (List.length r27 : Int)) (ck (0 ≤ a34 ∧ a34 < (List.length p1.2 : Int)) (ck (0 ≤ a42 ∧ a42 < (List.length (at' p1.2 a34) : Int)) (ck (0 ≤ ((at' (at' p1.2 a34) a42).1) ∧ ((at' (at' p1.2 a34) a42).1) < (List.length r27 : Int)) (ck ((2 : Int) ≠ 0) (if (Int.tmod (wI .i64 ((at' r27 a34) + (at' r27 ((at' (at' p1.2 a34) a42).1)))) (2 : Int)) = (0 : Int) then (some (false)) else (ag41 (wI .i64 (a42 + (1 : Int)))))))))) else (ref39_Holds_k4 a34 ag33 (())))
def ref39_Holds_s2 (fuel : Nat) (p1 : List (Int) × (List (List (Int × Int)))) (r27 : List (Int)) (a34 : Int) (ag33 : (Int) → Option (Bool)) : Option (Bool) :=
  if a34 < (List.length r27 : Int) then (iter (ref39_Holds_s3 p1 r27 a34 ag33) fuel (0 : Int)) else (ref39_Holds_k3  (()))
def ref39_Holds_k1 (fuel : Nat) (p0 : Int) (p1 : List (Int) × (List (List (Int × Int)))) (p2 : List (Int)) (a3 : Bool) : Option (Bool) :=
  if a3 = true then (some (false)) else (if p0 = (1 : Int) then (iter (ref39_Holds_s1 fuel p1 p2) fuel (0 : Int)) else (if p0 = (2 : Int) then (Option.bind (m_ref39_only fuel p2 (1 : Int)) fun r23 => (some (decide ((0 : Int) ≤ r23)))) else (if p0 = (3 : Int) then (Option.bind (m_ref01_Distances fuel ((p1.1, p1.2)) (0 : Int)) fun r27 => (iter (ref39_Holds_s2 fuel p1 r27) fuel (0 : Int))) else (Option.bind (m_ref39_paired fuel ((p1.1, p1.2)) p2) fun r53 => (if (!r53) = true then (some (false)) else (Option.bind (m_ref39_Cover fuel ((p1.1, p1.2)) p2) fun r57 => (some (r57.2))))))))
def m_ref39_Holds (fuel : Nat) (p0 : Int) (p1 : List (Int) × (List (List (Int × Int)))) (p2 : List (Int)) : Option (Bool) :=
  Option.bind (m_ref01_In fuel p0 (1 : Int) (4 : Int)) fun r60 => (if (!r60) = true then (ref39_Holds_k1 fuel p0 p1 p2 (true)) else (Option.bind (m_ref01_Connected fuel ((p1.1, p1.2))) fun r64 => (if (!r64) = true then (ref39_Holds_k1 fuel p0 p1 p2 (true)) else (Option.bind (m_ref39_fits fuel p0 ((p1.1, p1.2)) p2) fun r68 => (ref39_Holds_k1 fuel p0 p1 p2 ((!r68)))))))

theorem body20 : HasBody Try.prog 20 := Try.call20

set_option maxHeartbeats 4000000 in
set_option maxRecDepth 20000 in
theorem t_ref39_Holds (fuel : Nat) {p0 : Int} {p1 : List (Int) × (List (List (Int × Int)))} {p2 : List (Int)} (v0 : Value)  (v1 : Value)  (z2 : List (Value × List (Int × Int)))  (v3 : Value) (r : Bool) (h : m_ref39_Holds fuel p0 p1 p2 = some r) :
    Meets Try.prog 20 #[Value.int .i64 (p0), Value.agg #[v0, v1], v3] [Sl RI64 v0 p1.1, S2 RI64I64p v1 z2 p1.2, Sl RI64 v3 p2] (fun x : Unit => Value.bool (r)) (fun x l => l) (fun _ l => l) := by
  refine Meets.of (vs := [Value.int .i64 (p0), Value.agg #[v0, v1], v3]) Try.func20 rfl Try.ntmps20 rfl fun c => ?_
  unfold m_ref39_Holds at h
  refine J.seq ?_
  refine J.region ?_
  refine J.loud (Loud.box (cs := [v0, v1]) rfl rfl) rfl fun b1 => ?_
  refine J.quiet (Y.assign rfl) rfl ?_
  refine J.done ?_
  refine J.thenN ?_
  refine J.seq ?_
  refine J.seq ?_
  refine J.midI (A := Bool) (B := Unit) (fun a3 => ref39_Holds_k1 fuel p0 p1 p2 a3 = some r) (fun a3 b4 => [(0, Value.int .i64 (p0)), (2, v3), (4, Value.pointer (some ⟨b1, 0, none⟩)), (27, Value.bool (a3))]) (fun a3 b4 => [Blk b1 [v0, v1] 29]) (fun a3 b4 => [Sl RI64 v0 p1.1, S2 RI64I64p v1 z2 p1.2, Sl RI64 v3 p2]) ?_ ?_
  · refine J.region ?_
    refine J.quiet (Y.move rfl) rfl ?_
    replace h := bnd h; obtain ⟨r60, hr61, h⟩ := h
    refine J.loud (Loud.callL body37 (t_ref01_In fuel  r60 hr61) rfl (LentAll.nil) (fun _ _ => rfl)) rfl fun x62 => ?_
    refine J.quiet (Y.not rfl) rfl ?_
    refine J.quiet (Y.move rfl) rfl ?_
    refine J.guard (by exact rfl) (by exact rfl) (fun hp63 => ?_) (fun hp63 => ?_)
    · replace h := ifP hp63 h
      refine J.guardN rfl rfl rfl ?_
      refine J.guardN rfl rfl rfl ?_
      refine J.guardN rfl rfl rfl ?_
      refine J.quiet (Y.pickT rfl rfl) rfl ?_
      refine J.quiet (Y.move rfl) rfl ?_
      refine J.guardN rfl rfl rfl ?_
      refine J.guardN rfl rfl rfl ?_
      refine J.guardN rfl rfl rfl ?_
      refine J.guardN rfl rfl rfl ?_
      refine J.guardN rfl rfl rfl ?_
      refine J.quiet (Y.pickT rfl rfl) rfl ?_
      refine J.done ?_
      refine J.thenN ?_
      exact J.meetI (true) (()) h (by repeat (first | exact SubF.nil | refine SubF.cons rfl ?_)) (SubM.refl _) (LentAll.refl _ _)
    · replace h := ifBN hp63 h
      refine J.guardY rfl (Y.loadBAll 0 rfl rfl rfl rfl) rfl ?_
      replace h := bnd h; obtain ⟨r64, hr65, h⟩ := h
      refine J.loudG rfl (Loud.callL body36 (t_ref01_Connected fuel v0 v1 z2 r64 hr65) rfl (LentAll.cons (Lent.fact 0 rfl) (LentAll.cons (Lent.fact 1 rfl) (LentAll.nil))) (fun _ _ => rfl)) rfl fun x66 => ?_
      refine J.guardY rfl (Y.not rfl) rfl ?_
      refine J.quiet (Y.pickF rfl rfl) rfl ?_
      refine J.quiet (Y.move rfl) rfl ?_
      refine J.guard (by exact rfl) (by exact rfl) (fun hp67 => ?_) (fun hp67 => ?_)
      · replace h := ifP hp67 h
        refine J.guardN rfl rfl rfl ?_
        refine J.guardN rfl rfl rfl ?_
        refine J.guardN rfl rfl rfl ?_
        refine J.guardN rfl rfl rfl ?_
        refine J.guardN rfl rfl rfl ?_
        refine J.quiet (Y.pickT rfl rfl) rfl ?_
        refine J.done ?_
        refine J.thenN ?_
        exact J.meetI (true) (()) h (by repeat (first | exact SubF.nil | refine SubF.cons rfl ?_)) (SubM.refl _) (LentAll.refl _ _)
      · replace h := ifBN hp67 h
        refine J.guardY rfl (Y.move rfl) rfl ?_
        refine J.guardY rfl (Y.loadBAll 0 rfl rfl rfl rfl) rfl ?_
        refine J.guardY rfl (Y.move rfl) rfl ?_
        replace h := bnd h; obtain ⟨r68, hr69, h⟩ := h
        refine J.loudG rfl (Loud.callL body42 (t_ref39_fits fuel v0 v1 z2 v3 r68 hr69) rfl (LentAll.cons (Lent.fact 0 rfl) (LentAll.cons (Lent.fact 1 rfl) (LentAll.cons (Lent.fact 2 rfl) (LentAll.nil)))) (fun _ _ => rfl)) rfl fun x70 => ?_
        refine J.guardY rfl (Y.not rfl) rfl ?_
        refine J.quiet (Y.pickF rfl rfl) rfl ?_
        refine J.done ?_
        refine J.thenN ?_
        exact J.meetI ((!r68)) (()) h (by repeat (first | exact SubF.nil | refine SubF.cons rfl ?_)) (SubM.refl _) (LentAll.refl _ _)
  · clear h
    intro a3 b4 h
    unfold ref39_Holds_k1 at h
    refine J.cond (by exact rfl) (fun hp5 => ?_) (fun hp5 => ?_)
    · replace h := ifP hp5 h
      refine J.seq ?_
      refine J.region ?_
      refine J.quiet (Y.assign rfl) rfl ?_
      refine J.done ?_
      refine J.thenN ?_
      refine J.ret ?_
      refine J.thenR ?_
      obtain rfl := Option.some.inj h
      exact J.retG1 (()) rfl rfl (RV.tmp rfl) (SubM.nil) LentAll.nil
    · replace h := ifBN hp5 h
      refine J.skip ?_
      refine J.thenN ?_
      refine J.seq ?_
      refine J.seq ?_
      refine J.region ?_
      refine J.quiet (Y.move rfl) rfl ?_
      refine J.done ?_
      refine J.thenN ?_
      refine J.block ?_
      refine J.seq ?_
      refine J.region ?_
      refine J.quiet (Y.eql rfl rfl) rfl ?_
      refine J.quiet (Y.assign rfl) rfl ?_
      refine J.done ?_
      refine J.thenN ?_
      refine J.condD (by exact rfl) (fun hp6 => ?_) (fun hp6 => ?_)
      · replace h := ifP hp6 h
        refine J.seq ?_
        refine J.midI (A := Unit) (B := Unit) (fun a7 => ref39_Holds_k2 fuel p2 a7 = some r) (fun a7 b8 => [(2, v3)]) (fun a7 b8 => []) (fun a7 b8 => [Sl RI64 v0 p1.1, S2 RI64I64p v1 z2 p1.2, Sl RI64 v3 p2]) ?_ ?_
        · refine J.seq ?_
          refine J.region ?_
          refine J.quiet (Y.assign rfl) rfl ?_
          refine J.done ?_
          refine J.thenN ?_
          refine J.block ?_
          refine J.loopI (A := Int) (B := Unit) (ref39_Holds_s1 fuel p1 p2) (fun a14 b15 => [(2, v3), (4, Value.pointer (some ⟨b1, 0, none⟩)), (7, Value.int .i64 (a14))]) (fun a14 b15 => [Blk b1 [v0, v1] 29]) (fun a14 b15 => [Sl RI64 v0 p1.1, S2 RI64I64p v1 z2 p1.2, Sl RI64 v3 p2]) (0 : Int) (()) h (by repeat (first | exact SubF.nil | refine SubF.cons rfl ?_)) (SubM.refl _) (LentAll.refl _ _) ?_
          clear h
          intro k16 a14 b15 h
          unfold ref39_Holds_s1 at h
          refine J.seq ?_
          refine J.seq ?_
          refine J.region ?_
          refine J.quiet (Y.move rfl) rfl ?_
          refine J.quiet (Y.move rfl) rfl ?_
          refine J.quiet (Y.lenS rfl (Lent.fact 2 rfl) rfl) rfl ?_
          refine J.quiet (Y.lss rfl rfl) rfl ?_
          refine J.done ?_
          refine J.thenN ?_
          refine J.condD (by exact rfl) (fun hp17 => ?_) (fun hp17 => ?_)
          · replace h := ifP hp17 h
            refine J.skip ?_
            refine J.thenN ?_
            refine J.seq ?_
            refine J.block ?_
            refine J.seq ?_
            refine J.region ?_
            refine J.quiet (Y.loadBAll 0 rfl rfl rfl rfl) rfl ?_
            refine J.quiet (Y.move rfl) rfl ?_
            refine J.quiet (Y.move rfl) rfl ?_
            replace h := bnd h; obtain ⟨r18, hr19, h⟩ := h
            refine J.loud (Loud.callL body39 (t_ref39_hops fuel v0 v1 z2 v3 r18 hr19) rfl (LentAll.cons (Lent.fact 0 rfl) (LentAll.cons (Lent.fact 1 rfl) (LentAll.cons (Lent.fact 2 rfl) (LentAll.nil)))) (fun _ _ => rfl)) rfl fun x20 => ?_
            refine J.quiet (Y.lss rfl rfl) rfl ?_
            refine J.done ?_
            refine J.thenN ?_
            refine J.condD (by exact rfl) (fun hp21 => ?_) (fun hp21 => ?_)
            · replace h := ifP hp21 h
              refine J.seq ?_
              refine J.region ?_
              refine J.quiet (Y.assign rfl) rfl ?_
              refine J.done ?_
              refine J.thenN ?_
              refine J.ret ?_
              refine J.inR ?_
              refine J.thenR ?_
              refine J.thenR ?_
              refine J.inR ?_
              refine J.thenR ?_
              refine J.inR ?_
              refine J.thenR ?_
              obtain rfl := Option.some.inj h
              exact J.retG1 (()) rfl rfl (RV.tmp rfl) (SubM.nil) LentAll.nil
            · replace h := ifN hp21 h
              refine J.skip ?_
              refine J.inN ?_
              refine J.thenN ?_
              refine J.region ?_
              refine J.quiet (Y.move rfl) rfl ?_
              refine J.quiet (Y.addW rfl rfl) rfl ?_
              refine J.quiet (Y.assign rfl) rfl ?_
              refine J.done ?_
              refine J.thenN ?_
              exact J.againI (wI .i64 (a14 + (1 : Int))) (()) h (by repeat (first | exact SubF.nil | refine SubF.cons rfl ?_)) (SubM.refl _) (LentAll.refl _ _)
          · replace h := ifN hp17 h
            refine J.exit ?_
            refine J.thenX ?_
            refine J.thenX ?_
            refine J.inX ?_
            refine J.thenN ?_
            exact J.meetI (()) (()) h (by repeat (first | exact SubF.nil | refine SubF.cons rfl ?_)) (SubM.nil) (LentAll.refl _ _)
        · clear h
          intro a7 b8 h
          unfold ref39_Holds_k2 at h
          refine J.seq ?_
          refine J.region ?_
          refine J.quiet (Y.move rfl) rfl ?_
          replace h := bnd h; obtain ⟨r9, hr10, h⟩ := h
          refine J.loud (Loud.callL body38 (t_ref39_only fuel v3 r9 hr10) rfl (LentAll.cons (Lent.fact 2 rfl) (LentAll.nil)) (fun _ _ => rfl)) rfl fun x11 => ?_
          refine J.quiet (Y.geq rfl rfl) rfl ?_
          refine J.quiet (Y.assign rfl) rfl ?_
          refine J.done ?_
          refine J.thenN ?_
          refine J.ret ?_
          refine J.inR ?_
          refine J.thenR ?_
          obtain rfl := Option.some.inj h
          exact J.retG1 (()) rfl rfl (RV.tmp rfl) (SubM.refl _) LentAll.nil
      · replace h := ifN hp6 h
        refine J.seq ?_
        refine J.region ?_
        refine J.quiet (Y.eql rfl rfl) rfl ?_
        refine J.quiet (Y.assign rfl) rfl ?_
        refine J.done ?_
        refine J.thenN ?_
        refine J.condD (by exact rfl) (fun hp22 => ?_) (fun hp22 => ?_)
        · replace h := ifP hp22 h
          refine J.seq ?_
          refine J.region ?_
          refine J.quiet (Y.move rfl) rfl ?_
          replace h := bnd h; obtain ⟨r23, hr24, h⟩ := h
          refine J.loud (Loud.callL body38 (t_ref39_only fuel v3 r23 hr24) rfl (LentAll.cons (Lent.fact 2 rfl) (LentAll.nil)) (fun _ _ => rfl)) rfl fun x25 => ?_
          refine J.quiet (Y.geq rfl rfl) rfl ?_
          refine J.quiet (Y.assign rfl) rfl ?_
          refine J.done ?_
          refine J.thenN ?_
          refine J.ret ?_
          refine J.inR ?_
          refine J.thenR ?_
          obtain rfl := Option.some.inj h
          exact J.retG1 (()) rfl rfl (RV.tmp rfl) (SubM.nil) LentAll.nil
        · replace h := ifN hp22 h
          refine J.seq ?_
          refine J.region ?_
          refine J.quiet (Y.eql rfl rfl) rfl ?_
          refine J.quiet (Y.assign rfl) rfl ?_
          refine J.done ?_
          refine J.thenN ?_
          refine J.condD (by exact rfl) (fun hp26 => ?_) (fun hp26 => ?_)
          · replace h := ifP hp26 h
            refine J.seq ?_
            refine J.region ?_
            refine J.quiet (Y.loadBAll 0 rfl rfl rfl rfl) rfl ?_
            replace h := bnd h; obtain ⟨r27, hr28, h⟩ := h
            refine J.loud (Loud.callL body40 (t_ref01_Distances fuel v0 v1 z2 r27 hr28) rfl (LentAll.cons (Lent.fact 0 rfl) (LentAll.cons (Lent.fact 1 rfl) (LentAll.nil))) (fun _ _ => rfl)) rfl fun x29 => ?_
            refine J.quiet (Y.assign rfl) rfl ?_
            refine J.done ?_
            refine J.thenN ?_
            refine J.seq ?_
            refine J.midI (A := Unit) (B := Unit) (fun a30 => ref39_Holds_k3  a30 = some r) (fun a30 b31 => []) (fun a30 b31 => []) (fun a30 b31 => [Sl RI64 v0 p1.1, S2 RI64I64p v1 z2 p1.2, Sl RI64 v3 p2]) ?_ ?_
            · refine J.seq ?_
              refine J.region ?_
              refine J.quiet (Y.assign rfl) rfl ?_
              refine J.done ?_
              refine J.thenN ?_
              refine J.block ?_
              refine J.loopI (A := Int) (B := Unit) (ref39_Holds_s2 fuel p1 r27) (fun a34 b35 => [(4, Value.pointer (some ⟨b1, 0, none⟩)), (8, x29), (9, Value.int .i64 (a34))]) (fun a34 b35 => [Ar EI64 x29 r27, Blk b1 [v0, v1] 29]) (fun a34 b35 => [Sl RI64 v0 p1.1, S2 RI64I64p v1 z2 p1.2, Sl RI64 v3 p2]) (0 : Int) (()) h (by repeat (first | exact SubF.nil | refine SubF.cons rfl ?_)) (SubM.refl _) (LentAll.refl _ _) ?_
              clear h
              intro k36 a34 b35 h
              unfold ref39_Holds_s2 at h
              refine J.seq ?_
              refine J.seq ?_
              refine J.region ?_
              refine J.quiet (Y.move rfl) rfl ?_
              refine J.quiet (Y.move rfl) rfl ?_
              refine J.quiet (Y.lenS rfl (Lent.ar (Lent.res 0 rfl) FI64) rfl) rfl ?_
              refine J.quiet (Y.lss rfl rfl) rfl ?_
              refine J.done ?_
              refine J.thenN ?_
              refine J.condD (by exact rfl) (fun hp37 => ?_) (fun hp37 => ?_)
              · replace h := ifP hp37 h
                refine J.skip ?_
                refine J.thenN ?_
                refine J.seq ?_
                refine J.midI (A := Unit) (B := Unit) (fun a38 => ref39_Holds_k4 a34 (iter (ref39_Holds_s2 fuel p1 r27) k36) a38 = some r) (fun a38 b39 => [(4, Value.pointer (some ⟨b1, 0, none⟩)), (8, x29), (9, Value.int .i64 (a34))]) (fun a38 b39 => [Ar EI64 x29 r27, Blk b1 [v0, v1] 29]) (fun a38 b39 => [Sl RI64 v0 p1.1, S2 RI64I64p v1 z2 p1.2, Sl RI64 v3 p2]) ?_ ?_
                · refine J.block ?_
                  refine J.seq ?_
                  refine J.region ?_
                  refine J.quiet (Y.assign rfl) rfl ?_
                  refine J.done ?_
                  refine J.thenN ?_
                  refine J.block ?_
                  refine J.loopI (A := Int) (B := Unit) (ref39_Holds_s3 p1 r27 a34 (iter (ref39_Holds_s2 fuel p1 r27) k36)) (fun a42 b43 => [(4, Value.pointer (some ⟨b1, 0, none⟩)), (8, x29), (9, Value.int .i64 (a34)), (10, Value.int .i64 (a42))]) (fun a42 b43 => [Ar EI64 x29 r27, Blk b1 [v0, v1] 29]) (fun a42 b43 => [Sl RI64 v0 p1.1, S2 RI64I64p v1 z2 p1.2, Sl RI64 v3 p2]) (0 : Int) (()) h (by repeat (first | exact SubF.nil | refine SubF.cons rfl ?_)) (SubM.refl _) (LentAll.refl _ _) ?_
                  clear h
                  intro k44 a42 b43 h
                  unfold ref39_Holds_s3 at h
                  refine J.seq ?_
                  refine J.seq ?_
                  refine J.region ?_
                  refine J.quiet (Y.move rfl) rfl ?_
                  refine J.quiet (Y.fieldB rfl rfl rfl rfl rfl) rfl ?_
                  refine J.quiet (Y.loadB 1 rfl rfl rfl rfl rfl) rfl ?_
                  refine J.quiet (Y.move rfl) rfl ?_
                  replace h := ck_some h; obtain ⟨hc45, h⟩ := h
                  refine J.quiet (Y.indexN rfl rfl (Lent.fact 1 rfl) rfl rfl hc45) rfl ?_
                  refine J.quiet (Y.loadRow rfl (Lent.fact 1 rfl) rfl rfl hc45) rfl ?_
                  refine J.quiet (Y.lenS rfl (Lent.el (Lent.fact 1 rfl) hc45.1 hc45.2) rfl) rfl ?_
                  refine J.quiet (Y.lss rfl rfl) rfl ?_
                  refine J.done ?_
                  refine J.thenN ?_
                  refine J.condD (by exact rfl) (fun hp46 => ?_) (fun hp46 => ?_)
                  · replace h := ifP hp46 h
                    refine J.skip ?_
                    refine J.thenN ?_
                    refine J.seq ?_
                    refine J.block ?_
                    refine J.seq ?_
                    refine JR.start [0, 0, 3, 7, 0, 0, 32, 0, 224, 480, 0, 2016, 4064, 8160, 16368, 32752, 65535, 131071, 262143] 16 mixedOrders (by decide +kernel) ?_
                    refine JR.open (by exact rfl) ?_
                    refine JR.qt rfl (SubM.nil) (SubL.nil) (Y.move rfl) HistOk.z ?_
                    refine JR.qt rfl (SubM.nil) (SubL.nil) (Y.move rfl) HistOk.z ?_
                    replace h := ck_some h; obtain ⟨hc47, h⟩ := h
                    refine JR.qt rfl (SubM.cons 0 rfl (SubM.nil)) (SubL.nil) (Y.indexS rfl rfl (Lent.ar (Lent.res 0 rfl) FI64) rfl rfl hc47) HistOk.z ?_
                    refine JR.qt rfl (SubM.cons 0 rfl (SubM.nil)) (SubL.nil) (Y.loadS0 rfl (Lent.ar (Lent.res 0 rfl) FI64) rfl rfl rfl RI64c0 hc47) HistOk.z ?_
                    refine JR.qt rfl (SubM.nil) (SubL.nil) (Y.move rfl) HistOk.z ?_
                    refine JR.qt rfl (SubM.nil) (SubL.nil) (Y.fieldB rfl rfl rfl rfl rfl) HistOk.z ?_
                    refine JR.qt rfl (SubM.cons 1 rfl (SubM.nil)) (SubL.nil) (Y.loadB 0 rfl rfl rfl rfl rfl) HistOk.z ?_
                    refine JR.qt rfl (SubM.nil) (SubL.nil) (Y.move rfl) HistOk.z ?_
                    replace h := ck_some h; obtain ⟨hc48, h⟩ := h
                    refine JR.qt rfl (SubM.nil) (SubL.cons (List.mem_of_getElem? (i := 1) rfl) (SubL.nil)) (Y.indexN rfl rfl (Lent.fact 0 rfl) rfl rfl hc48) HistOk.z ?_
                    refine JR.qt rfl (SubM.nil) (SubL.cons (List.mem_of_getElem? (i := 1) rfl) (SubL.nil)) (Y.loadRow rfl (Lent.fact 0 rfl) rfl rfl hc48) HistOk.z ?_
                    refine JR.qt rfl (SubM.nil) (SubL.nil) (Y.move rfl) HistOk.z ?_
                    replace h := ck_some h; obtain ⟨hc49, h⟩ := h
                    refine JR.qt rfl (SubM.nil) (SubL.cons (List.mem_of_getElem? (i := 1) rfl) (SubL.nil)) (Y.indexS rfl rfl (Lent.el (Lent.fact 0 rfl) hc48.1 hc48.2) rfl rfl hc49) HistOk.z ?_
                    refine JR.qt rfl (SubM.nil) (SubL.nil) (Y.fieldEl rfl rfl rfl rfl rfl) HistOk.z ?_
                    refine JR.qt rfl (SubM.nil) (SubL.cons (List.mem_of_getElem? (i := 1) rfl) (SubL.nil)) (Y.loadS rfl (Lent.el (Lent.fact 0 rfl) hc48.1 hc48.2) rfl rfl rfl RI64I64pc0 hc49) HistOk.z ?_
                    replace h := ck_some h; obtain ⟨hc50, h⟩ := h
                    refine JR.qt rfl (SubM.cons 0 rfl (SubM.nil)) (SubL.nil) (Y.indexS rfl rfl (Lent.ar (Lent.res 0 rfl) FI64) rfl rfl hc50) HistOk.z ?_
                    refine JR.qt rfl (SubM.cons 0 rfl (SubM.nil)) (SubL.nil) (Y.loadS0 rfl (Lent.ar (Lent.res 0 rfl) FI64) rfl rfl rfl RI64c0 hc50) HistOk.z ?_
                    refine JR.tailD 16 rfl rfl ?_
                    refine J.quiet (Y.addW rfl rfl) rfl ?_
                    replace h := ck_some h; obtain ⟨hc51, h⟩ := h
                    refine J.quiet (Y.rem rfl rfl hc51) rfl ?_
                    refine J.quiet (Y.eql rfl rfl) rfl ?_
                    refine J.done ?_
                    refine J.thenN ?_
                    refine J.condD (by exact rfl) (fun hp52 => ?_) (fun hp52 => ?_)
                    · replace h := ifP hp52 h
                      refine J.seq ?_
                      refine J.region ?_
                      refine J.quiet (Y.assign rfl) rfl ?_
                      refine J.done ?_
                      refine J.thenN ?_
                      refine J.ret ?_
                      refine J.inR ?_
                      refine J.thenR ?_
                      refine J.thenR ?_
                      refine J.inR ?_
                      refine J.inR ?_
                      refine J.thenR ?_
                      refine J.thenR ?_
                      refine J.inR ?_
                      refine J.thenR ?_
                      refine J.inR ?_
                      refine J.thenR ?_
                      obtain rfl := Option.some.inj h
                      exact J.retG1 (()) rfl rfl (RV.tmp rfl) (SubM.nil) LentAll.nil
                    · replace h := ifN hp52 h
                      refine J.skip ?_
                      refine J.inN ?_
                      refine J.thenN ?_
                      refine J.region ?_
                      refine J.quiet (Y.move rfl) rfl ?_
                      refine J.quiet (Y.addW rfl rfl) rfl ?_
                      refine J.quiet (Y.assign rfl) rfl ?_
                      refine J.done ?_
                      refine J.thenN ?_
                      exact J.againI (wI .i64 (a42 + (1 : Int))) (()) h (by repeat (first | exact SubF.nil | refine SubF.cons rfl ?_)) (SubM.refl _) (LentAll.refl _ _)
                  · replace h := ifN hp46 h
                    refine J.exit ?_
                    refine J.thenX ?_
                    refine J.thenX ?_
                    refine J.inX ?_
                    refine J.inN ?_
                    refine J.thenN ?_
                    exact J.meetI (()) (()) h (by repeat (first | exact SubF.nil | refine SubF.cons rfl ?_)) (SubM.refl _) (LentAll.refl _ _)
                · clear h
                  intro a38 b39 h
                  unfold ref39_Holds_k4 at h
                  refine J.region ?_
                  refine J.quiet (Y.move rfl) rfl ?_
                  refine J.quiet (Y.addW rfl rfl) rfl ?_
                  refine J.quiet (Y.assign rfl) rfl ?_
                  refine J.done ?_
                  refine J.thenN ?_
                  exact J.againI (wI .i64 (a34 + (1 : Int))) (()) h (by repeat (first | exact SubF.nil | refine SubF.cons rfl ?_)) (SubM.refl _) (LentAll.refl _ _)
              · replace h := ifN hp37 h
                refine J.exit ?_
                refine J.thenX ?_
                refine J.thenX ?_
                refine J.inX ?_
                refine J.thenN ?_
                exact J.meetI (()) (()) h (by repeat (first | exact SubF.nil | refine SubF.cons rfl ?_)) (SubM.nil) (LentAll.refl _ _)
            · clear h
              intro a30 b31 h
              unfold ref39_Holds_k3 at h
              refine J.seq ?_
              refine J.region ?_
              refine J.quiet (Y.assign rfl) rfl ?_
              refine J.done ?_
              refine J.thenN ?_
              refine J.ret ?_
              refine J.inR ?_
              refine J.thenR ?_
              obtain rfl := Option.some.inj h
              exact J.retG1 (()) rfl rfl (RV.tmp rfl) (SubM.refl _) LentAll.nil
          · replace h := ifN hp26 h
            refine J.skip ?_
            refine J.inN ?_
            refine J.thenN ?_
            refine J.seq ?_
            refine J.seq ?_
            refine J.region ?_
            refine J.quiet (Y.loadBAll 0 rfl rfl rfl rfl) rfl ?_
            refine J.quiet (Y.move rfl) rfl ?_
            replace h := bnd h; obtain ⟨r53, hr54, h⟩ := h
            refine J.loud (Loud.callL body43 (t_ref39_paired fuel v0 v1 z2 v3 r53 hr54) rfl (LentAll.cons (Lent.fact 0 rfl) (LentAll.cons (Lent.fact 1 rfl) (LentAll.cons (Lent.fact 2 rfl) (LentAll.nil)))) (fun _ _ => rfl)) rfl fun x55 => ?_
            refine J.quiet (Y.not rfl) rfl ?_
            refine J.done ?_
            refine J.thenN ?_
            refine J.cond (by exact rfl) (fun hp56 => ?_) (fun hp56 => ?_)
            · replace h := ifP hp56 h
              refine J.seq ?_
              refine J.region ?_
              refine J.quiet (Y.assign rfl) rfl ?_
              refine J.done ?_
              refine J.thenN ?_
              refine J.ret ?_
              refine J.thenR ?_
              obtain rfl := Option.some.inj h
              exact J.retG1 (()) rfl rfl (RV.tmp rfl) (SubM.nil) LentAll.nil
            · replace h := ifBN hp56 h
              refine J.skip ?_
              refine J.thenN ?_
              refine J.seq ?_
              refine J.region ?_
              refine J.quiet (Y.loadBAll 0 rfl rfl rfl rfl) rfl ?_
              refine J.quiet (Y.move rfl) rfl ?_
              replace h := bnd h; obtain ⟨r57, hr58, h⟩ := h
              refine J.loud (Loud.callL body41 (t_ref39_Cover fuel v0 v1 z2 v3 r57 hr58) rfl (LentAll.cons (Lent.fact 0 rfl) (LentAll.cons (Lent.fact 1 rfl) (LentAll.cons (Lent.fact 2 rfl) (LentAll.nil)))) (fun _ _ => rfl)) rfl fun x59 => ?_
              refine J.quiet (Y.move rfl) rfl ?_
              refine J.quiet (Y.extract rfl rfl) rfl ?_
              refine J.quiet (Y.extract rfl rfl) rfl ?_
              refine J.quiet (Y.assign rfl) rfl ?_
              refine J.quiet (Y.assign rfl) rfl ?_
              refine J.done ?_
              refine J.thenN ?_
              refine J.seq ?_
              refine J.region ?_
              refine J.quiet (Y.move rfl) rfl ?_
              refine J.quiet (Y.assign rfl) rfl ?_
              refine J.done ?_
              refine J.thenN ?_
              refine J.ret ?_
              obtain rfl := Option.some.inj h
              exact J.retG1 (()) rfl rfl (RV.tmp rfl) (SubM.nil) LentAll.nil

end Go.Proofs.Ytmajgimhmfeliaa
end
section
set_option linter.unusedVariables false
set_option linter.unusedSimpArgs false
namespace Go.Proofs.Ytmajgimhmfeliaa
open Go.Sx
set_option linter.unusedVariables false
set_option linter.unusedSimpArgs false
def ref39_Prove_k1  (a16 : (List (Int × Int))) : Option ((List (Int × Int)) × Int) :=
  some (a16, (0 : Int))
def ref39_Prove_k2 (a22 : (List (Int × Int)) × Int) (ag21 : ((List (Int × Int)) × Int) → Option ((List (Int × Int)) × Int)) (a28 : (List (Int × Int))) : Option ((List (Int × Int)) × Int) :=
  ag21 (a28, (wI .i64 (a22.2 + (1 : Int))))
def ref39_Prove_s1 (fuel : Nat) (p0 : Int) (p1 : List (Int) × (List (List (Int × Int)))) (p2 : List (Int)) (a22 : (List (Int × Int)) × Int) (ag21 : ((List (Int × Int)) × Int) → Option ((List (Int × Int)) × Int)) : Option ((List (Int × Int)) × Int) :=
  if a22.2 < (List.length p2 : Int) then (if p0 = (1 : Int) then (Option.bind (m_ref39_only fuel p2 (-1 : Int)) fun r31 => (ck (0 ≤ r31 ∧ r31 < (List.length p1.1 : Int)) (Option.bind (m_ref39_hops fuel ((p1.1, p1.2)) p2 a22.2) fun r35 => (ck ((List.length a22.1 : Int) + (List.length ([ ((at' p1.1 r31), r35)]) : Int) ≤ 1099511627) (ref39_Prove_k2 a22 ag21 (a22.1 ++ ([ ((at' p1.1 r31), r35)]))))))) else (if p0 = (2 : Int) then (Option.bind (m_ref39_only fuel p2 (1 : Int)) fun r42 => (ck (0 ≤ r42 ∧ r42 < (List.length p1.1 : Int)) (Option.bind (m_ref01_Distances fuel ((p1.1, p1.2)) r42) fun r46 => (ck (0 ≤ a22.2 ∧ a22.2 < (List.length r46 : Int)) (ck ((List.length a22.1 : Int) + (List.length ([ ((at' p1.1 r42), (at' r46 a22.2))]) : Int) ≤ 1099511627) (ref39_Prove_k2 a22 ag21 (a22.1 ++ ([ ((at' p1.1 r42), (at' r46 a22.2))])))))))) else (if p0 = (3 : Int) then (Option.bind (m_ref01_Distances fuel ((p1.1, p1.2)) (0 : Int)) fun r54 => (ck (0 ≤ a22.2 ∧ a22.2 < (List.length r54 : Int)) (ck ((2 : Int) ≠ 0) (ck ((List.length a22.1 : Int) + (List.length ([ ((Int.tmod (at' r54 a22.2) (2 : Int)), (0 : Int))]) : Int) ≤ 1099511627) (ref39_Prove_k2 a22 ag21 (a22.1 ++ ([ ((Int.tmod (at' r54 a22.2) (2 : Int)), (0 : Int))]))))))) else (Option.bind (m_ref39_Cover fuel ((p1.1, p1.2)) p2) fun r62 => (ck (0 ≤ a22.2 ∧ a22.2 < (List.length r62.1 : Int)) (ck ((List.length a22.1 : Int) + (List.length ([ ((at' r62.1 a22.2), (0 : Int))]) : Int) ≤ 1099511627) (ref39_Prove_k2 a22 ag21 (a22.1 ++ ([ ((at' r62.1 a22.2), (0 : Int))]))))))))) else (ref39_Prove_k1  (a22.1))
def m_ref39_Prove (fuel : Nat) (p0 : Int) (p1 : List (Int) × (List (List (Int × Int)))) (p2 : List (Int)) : Option ((List (Int × Int)) × Int) :=
  Option.bind (m_ref01_Connected fuel ((p1.1, p1.2))) fun r2 => (if (!r2) = true then (some (([] : List (Int × Int)), (1 : Int))) else (Option.bind (m_ref01_In fuel p0 (1 : Int) (4 : Int)) fun r6 => (if (!r6) = true then (some (([] : List (Int × Int)), (2 : Int))) else (Option.bind (m_ref39_Holds fuel p0 ((p1.1, p1.2)) p2) fun r10 => (if (!r10) = true then (some (([] : List (Int × Int)), (7 : Int))) else (iter (ref39_Prove_s1 fuel p0 p1 p2) fuel (([] : List (Int × Int)), (0 : Int))))))))

theorem body18 : HasBody Try.prog 18 := Try.call18

set_option maxHeartbeats 4000000 in
set_option maxRecDepth 20000 in
theorem t_ref39_Prove (fuel : Nat) {p0 : Int} {p1 : List (Int) × (List (List (Int × Int)))} {p2 : List (Int)} (v0 : Value)  (v1 : Value)  (z2 : List (Value × List (Int × Int)))  (v3 : Value) (r : (List (Int × Int)) × Int) (h : m_ref39_Prove fuel p0 p1 p2 = some r) :
    Meets Try.prog 18 #[Value.int .i64 (p0), Value.agg #[v0, v1], v3] [Sl RI64 v0 p1.1, S2 RI64I64p v1 z2 p1.2, Sl RI64 v3 p2] (fun x : Value => Value.tuple #[x, Value.int .i64 (r.2)]) (fun x l => Ar EI64I64p x r.1 :: l) (fun _ l => l) := by
  refine Meets.of (vs := [Value.int .i64 (p0), Value.agg #[v0, v1], v3]) Try.func18 rfl Try.ntmps18 rfl fun c => ?_
  unfold m_ref39_Prove at h
  refine J.seq ?_
  refine J.region ?_
  refine J.loud (Loud.box (cs := [v0, v1]) rfl rfl) rfl fun b1 => ?_
  refine J.quiet (Y.assign rfl) rfl ?_
  refine J.quiet (Y.assign rfl) rfl ?_
  refine J.done ?_
  refine J.thenN ?_
  refine J.seq ?_
  refine J.block ?_
  refine J.seq ?_
  refine J.region ?_
  refine J.quiet (Y.loadBAll 0 rfl rfl rfl rfl) rfl ?_
  replace h := bnd h; obtain ⟨r2, hr3, h⟩ := h
  refine J.loud (Loud.callL body36 (t_ref01_Connected fuel v0 v1 z2 r2 hr3) rfl (LentAll.cons (Lent.fact 0 rfl) (LentAll.cons (Lent.fact 1 rfl) (LentAll.nil))) (fun _ _ => rfl)) rfl fun x4 => ?_
  refine J.quiet (Y.not rfl) rfl ?_
  refine J.quiet (Y.assign rfl) rfl ?_
  refine J.done ?_
  refine J.thenN ?_
  refine J.cond (by exact rfl) (fun hp5 => ?_) (fun hp5 => ?_)
  · replace h := ifP hp5 h
    refine J.seq ?_
    refine J.region ?_
    refine J.quiet (Y.assign rfl) rfl ?_
    refine J.quiet (Y.assign rfl) rfl ?_
    refine J.done ?_
    refine J.thenN ?_
    refine J.ret ?_
    refine J.inR ?_
    refine J.thenR ?_
    refine J.stp (Stp.nilAr EI64I64p) ?_
    obtain rfl := Option.some.inj h
    exact J.retG2 (Value.slice none 0 0) rfl rfl (RV.tmp rfl) (RV.tmp rfl) (SubM.cons 0 rfl (SubM.nil)) LentAll.nil
  · replace h := ifBN hp5 h
    refine J.seq ?_
    refine J.region ?_
    refine J.quiet (Y.move rfl) rfl ?_
    replace h := bnd h; obtain ⟨r6, hr7, h⟩ := h
    refine J.loud (Loud.callL body37 (t_ref01_In fuel  r6 hr7) rfl (LentAll.nil) (fun _ _ => rfl)) rfl fun x8 => ?_
    refine J.quiet (Y.not rfl) rfl ?_
    refine J.quiet (Y.assign rfl) rfl ?_
    refine J.done ?_
    refine J.thenN ?_
    refine J.cond (by exact rfl) (fun hp9 => ?_) (fun hp9 => ?_)
    · replace h := ifP hp9 h
      refine J.seq ?_
      refine J.region ?_
      refine J.quiet (Y.assign rfl) rfl ?_
      refine J.quiet (Y.assign rfl) rfl ?_
      refine J.done ?_
      refine J.thenN ?_
      refine J.ret ?_
      refine J.inR ?_
      refine J.thenR ?_
      refine J.stp (Stp.nilAr EI64I64p) ?_
      obtain rfl := Option.some.inj h
      exact J.retG2 (Value.slice none 0 0) rfl rfl (RV.tmp rfl) (RV.tmp rfl) (SubM.cons 0 rfl (SubM.nil)) LentAll.nil
    · replace h := ifBN hp9 h
      refine J.seq ?_
      refine J.region ?_
      refine J.quiet (Y.move rfl) rfl ?_
      refine J.quiet (Y.loadBAll 0 rfl rfl rfl rfl) rfl ?_
      refine J.quiet (Y.move rfl) rfl ?_
      replace h := bnd h; obtain ⟨r10, hr11, h⟩ := h
      refine J.loud (Loud.callL body20 (t_ref39_Holds fuel v0 v1 z2 v3 r10 hr11) rfl (LentAll.cons (Lent.fact 0 rfl) (LentAll.cons (Lent.fact 1 rfl) (LentAll.cons (Lent.fact 2 rfl) (LentAll.nil)))) (fun _ _ => rfl)) rfl fun x12 => ?_
      refine J.quiet (Y.not rfl) rfl ?_
      refine J.quiet (Y.assign rfl) rfl ?_
      refine J.done ?_
      refine J.thenN ?_
      refine J.cond (by exact rfl) (fun hp13 => ?_) (fun hp13 => ?_)
      · replace h := ifP hp13 h
        refine J.seq ?_
        refine J.region ?_
        refine J.quiet (Y.assign rfl) rfl ?_
        refine J.quiet (Y.assign rfl) rfl ?_
        refine J.done ?_
        refine J.thenN ?_
        refine J.ret ?_
        refine J.inR ?_
        refine J.thenR ?_
        refine J.stp (Stp.nilAr EI64I64p) ?_
        obtain rfl := Option.some.inj h
        exact J.retG2 (Value.slice none 0 0) rfl rfl (RV.tmp rfl) (RV.tmp rfl) (SubM.cons 0 rfl (SubM.nil)) LentAll.nil
      · replace h := ifBN hp13 h
        refine J.skip ?_
        refine J.inN ?_
        refine J.thenN ?_
        refine J.seq ?_
        refine J.region ?_
        refine J.quiet (Y.assign rfl) rfl ?_
        refine J.done ?_
        refine J.thenN ?_
        refine J.seq ?_
        refine J.midI (A := (List (Int × Int))) (B := Value) (fun a16 => ref39_Prove_k1  a16 = some r) (fun a16 b17 => [(8, b17)]) (fun a16 b17 => [Ar EI64I64p b17 a16]) (fun a16 b17 => [Sl RI64 v0 p1.1, S2 RI64I64p v1 z2 p1.2, Sl RI64 v3 p2]) ?_ ?_
        · refine J.seq ?_
          refine J.region ?_
          refine J.quiet (Y.assign rfl) rfl ?_
          refine J.done ?_
          refine J.thenN ?_
          refine J.block ?_
          refine J.stp (Stp.nilAr EI64I64p) ?_
          refine J.loopI (A := (List (Int × Int)) × Int) (B := Value) (ref39_Prove_s1 fuel p0 p1 p2) (fun a22 b23 => [(0, Value.int .i64 (p0)), (2, v3), (4, Value.pointer (some ⟨b1, 0, none⟩)), (8, b23), (9, Value.int .i64 (a22.2))]) (fun a22 b23 => [Blk b1 [v0, v1] 29, Ar EI64I64p b23 a22.1]) (fun a22 b23 => [Sl RI64 v0 p1.1, S2 RI64I64p v1 z2 p1.2, Sl RI64 v3 p2]) (([] : List (Int × Int)), (0 : Int)) (Value.slice none 0 0) h (by repeat (first | exact SubF.nil | refine SubF.cons rfl ?_)) (SubM.cons 1 rfl (SubM.cons 0 rfl (SubM.nil))) (LentAll.refl _ _) ?_
          clear h
          intro k24 a22 b23 h
          unfold ref39_Prove_s1 at h
          refine J.seq ?_
          refine J.seq ?_
          refine J.region ?_
          refine J.quiet (Y.move rfl) rfl ?_
          refine J.quiet (Y.move rfl) rfl ?_
          refine J.quiet (Y.lenS rfl (Lent.fact 2 rfl) rfl) rfl ?_
          refine J.quiet (Y.lss rfl rfl) rfl ?_
          refine J.done ?_
          refine J.thenN ?_
          refine J.condD (by exact rfl) (fun hp25 => ?_) (fun hp25 => ?_)
          · replace h := ifP hp25 h
            refine J.skip ?_
            refine J.thenN ?_
            refine J.seq ?_
            refine J.midI (A := (List (Int × Int))) (B := Value) (fun a28 => ref39_Prove_k2 a22 (iter (ref39_Prove_s1 fuel p0 p1 p2) k24) a28 = some r) (fun a28 b29 => [(0, Value.int .i64 (p0)), (2, v3), (4, Value.pointer (some ⟨b1, 0, none⟩)), (8, b29), (9, Value.int .i64 (a22.2))]) (fun a28 b29 => [Blk b1 [v0, v1] 29, Ar EI64I64p b29 a28]) (fun a28 b29 => [Sl RI64 v0 p1.1, S2 RI64I64p v1 z2 p1.2, Sl RI64 v3 p2]) ?_ ?_
            · refine J.block ?_
              refine J.seq ?_
              refine J.region ?_
              refine J.quiet (Y.move rfl) rfl ?_
              refine J.done ?_
              refine J.thenN ?_
              refine J.block ?_
              refine J.seq ?_
              refine J.region ?_
              refine J.quiet (Y.eql rfl rfl) rfl ?_
              refine J.quiet (Y.assign rfl) rfl ?_
              refine J.done ?_
              refine J.thenN ?_
              refine J.condD (by exact rfl) (fun hp30 => ?_) (fun hp30 => ?_)
              · replace h := ifP hp30 h
                refine JR.start [0, 0, 2, 0, 8, 30, 62, 0, 0, 0, 920, 2046, 4094, 8191, 16383] 13 mixedOrders (by decide +kernel) ?_
                refine JR.open (by exact rfl) ?_
                refine JR.qt rfl (SubM.nil) (SubL.nil) (Y.move rfl) HistOk.z ?_
                refine JR.qt rfl (SubM.nil) (SubL.nil) (Y.fieldB rfl rfl rfl rfl rfl) HistOk.z ?_
                refine JR.qt rfl (SubM.cons 0 rfl (SubM.nil)) (SubL.nil) (Y.loadB 0 rfl rfl rfl rfl rfl) HistOk.z ?_
                refine JR.qt rfl (SubM.nil) (SubL.nil) (Y.move rfl) HistOk.z ?_
                replace h := bnd h; obtain ⟨r31, hr32, h⟩ := h
                refine JR.loud rfl rfl rfl (Loud.callL body38 (t_ref39_only fuel v3 r31 hr32) rfl (LentAll.cons (Lent.fact 2 rfl) (LentAll.nil)) (fun _ _ => rfl)) rfl (fun x33 => (BsOk.b rfl (BsOk.h (SubM.cons 0 rfl (SubM.nil)) (SubL.nil) (BsOk.h (SubM.nil) (SubL.nil) (BsOk.h (SubM.nil) (SubL.nil) BsOk.z))))) fun x33 => ?_
                replace h := ck_some h; obtain ⟨hc34, h⟩ := h
                refine JR.qt rfl (SubM.nil) (SubL.cons (List.mem_of_getElem? (i := 0) rfl) (SubL.nil)) (Y.indexS rfl rfl (Lent.fact 0 rfl) rfl rfl hc34) (HistOk.b rfl HistOk.z) ?_
                refine JR.qt rfl (SubM.nil) (SubL.cons (List.mem_of_getElem? (i := 0) rfl) (SubL.nil)) (Y.loadS0 rfl (Lent.fact 0 rfl) rfl rfl rfl RI64c0 hc34) (HistOk.b rfl HistOk.z) ?_
                refine JR.qt rfl (SubM.cons 0 rfl (SubM.nil)) (SubL.nil) (Y.loadBAll 0 rfl rfl rfl rfl) (HistOk.h (SubM.cons 0 rfl (SubM.nil)) (SubL.nil) HistOk.z) ?_
                refine JR.qt rfl (SubM.nil) (SubL.nil) (Y.move rfl) (HistOk.h (SubM.nil) (SubL.nil) HistOk.z) ?_
                refine JR.qt rfl (SubM.nil) (SubL.nil) (Y.move rfl) (HistOk.h (SubM.nil) (SubL.nil) HistOk.z) ?_
                replace h := bnd h; obtain ⟨r35, hr36, h⟩ := h
                refine JR.loud rfl rfl rfl (Loud.callL body39 (t_ref39_hops fuel v0 v1 z2 v3 r35 hr36) rfl (LentAll.cons (Lent.fact 0 rfl) (LentAll.cons (Lent.fact 1 rfl) (LentAll.cons (Lent.fact 2 rfl) (LentAll.nil)))) (fun _ _ => rfl)) rfl (fun x37 => (BsOk.b rfl (BsOk.b rfl (BsOk.b rfl (BsOk.h (SubM.nil) (SubL.cons (List.mem_of_getElem? (i := 0) rfl) (SubL.nil)) (BsOk.h (SubM.nil) (SubL.cons (List.mem_of_getElem? (i := 0) rfl) (SubL.nil)) (BsOk.b rfl (BsOk.h (SubM.cons 0 rfl (SubM.nil)) (SubL.nil) (BsOk.h (SubM.nil) (SubL.nil) (BsOk.h (SubM.nil) (SubL.nil) BsOk.z)))))))))) fun x37 => ?_
                refine JR.qt rfl (SubM.nil) (SubL.nil) (Y.bld2 (r := Value.agg #[Value.int .i64 (at' p1.1 r31), Value.int .i64 (r35)]) rfl rfl (by intro w; simp [Instr.build, Instr.fill, cells_intV, cells_boolV, cells_sliceV, cells_ptrV, cells_strV, cells_funcV, cells_agg])) (HistOk.b rfl (HistOk.b rfl HistOk.z)) ?_
                refine JR.loud rfl rfl rfl (Loud.buildS (e := EI64I64p) ([(((at' p1.1 r31), r35))]) [(0, Value.agg #[Value.int .i64 (at' p1.1 r31), Value.int .i64 (r35)])] rfl rfl rfl rfl (fill_1_2 (Value.int .i64 (at' p1.1 r31)) (Value.int .i64 (r35))) rfl rfl rfl) rfl (fun u38 => (BsOk.b rfl (BsOk.b rfl (BsOk.b rfl (BsOk.b rfl (BsOk.b rfl (BsOk.b rfl (BsOk.b rfl (BsOk.b rfl (BsOk.b rfl (BsOk.h (SubM.nil) (SubL.nil) BsOk.z))))))))))) fun u38 => ?_
                refine JR.tailD 13 rfl rfl ?_
                replace h := ck_some h; obtain ⟨hc40, h⟩ := h
                refine J.loud (Loud.appendL 2 FI64I64p rfl rfl rfl (Lent.ar (Lent.res 0 rfl) FI64I64p) rfl rfl rfl rfl hc40 rfl) rfl fun u39 => ?_
                refine J.quiet (Y.assign rfl) rfl ?_
                refine J.done ?_
                refine J.inN ?_
                refine J.inN ?_
                refine J.thenN ?_
                exact J.meetI (a22.1 ++ ([ ((at' p1.1 r31), r35)])) (u39) h (by repeat (first | exact SubF.nil | refine SubF.cons rfl ?_)) (SubM.cons 1 rfl (SubM.cons 1 rfl (SubM.nil))) (LentAll.refl _ _)
              · replace h := ifN hp30 h
                refine J.seq ?_
                refine J.region ?_
                refine J.quiet (Y.eql rfl rfl) rfl ?_
                refine J.quiet (Y.assign rfl) rfl ?_
                refine J.done ?_
                refine J.thenN ?_
                refine J.condD (by exact rfl) (fun hp41 => ?_) (fun hp41 => ?_)
                · replace h := ifP hp41 h
                  refine J.seq ?_
                  refine J.region ?_
                  refine J.quiet (Y.move rfl) rfl ?_
                  replace h := bnd h; obtain ⟨r42, hr43, h⟩ := h
                  refine J.loud (Loud.callL body38 (t_ref39_only fuel v3 r42 hr43) rfl (LentAll.cons (Lent.fact 2 rfl) (LentAll.nil)) (fun _ _ => rfl)) rfl fun x44 => ?_
                  refine J.quiet (Y.assign rfl) rfl ?_
                  refine J.done ?_
                  refine J.thenN ?_
                  refine JR.start [0, 0, 2, 0, 14, 30, 0, 0, 192, 0, 960, 1984, 4094, 8190, 16383, 32767] 14 mixedOrders (by decide +kernel) ?_
                  refine JR.open (by exact rfl) ?_
                  refine JR.qt rfl (SubM.nil) (SubL.nil) (Y.move rfl) HistOk.z ?_
                  refine JR.qt rfl (SubM.nil) (SubL.nil) (Y.fieldB rfl rfl rfl rfl rfl) HistOk.z ?_
                  refine JR.qt rfl (SubM.cons 0 rfl (SubM.nil)) (SubL.nil) (Y.loadB 0 rfl rfl rfl rfl rfl) HistOk.z ?_
                  refine JR.qt rfl (SubM.nil) (SubL.nil) (Y.move rfl) HistOk.z ?_
                  replace h := ck_some h; obtain ⟨hc45, h⟩ := h
                  refine JR.qt rfl (SubM.nil) (SubL.cons (List.mem_of_getElem? (i := 0) rfl) (SubL.nil)) (Y.indexS rfl rfl (Lent.fact 0 rfl) rfl rfl hc45) HistOk.z ?_
                  refine JR.qt rfl (SubM.nil) (SubL.cons (List.mem_of_getElem? (i := 0) rfl) (SubL.nil)) (Y.loadS0 rfl (Lent.fact 0 rfl) rfl rfl rfl RI64c0 hc45) HistOk.z ?_
                  refine JR.qt rfl (SubM.cons 0 rfl (SubM.nil)) (SubL.nil) (Y.loadBAll 0 rfl rfl rfl rfl) HistOk.z ?_
                  refine JR.qt rfl (SubM.nil) (SubL.nil) (Y.move rfl) HistOk.z ?_
                  replace h := bnd h; obtain ⟨r46, hr47, h⟩ := h
                  refine JR.loud rfl rfl rfl (Loud.callL body40 (t_ref01_Distances fuel v0 v1 z2 r46 hr47) rfl (LentAll.cons (Lent.fact 0 rfl) (LentAll.cons (Lent.fact 1 rfl) (LentAll.nil))) (fun _ _ => rfl)) rfl (fun x48 => (BsOk.b rfl (BsOk.b rfl (BsOk.h (SubM.nil) (SubL.cons (List.mem_of_getElem? (i := 0) rfl) (SubL.nil)) (BsOk.h (SubM.nil) (SubL.cons (List.mem_of_getElem? (i := 0) rfl) (SubL.nil)) (BsOk.h (SubM.nil) (SubL.nil) (BsOk.h (SubM.cons 1 rfl (SubM.nil)) (SubL.nil) (BsOk.h (SubM.nil) (SubL.nil) (BsOk.h (SubM.nil) (SubL.nil) BsOk.z))))))))) fun x48 => ?_
                  refine JR.qt rfl (SubM.nil) (SubL.nil) (Y.move rfl) (HistOk.h (SubM.nil) (SubL.nil) HistOk.z) ?_
                  replace h := ck_some h; obtain ⟨hc49, h⟩ := h
                  refine JR.qt rfl (SubM.cons 0 rfl (SubM.nil)) (SubL.nil) (Y.indexS rfl rfl (Lent.ar (Lent.res 0 rfl) FI64) rfl rfl hc49) (HistOk.b rfl HistOk.z) ?_
                  refine JR.qt rfl (SubM.cons 0 rfl (SubM.nil)) (SubL.nil) (Y.loadS0 rfl (Lent.ar (Lent.res 0 rfl) FI64) rfl rfl rfl RI64c0 hc49) (HistOk.b rfl HistOk.z) ?_
                  refine JR.qt rfl (SubM.nil) (SubL.nil) (Y.bld2 (r := Value.agg #[Value.int .i64 (at' p1.1 r42), Value.int .i64 (at' r46 a22.2)]) rfl rfl (by intro w; simp [Instr.build, Instr.fill, cells_intV, cells_boolV, cells_sliceV, cells_ptrV, cells_strV, cells_funcV, cells_agg])) (HistOk.b rfl HistOk.z) ?_
                  refine JR.loud rfl rfl rfl (Loud.buildS (e := EI64I64p) ([(((at' p1.1 r42), (at' r46 a22.2)))]) [(0, Value.agg #[Value.int .i64 (at' p1.1 r42), Value.int .i64 (at' r46 a22.2)])] rfl rfl rfl rfl (fill_1_2 (Value.int .i64 (at' p1.1 r42)) (Value.int .i64 (at' r46 a22.2))) rfl rfl rfl) rfl (fun u50 => (BsOk.b rfl (BsOk.b rfl (BsOk.b rfl (BsOk.b rfl (BsOk.b rfl (BsOk.b rfl (BsOk.b rfl (BsOk.b rfl (BsOk.b rfl (BsOk.b rfl (BsOk.b rfl (BsOk.h (SubM.nil) (SubL.nil) BsOk.z))))))))))))) fun u50 => ?_
                  refine JR.tailD 14 rfl rfl ?_
                  replace h := ck_some h; obtain ⟨hc52, h⟩ := h
                  refine J.loud (Loud.appendL 3 FI64I64p rfl rfl rfl (Lent.ar (Lent.res 0 rfl) FI64I64p) rfl rfl rfl rfl hc52 rfl) rfl fun u51 => ?_
                  refine J.quiet (Y.assign rfl) rfl ?_
                  refine J.done ?_
                  refine J.inN ?_
                  refine J.inN ?_
                  refine J.thenN ?_
                  exact J.meetI (a22.1 ++ ([ ((at' p1.1 r42), (at' r46 a22.2))])) (u51) h (by repeat (first | exact SubF.nil | refine SubF.cons rfl ?_)) (SubM.cons 2 rfl (SubM.cons 2 rfl (SubM.nil))) (LentAll.refl _ _)
                · replace h := ifN hp41 h
                  refine J.seq ?_
                  refine J.region ?_
                  refine J.quiet (Y.eql rfl rfl) rfl ?_
                  refine J.quiet (Y.assign rfl) rfl ?_
                  refine J.done ?_
                  refine J.thenN ?_
                  refine J.condD (by exact rfl) (fun hp53 => ?_) (fun hp53 => ?_)
                  · replace h := ifP hp53 h
                    refine J.region ?_
                    refine J.quiet (Y.move rfl) rfl ?_
                    refine J.quiet (Y.loadBAll 0 rfl rfl rfl rfl) rfl ?_
                    replace h := bnd h; obtain ⟨r54, hr55, h⟩ := h
                    refine J.loud (Loud.callL body40 (t_ref01_Distances fuel v0 v1 z2 r54 hr55) rfl (LentAll.cons (Lent.fact 0 rfl) (LentAll.cons (Lent.fact 1 rfl) (LentAll.nil))) (fun _ _ => rfl)) rfl fun x56 => ?_
                    refine J.quiet (Y.move rfl) rfl ?_
                    replace h := ck_some h; obtain ⟨hc57, h⟩ := h
                    refine J.quiet (Y.indexS rfl rfl (Lent.ar (Lent.res 0 rfl) FI64) rfl rfl hc57) rfl ?_
                    refine J.quiet (Y.loadS0 rfl (Lent.ar (Lent.res 0 rfl) FI64) rfl rfl rfl RI64c0 hc57) rfl ?_
                    replace h := ck_some h; obtain ⟨hc58, h⟩ := h
                    refine J.quiet (Y.rem rfl rfl hc58) rfl ?_
                    refine J.quiet (Y.bld2 (r := Value.agg #[Value.int .i64 (Int.tmod (at' r54 a22.2) (2 : Int)), Value.int .i64 (0 : Int)]) rfl rfl (by intro w; simp [Instr.build, Instr.fill, cells_intV, cells_boolV, cells_sliceV, cells_ptrV, cells_strV, cells_funcV, cells_agg])) rfl ?_
                    refine J.loud (Loud.buildS (e := EI64I64p) ([(((Int.tmod (at' r54 a22.2) (2 : Int)), (0 : Int)))]) [(0, Value.agg #[Value.int .i64 (Int.tmod (at' r54 a22.2) (2 : Int)), Value.int .i64 (0 : Int)])] rfl rfl rfl rfl (fill_1_2 (Value.int .i64 (Int.tmod (at' r54 a22.2) (2 : Int))) (Value.int .i64 (0 : Int))) rfl rfl rfl) rfl fun u59 => ?_
                    replace h := ck_some h; obtain ⟨hc61, h⟩ := h
                    refine J.loud (Loud.appendL 3 FI64I64p rfl rfl rfl (Lent.ar (Lent.res 0 rfl) FI64I64p) rfl rfl rfl rfl hc61 rfl) rfl fun u60 => ?_
                    refine J.quiet (Y.assign rfl) rfl ?_
                    refine J.done ?_
                    refine J.inN ?_
                    refine J.inN ?_
                    refine J.thenN ?_
                    exact J.meetI (a22.1 ++ ([ ((Int.tmod (at' r54 a22.2) (2 : Int)), (0 : Int))])) (u60) h (by repeat (first | exact SubF.nil | refine SubF.cons rfl ?_)) (SubM.cons 2 rfl (SubM.cons 2 rfl (SubM.nil))) (LentAll.refl _ _)
                  · replace h := ifN hp53 h
                    refine J.seq ?_
                    refine J.region ?_
                    refine J.quiet (Y.loadBAll 0 rfl rfl rfl rfl) rfl ?_
                    refine J.quiet (Y.move rfl) rfl ?_
                    replace h := bnd h; obtain ⟨r62, hr63, h⟩ := h
                    refine J.loud (Loud.callL body41 (t_ref39_Cover fuel v0 v1 z2 v3 r62 hr63) rfl (LentAll.cons (Lent.fact 0 rfl) (LentAll.cons (Lent.fact 1 rfl) (LentAll.cons (Lent.fact 2 rfl) (LentAll.nil)))) (fun _ _ => rfl)) rfl fun x64 => ?_
                    refine J.quiet (Y.move rfl) rfl ?_
                    refine J.quiet (Y.extract rfl rfl) rfl ?_
                    refine J.quiet (Y.extract rfl rfl) rfl ?_
                    refine J.quiet (Y.assign rfl) rfl ?_
                    refine J.quiet (Y.assign rfl) rfl ?_
                    refine J.done ?_
                    refine J.thenN ?_
                    refine J.region ?_
                    refine J.quiet (Y.move rfl) rfl ?_
                    refine J.quiet (Y.move rfl) rfl ?_
                    refine J.quiet (Y.move rfl) rfl ?_
                    replace h := ck_some h; obtain ⟨hc65, h⟩ := h
                    refine J.quiet (Y.indexS rfl rfl (Lent.ar (Lent.res 0 rfl) FI64) rfl rfl hc65) rfl ?_
                    refine J.quiet (Y.loadS0 rfl (Lent.ar (Lent.res 0 rfl) FI64) rfl rfl rfl RI64c0 hc65) rfl ?_
                    refine J.quiet (Y.bld2 (r := Value.agg #[Value.int .i64 (at' r62.1 a22.2), Value.int .i64 (0 : Int)]) rfl rfl (by intro w; simp [Instr.build, Instr.fill, cells_intV, cells_boolV, cells_sliceV, cells_ptrV, cells_strV, cells_funcV, cells_agg])) rfl ?_
                    refine J.loud (Loud.buildS (e := EI64I64p) ([(((at' r62.1 a22.2), (0 : Int)))]) [(0, Value.agg #[Value.int .i64 (at' r62.1 a22.2), Value.int .i64 (0 : Int)])] rfl rfl rfl rfl (fill_1_2 (Value.int .i64 (at' r62.1 a22.2)) (Value.int .i64 (0 : Int))) rfl rfl rfl) rfl fun u66 => ?_
                    replace h := ck_some h; obtain ⟨hc68, h⟩ := h
                    refine J.loud (Loud.appendL 3 FI64I64p rfl rfl rfl (Lent.ar (Lent.res 0 rfl) FI64I64p) rfl rfl rfl rfl hc68 rfl) rfl fun u67 => ?_
                    refine J.quiet (Y.assign rfl) rfl ?_
                    refine J.done ?_
                    refine J.inN ?_
                    refine J.inN ?_
                    refine J.thenN ?_
                    exact J.meetI (a22.1 ++ ([ ((at' r62.1 a22.2), (0 : Int))])) (u67) h (by repeat (first | exact SubF.nil | refine SubF.cons rfl ?_)) (SubM.cons 2 rfl (SubM.cons 2 rfl (SubM.nil))) (LentAll.refl _ _)
            · clear h
              intro a28 b29 h
              unfold ref39_Prove_k2 at h
              refine J.region ?_
              refine J.quiet (Y.move rfl) rfl ?_
              refine J.quiet (Y.addW rfl rfl) rfl ?_
              refine J.quiet (Y.assign rfl) rfl ?_
              refine J.done ?_
              refine J.thenN ?_
              exact J.againI (a28, (wI .i64 (a22.2 + (1 : Int)))) (b29) h (by repeat (first | exact SubF.nil | refine SubF.cons rfl ?_)) (SubM.refl _) (LentAll.refl _ _)
          · replace h := ifN hp25 h
            refine J.exit ?_
            refine J.thenX ?_
            refine J.thenX ?_
            refine J.inX ?_
            refine J.thenN ?_
            exact J.meetI (a22.1) (b23) h (by repeat (first | exact SubF.nil | refine SubF.cons rfl ?_)) (SubM.cons 1 rfl (SubM.nil)) (LentAll.refl _ _)
        · clear h
          intro a16 b17 h
          unfold ref39_Prove_k1 at h
          refine J.seq ?_
          refine J.region ?_
          refine J.quiet (Y.move rfl) rfl ?_
          refine J.quiet (Y.assign rfl) rfl ?_
          refine J.quiet (Y.assign rfl) rfl ?_
          refine J.done ?_
          refine J.thenN ?_
          refine J.ret ?_
          obtain rfl := Option.some.inj h
          exact J.retG2 (b17) rfl rfl (RV.tmp rfl) (RV.tmp rfl) (SubM.refl _) LentAll.nil

end Go.Proofs.Ytmajgimhmfeliaa
end
section
set_option linter.unusedVariables false
set_option linter.unusedSimpArgs false
namespace Go.Proofs.Ytmajgimhmfeliaa
open Go.Sx
set_option linter.unusedVariables false
set_option linter.unusedSimpArgs false
def law39_LabelsHold_k1  (a16 : Bool) : Option (Bool) :=
  some (a16)
def m_law39_LabelsHold (fuel : Nat) (p0 : Int) (p1 : List (Int) × (List (List (Int × Int)))) (p2 : List (Int)) : Option (Bool) :=
  Option.bind (m_law39_large fuel ((p1.1, p1.2)) (List.length p2 : Int)) fun r2 => (if r2 = true then (Option.bind (m_law39_known fuel ) fun r6 => (some (r6))) else (Option.bind (m_labels_Prove fuel p0 ((p1.1, p1.2)) p2) fun r9 => (Option.bind (m_ref39_Prove fuel p0 ((p1.1, p1.2)) p2) fun r12 => (Option.bind (m_law39_known fuel ) fun r18 => (if r18 = true then (Option.bind (m_labels_Holds fuel p0 ((p1.1, p1.2)) p2) fun r22 => (Option.bind (m_ref39_Holds fuel p0 ((p1.1, p1.2)) p2) fun r25 => (if (r22 == r25) = true then (if r9.2 = r12.2 then (Option.bind (m_law39_same fuel r9.1 r12.1) fun r30 => (law39_LabelsHold_k1  (r30))) else (law39_LabelsHold_k1  (false))) else (law39_LabelsHold_k1  (false))))) else (law39_LabelsHold_k1  (false)))))))

set_option maxHeartbeats 4000000 in
set_option maxRecDepth 20000 in
theorem t_law39_LabelsHold (fuel : Nat) {p0 : Int} {p1 : List (Int) × (List (List (Int × Int)))} {p2 : List (Int)} (v0 : Value)  (v1 : Value)  (z2 : List (Value × List (Int × Int)))  (v3 : Value) (r : Bool) (h : m_law39_LabelsHold fuel p0 p1 p2 = some r) :
    Meets Try.prog 4 #[Value.int .i64 (p0), Value.agg #[v0, v1], v3] [Sl RI64 v0 p1.1, S2 RI64I64p v1 z2 p1.2, Sl RI64 v3 p2] (fun x : Unit => Value.bool (r)) (fun x l => l) (fun _ l => l) := by
  refine Meets.of (vs := [Value.int .i64 (p0), Value.agg #[v0, v1], v3]) Try.func4 rfl Try.ntmps4 rfl fun c => ?_
  unfold m_law39_LabelsHold at h
  refine J.seq ?_
  refine J.region ?_
  refine J.loud (Loud.box (cs := [v0, v1]) rfl rfl) rfl fun b1 => ?_
  refine J.quiet (Y.assign rfl) rfl ?_
  refine J.done ?_
  refine J.thenN ?_
  refine J.seq ?_
  refine J.seq ?_
  refine J.region ?_
  refine J.quiet (Y.loadBAll 0 rfl rfl rfl rfl) rfl ?_
  refine J.quiet (Y.move rfl) rfl ?_
  refine J.quiet (Y.lenS rfl (Lent.fact 2 rfl) rfl) rfl ?_
  replace h := bnd h; obtain ⟨r2, hr3, h⟩ := h
  refine J.loud (Loud.callL body17 (t_law39_large fuel v0 v1 z2 r2 hr3) rfl (LentAll.cons (Lent.fact 0 rfl) (LentAll.cons (Lent.fact 1 rfl) (LentAll.nil))) (fun _ _ => rfl)) rfl fun x4 => ?_
  refine J.done ?_
  refine J.thenN ?_
  refine J.cond (by exact rfl) (fun hp5 => ?_) (fun hp5 => ?_)
  · replace h := ifP hp5 h
    refine J.seq ?_
    refine J.region ?_
    replace h := bnd h; obtain ⟨r6, hr7, h⟩ := h
    refine J.loud (Loud.callL body13 (t_law39_known fuel  r6 hr7) rfl (LentAll.nil) (fun _ _ => rfl)) rfl fun x8 => ?_
    refine J.quiet (Y.assign rfl) rfl ?_
    refine J.done ?_
    refine J.thenN ?_
    refine J.ret ?_
    refine J.thenR ?_
    obtain rfl := Option.some.inj h
    exact J.retG1 (()) rfl rfl (RV.tmp rfl) (SubM.nil) LentAll.nil
  · replace h := ifBN hp5 h
    refine J.skip ?_
    refine J.thenN ?_
    refine J.seq ?_
    refine J.region ?_
    refine J.quiet (Y.move rfl) rfl ?_
    refine J.quiet (Y.loadBAll 0 rfl rfl rfl rfl) rfl ?_
    refine J.quiet (Y.move rfl) rfl ?_
    replace h := bnd h; obtain ⟨r9, hr10, h⟩ := h
    refine J.loud (Loud.callL body12 (t_labels_Prove fuel v0 v1 z2 v3 r9 hr10) rfl (LentAll.cons (Lent.fact 0 rfl) (LentAll.cons (Lent.fact 1 rfl) (LentAll.cons (Lent.fact 2 rfl) (LentAll.nil)))) (fun _ _ => rfl)) rfl fun x11 => ?_
    refine J.quiet (Y.move rfl) rfl ?_
    refine J.quiet (Y.extract rfl rfl) rfl ?_
    refine J.quiet (Y.extract rfl rfl) rfl ?_
    refine J.quiet (Y.assign rfl) rfl ?_
    refine J.quiet (Y.assign rfl) rfl ?_
    refine J.done ?_
    refine J.thenN ?_
    refine J.seq ?_
    refine J.region ?_
    refine J.quiet (Y.move rfl) rfl ?_
    refine J.quiet (Y.loadBAll 1 rfl rfl rfl rfl) rfl ?_
    refine J.quiet (Y.move rfl) rfl ?_
    replace h := bnd h; obtain ⟨r12, hr13, h⟩ := h
    refine J.loud (Loud.callL body18 (t_ref39_Prove fuel v0 v1 z2 v3 r12 hr13) rfl (LentAll.cons (Lent.fact 0 rfl) (LentAll.cons (Lent.fact 1 rfl) (LentAll.cons (Lent.fact 2 rfl) (LentAll.nil)))) (fun _ _ => rfl)) rfl fun x14 => ?_
    refine J.quiet (Y.move rfl) rfl ?_
    refine J.quiet (Y.extract rfl rfl) rfl ?_
    refine J.quiet (Y.extract rfl rfl) rfl ?_
    refine J.quiet (Y.assign rfl) rfl ?_
    refine J.quiet (Y.assign rfl) rfl ?_
    refine J.done ?_
    refine J.thenN ?_
    refine J.seq ?_
    refine J.midI (A := Bool) (B := Unit) (fun a16 => law39_LabelsHold_k1  a16 = some r) (fun a16 b17 => [(6, Value.bool (a16))]) (fun a16 b17 => []) (fun a16 b17 => [Sl RI64 v0 p1.1, S2 RI64I64p v1 z2 p1.2, Sl RI64 v3 p2]) ?_ ?_
    · refine JR.start [0, 1, 3, 3, 3, 31, 3, 3, 3, 511, 1023, 2047, 4095, 8191, 8191, 32767, 65535, 131071, 262143, 262143, 1048575, 2097151, 4194303] 20 mixedOrders (by decide +kernel) ?_
      refine JR.open (by exact rfl) ?_
      replace h := bnd h; obtain ⟨r18, hr19, h⟩ := h
      refine JR.loud rfl rfl rfl (Loud.callL body13 (t_law39_known fuel  r18 hr19) rfl (LentAll.nil) (fun _ _ => rfl)) rfl (fun x20 => BsOk.z) fun x20 => ?_
      refine JR.qt rfl (SubM.nil) (SubL.nil) (Y.move rfl) (HistOk.b rfl HistOk.z) ?_
      refine JR.guard (by exact rfl) (by exact rfl) (by exact rfl) (fun hp21 => ?_) (fun hp21 => ?_)
      · replace h := ifP hp21 h
        refine JR.qtG rfl (SubM.nil) (SubL.nil) (Y.move rfl) (HistOk.b rfl HistOk.z) ?_
        refine JR.qtG rfl (SubM.cons 2 rfl (SubM.nil)) (SubL.nil) (Y.loadBAll 0 rfl rfl rfl rfl) (HistOk.b rfl HistOk.z) ?_
        refine JR.qtG rfl (SubM.nil) (SubL.nil) (Y.move rfl) (HistOk.b rfl HistOk.z) ?_
        replace h := bnd h; obtain ⟨r22, hr23, h⟩ := h
        refine JR.loudG rfl rfl rfl rfl (Loud.callL body19 (t_labels_Holds fuel v0 v1 z2 v3 r22 hr23) rfl (LentAll.cons (Lent.fact 0 rfl) (LentAll.cons (Lent.fact 1 rfl) (LentAll.cons (Lent.fact 2 rfl) (LentAll.nil)))) (fun _ _ => rfl)) rfl (fun x24 => (BsOk.b rfl (BsOk.b rfl (BsOk.b rfl (BsOk.b rfl BsOk.z))))) fun x24 => ?_
        refine JR.qtG rfl (SubM.nil) (SubL.nil) (Y.move rfl) (HistOk.h (SubM.nil) (SubL.nil) (HistOk.b rfl HistOk.z)) ?_
        refine JR.qtG rfl (SubM.cons 2 rfl (SubM.nil)) (SubL.nil) (Y.loadBAll 0 rfl rfl rfl rfl) (HistOk.h (SubM.cons 2 rfl (SubM.nil)) (SubL.nil) (HistOk.b rfl HistOk.z)) ?_
        refine JR.qtG rfl (SubM.nil) (SubL.nil) (Y.move rfl) (HistOk.h (SubM.nil) (SubL.nil) (HistOk.b rfl HistOk.z)) ?_
        replace h := bnd h; obtain ⟨r25, hr26, h⟩ := h
        refine JR.loudG rfl rfl rfl rfl (Loud.callL body20 (t_ref39_Holds fuel v0 v1 z2 v3 r25 hr26) rfl (LentAll.cons (Lent.fact 0 rfl) (LentAll.cons (Lent.fact 1 rfl) (LentAll.cons (Lent.fact 2 rfl) (LentAll.nil)))) (fun _ _ => rfl)) rfl (fun x27 => (BsOk.b rfl (BsOk.b rfl (BsOk.b rfl (BsOk.b rfl (BsOk.b rfl (BsOk.b rfl (BsOk.b rfl BsOk.z)))))))) fun x27 => ?_
        refine JR.qtG rfl (SubM.nil) (SubL.nil) (Y.eqlB rfl rfl rfl) (HistOk.b rfl (HistOk.b rfl (HistOk.b rfl HistOk.z))) ?_
        refine JR.qt rfl (SubM.nil) (SubL.nil) (Y.pickT rfl rfl) (HistOk.b rfl (HistOk.b rfl (HistOk.b rfl HistOk.z))) ?_
        refine JR.qt rfl (SubM.nil) (SubL.nil) (Y.move rfl) (HistOk.b rfl (HistOk.b rfl (HistOk.b rfl HistOk.z))) ?_
        refine JR.guard (by exact rfl) (by exact rfl) (by exact rfl) (fun hp28 => ?_) (fun hp28 => ?_)
        · replace h := ifP hp28 h
          refine JR.qtG rfl (SubM.nil) (SubL.nil) (Y.move rfl) (HistOk.b rfl (HistOk.b rfl (HistOk.b rfl HistOk.z))) ?_
          refine JR.qtG rfl (SubM.nil) (SubL.nil) (Y.move rfl) (HistOk.b rfl (HistOk.b rfl (HistOk.b rfl HistOk.z))) ?_
          refine JR.qtG rfl (SubM.nil) (SubL.nil) (Y.eql rfl rfl) (HistOk.b rfl (HistOk.b rfl (HistOk.b rfl HistOk.z))) ?_
          refine JR.qt rfl (SubM.nil) (SubL.nil) (Y.pickT rfl rfl) (HistOk.b rfl (HistOk.b rfl (HistOk.b rfl HistOk.z))) ?_
          refine JR.qt rfl (SubM.nil) (SubL.nil) (Y.move rfl) (HistOk.b rfl (HistOk.b rfl (HistOk.b rfl HistOk.z))) ?_
          refine JR.guardD (by exact rfl) (by exact rfl) (by exact rfl) (fun hp29 => ?_) (fun hp29 => ?_)
          · replace h := ifP hp29 h
            refine JR.qtG rfl (SubM.nil) (SubL.nil) (Y.move rfl) (HistOk.b rfl (HistOk.b rfl (HistOk.b rfl HistOk.z))) ?_
            refine JR.qtG rfl (SubM.nil) (SubL.nil) (Y.move rfl) (HistOk.b rfl (HistOk.b rfl (HistOk.b rfl HistOk.z))) ?_
            refine JR.tailD 20 rfl rfl ?_
            replace h := bnd h; obtain ⟨r30, hr31, h⟩ := h
            refine J.loudG rfl (Loud.callL body21 (t_law39_same fuel x11 x14 r30 hr31) rfl (LentAll.cons (Lent.ar (Lent.res 1 rfl) FI64I64p) (LentAll.cons (Lent.ar (Lent.res 0 rfl) FI64I64p) (LentAll.nil))) (fun _ _ => rfl)) rfl fun x32 => ?_
            refine J.quiet (Y.pickT rfl rfl) rfl ?_
            refine J.quiet (Y.assign rfl) rfl ?_
            refine J.done ?_
            refine J.thenN ?_
            exact J.meetI (r30) (()) h (by repeat (first | exact SubF.nil | refine SubF.cons rfl ?_)) (SubM.nil) (LentAll.refl _ _)
          · replace h := ifN hp29 h
            refine JR.guardN rfl rfl rfl rfl ?_
            refine JR.guardN rfl rfl rfl rfl ?_
            refine JR.tailD 20 rfl rfl ?_
            refine J.guardN rfl rfl rfl ?_
            refine J.quiet (Y.pickF rfl rfl) rfl ?_
            refine J.quiet (Y.assign rfl) rfl ?_
            refine J.done ?_
            refine J.thenN ?_
            exact J.meetI (false) (()) h (by repeat (first | exact SubF.nil | refine SubF.cons rfl ?_)) (SubM.nil) (LentAll.refl _ _)
        · replace h := ifBN hp28 h
          refine JR.guardN rfl rfl rfl rfl ?_
          refine JR.guardN rfl rfl rfl rfl ?_
          refine JR.guardN rfl rfl rfl rfl ?_
          refine JR.qt rfl (SubM.nil) (SubL.nil) (Y.pickF rfl rfl) (HistOk.b rfl (HistOk.b rfl (HistOk.b rfl HistOk.z))) ?_
          refine JR.qt rfl (SubM.nil) (SubL.nil) (Y.move rfl) (HistOk.b rfl (HistOk.b rfl (HistOk.b rfl HistOk.z))) ?_
          refine JR.guardN rfl rfl rfl rfl ?_
          refine JR.guardN rfl rfl rfl rfl ?_
          refine JR.tailD 20 rfl rfl ?_
          refine J.guardN rfl rfl rfl ?_
          refine J.quiet (Y.pickF rfl rfl) rfl ?_
          refine J.quiet (Y.assign rfl) rfl ?_
          refine J.done ?_
          refine J.thenN ?_
          exact J.meetI (false) (()) h (by repeat (first | exact SubF.nil | refine SubF.cons rfl ?_)) (SubM.nil) (LentAll.refl _ _)
      · replace h := ifBN hp21 h
        refine JR.guardN rfl rfl rfl rfl ?_
        refine JR.guardN rfl rfl rfl rfl ?_
        refine JR.guardN rfl rfl rfl rfl ?_
        refine JR.guardN rfl rfl rfl rfl ?_
        refine JR.guardN rfl rfl rfl rfl ?_
        refine JR.guardN rfl rfl rfl rfl ?_
        refine JR.guardN rfl rfl rfl rfl ?_
        refine JR.guardN rfl rfl rfl rfl ?_
        refine JR.guardN rfl rfl rfl rfl ?_
        refine JR.qt rfl (SubM.nil) (SubL.nil) (Y.pickF rfl rfl) (HistOk.b rfl HistOk.z) ?_
        refine JR.qt rfl (SubM.nil) (SubL.nil) (Y.move rfl) (HistOk.b rfl HistOk.z) ?_
        refine JR.guardN rfl rfl rfl rfl ?_
        refine JR.guardN rfl rfl rfl rfl ?_
        refine JR.guardN rfl rfl rfl rfl ?_
        refine JR.qt rfl (SubM.nil) (SubL.nil) (Y.pickF rfl rfl) (HistOk.b rfl HistOk.z) ?_
        refine JR.qt rfl (SubM.nil) (SubL.nil) (Y.move rfl) (HistOk.b rfl HistOk.z) ?_
        refine JR.guardN rfl rfl rfl rfl ?_
        refine JR.guardN rfl rfl rfl rfl ?_
        refine JR.tailD 20 rfl rfl ?_
        refine J.guardN rfl rfl rfl ?_
        refine J.quiet (Y.pickF rfl rfl) rfl ?_
        refine J.quiet (Y.assign rfl) rfl ?_
        refine J.done ?_
        refine J.thenN ?_
        exact J.meetI (false) (()) h (by repeat (first | exact SubF.nil | refine SubF.cons rfl ?_)) (SubM.nil) (LentAll.refl _ _)
    · clear h
      intro a16 b17 h
      unfold law39_LabelsHold_k1 at h
      refine J.ret ?_
      obtain rfl := Option.some.inj h
      exact J.retG1 (()) rfl rfl (RV.tmp rfl) (SubM.refl _) LentAll.nil

end Go.Proofs.Ytmajgimhmfeliaa
end
section
set_option linter.unusedVariables false
set_option linter.unusedSimpArgs false
namespace Go.Proofs.Ytmajgimhmfeliaa
open Go.Sx
set_option linter.unusedVariables false
section
variable {g : GR} {st : List Int}
theorem at_get {α : Type} [Inhabited α] {l : List α} {i : Nat} (h : i < l.length) : at' l (i : Int) = l[i] := by
  rw [at'_nat, List.getD_eq_getElem?_getD, List.getElem?_eq_getElem h]; rfl

theorem VG.vm (h : VG g) : VM g.1 g.2 := by
  have hlen := h.len
  refine ⟨h.n1, h.n24, h.len, ⟨fun y hy => ?_, ?_⟩, fun v hv => ?_, fun v hv x hx => ?_⟩
  · obtain ⟨i, hi, he⟩ := at_of_mem hy
    rw [← he]; exact (h.node i (by omega)).id
  · rw [List.nodup_iff_pairwise_ne, List.pairwise_iff_getElem]
    intro i j hi hj hij
    rw [← at_get hi, ← at_get hj]
    exact (h.node j (by omega)).ids i hij
  · rw [List.nodup_iff_pairwise_ne, List.pairwise_iff_getElem]
    intro i j hi hj hij
    rw [List.getElem_map, List.getElem_map]
    have hi' : i < (at' g.2 (v : Int)).length := by simpa using hi
    have hj' : j < (at' g.2 (v : Int)).length := by simpa using hj
    rw [← at_get hi', ← at_get hj']
    exact ((h.node v hv).links j hj').2.2.2 i hij
  · obtain ⟨i, hi, he⟩ := at_of_mem hx
    have hl := (h.node v hv).links i hi
    have he' : lnk (row g v) i = x := he
    obtain ⟨j, hj, h1, h2⟩ := h.sym v hv i hi
    unfold LinkOk at hl
    rw [he'] at hl hj h1 h2
    refine ⟨hl.1, hl.2.1, hl.2.2.1, ?_⟩
    have : lnk (at' g.2 x.1) j = ((v : Int), x.2) := Prod.ext h1 h2
    rw [← this]
    exact mem_of_at hj

theorem refConn39 (hV : VG g) : (Conn g → m_ref01_Connected 1000 g = some true) ∧ (¬ Conn g → m_ref01_Connected 1000 g = some false) := by
  have h1 := hV.n1
  have h24 := hV.n24
  obtain ⟨d, _, hD⟩ := distances_ok hV (s := 0) (by omega)
  have hdl := hD.len
  obtain ⟨r, er, h2, h3⟩ := refGreatest_ok d (by omega)
  have hci := conn_iff hV (s := 0) (by omega) hD
  unfold m_ref01_Connected
  rw [bindS (show m_ref01_Distances 1000 (g.1, g.2) 0 = some d from refDistances_eq hV (s := 0) (by omega) hD), bindS er]
  constructor
  · intro hc
    obtain ⟨_, h4, _⟩ := h3 (hci.2 hc)
    have h5 := h4 0 (by omega)
    have h6 := (hD.zero 0 (by omega)).2 rfl
    rw [decide_eq_true (by omega)]
  · intro hc
    have := h2 fun h => hc (hci.1 h)
    rw [decide_eq_false (by omega)]

theorem refOnly_ok (st : List Int) (x : Int) (hl : st.length ≤ 100) : OK (OnlyP st x) (m_ref39_only 1000 st x) := by
  unfold m_ref39_only
  refine iter_ok (fun s : Int × Int => ∃ k : Nat, s.2 = k ∧ k ≤ st.length ∧ ((s.1 = -1 ∧ ∀ b : Nat, b < k → at' st (b : Int) ≠ x) ∨ (∃ a : Nat, s.1 = a ∧ a < k ∧ at' st (a : Int) = x ∧ ∀ b : Nat, b < k → at' st (b : Int) = x → b = a))) (fun s => st.length - s.2.toNat) ?_ 1000 _ ⟨0, rfl, by omega, .inl ⟨rfl, fun b hb => by omega⟩⟩ (by dsimp only; omega)
  rintro ⟨r, k'⟩ ag ⟨k, hk, hkl, hc⟩ hrec
  dsimp only at hk hc
  subst hk
  unfold ref39_only_s1 ref39_only_k2 ref39_only_k1
  dsimp only
  by_cases hkn : (k : Int) < (st.length : Int)
  · rw [if_pos hkn, ckT (by omega), wr (by omega) (by omega)]
    by_cases hx : at' st (k : Int) = x
    · rw [if_pos hx]
      rcases hc with ⟨h1, h2⟩ | ⟨a, h1, h2, h3, h4⟩
      · rw [if_neg (by omega)]
        refine hrec _ ⟨k + 1, by simp, by omega, .inr ⟨k, rfl, by omega, hx, fun b hb he => ?_⟩⟩ (by dsimp only; omega)
        by_cases e : b = k
        · exact e
        · exact absurd he (h2 b (by omega))
      · rw [if_pos (by omega)]
        refine ⟨_, rfl, .inl ⟨rfl, fun ⟨q, h5, h6, h7⟩ => ?_⟩⟩
        have := h7 a (by omega) h3
        have := h7 k (by omega) hx
        omega
    · rw [if_neg hx]
      refine hrec _ ⟨k + 1, by simp, by omega, ?_⟩ (by dsimp only; omega)
      dsimp only
      rcases hc with ⟨h1, h2⟩ | ⟨a, h1, h2, h3, h4⟩
      · refine .inl ⟨h1, fun b hb => ?_⟩
        by_cases e : b = k
        · subst e; exact hx
        · exact h2 b (by omega)
      · refine .inr ⟨a, h1, by omega, h3, fun b hb he => ?_⟩
        by_cases e : b = k
        · subst e; exact absurd he hx
        · exact h4 b (by omega) he
  · rw [if_neg hkn]
    have hkk : k = st.length := by omega
    subst hkk
    rcases hc with ⟨h1, h2⟩ | ⟨a, h1, h2, h3, h4⟩
    · exact ⟨_, rfl, .inl ⟨h1, fun ⟨a, h3, h4, _⟩ => h2 a h3 h4⟩⟩
    · exact ⟨_, rfl, .inr ⟨a, h1, h2, h3, h4⟩⟩

theorem fit14 {v : Nat} {x : Int} (h : FitAt 1 g v x) : FitAt 4 g v x := by
  rw [FitAt, if_pos (.inl rfl)] at h
  rw [FitAt, if_pos (.inr rfl)]
  exact h

def HopP (g : GR) (st : List Int) (v : Nat) (r : Int) : Prop :=
  (∃ k : Nat, r = k ∧ k ≤ g.2.length ∧ at' st ((go g st k v : Nat) : Int) < 0 ∧ ∀ j, j < k → ¬ at' st ((go g st j v : Nat) : Int) < 0) ∨ (r = -1 ∧ ∀ k, k ≤ g.2.length → ¬ at' st ((go g st k v : Nat) : Int) < 0)

theorem hops_ok (hV : VG g) (hF : Fit 1 g st) {v : Nat} (hv : v < g.2.length) : OK (HopP g st v) (m_ref39_hops 1000 g st (v : Int)) := by
  have h24 := hV.n24
  have hst := hF.len
  unfold m_ref39_hops
  refine iter_ok (fun s : Int × Int => ∃ k : Nat, s = (((go g st k v : Nat) : Int), (k : Int)) ∧ k ≤ g.2.length + 1 ∧ ∀ j, j < k → ¬ at' st ((go g st j v : Nat) : Int) < 0) (fun s => g.2.length + 1 - s.2.toNat) ?_ 1000 _ ⟨0, rfl, by omega, fun j hj => by omega⟩ (by dsimp only; omega)
  rintro s ag ⟨k, rfl, hk, hj⟩ hrec
  unfold ref39_hops_s1
  dsimp only
  have hgr := go_rng hV hF.fit k v hv
  by_cases hkn : (k : Int) ≤ (st.length : Int)
  · rw [if_pos hkn, ckT (by omega)]
    by_cases hx : at' st ((go g st k v : Nat) : Int) < 0
    · rw [if_pos hx]
      exact ⟨_, rfl, .inl ⟨k, rfl, by omega, hx, hj⟩⟩
    · have hp := ptn_rng1 hV hgr (hF.fit _ hgr)
      rw [if_neg hx, bindS (refPartner_eq hst hgr (fit14 (hF.fit _ hgr))), wr (by omega) (by omega)]
      refine hrec _ ⟨k + 1, ?_, by omega, fun j hj2 => ?_⟩ (by dsimp only; omega)
      · rw [go_succ]
        have := hp.2.2.2 (by omega)
        congr 1
        omega
      · by_cases e : j = k
        · subst e; exact hx
        · exact hj j (by omega)
  · rw [if_neg hkn]
    exact ⟨_, rfl, .inr ⟨rfl, fun j hj2 => hj j (by omega)⟩⟩

theorem hop_steps (hV : VG g) (hF : Fit 1 g st) {r v : Nat} (hr : OnlyAt st (-1) r) (hv : v < g.2.length) {k : Nat} (h : at' st ((go g st k v : Nat) : Int) < 0 ∧ ∀ j, j < k → ¬ at' st ((go g st j v : Nat) : Int) < 0) : Steps g st r v k := by
  have hst := hF.len
  have key : ∀ j, at' st ((go g st j v : Nat) : Int) < 0 ↔ go g st j v = r := fun j => by
    have hgr := go_rng hV hF.fit j v hv
    have hft := hF.fit _ hgr
    rw [FitAt, if_pos (.inl rfl)] at hft
    constructor
    · intro h; exact hr.2.2 _ (by omega) (by omega)
    · intro h; rw [h]; have := hr.2.1; omega
  exact ⟨(key k).1 h.1, fun j hj he => h.2 j hj ((key j).2 he)⟩

/-! ## Holds -/
theorem refFits_eq (hV : VG g) {kind : Int} (hst : st.length = g.2.length) : ((∀ v : Nat, v < g.2.length → FitAt kind g v (at' st (v : Int))) → m_ref39_fits 1000 kind g st = some true) ∧ (¬ (∀ v : Nat, v < g.2.length → FitAt kind g v (at' st (v : Int))) → m_ref39_fits 1000 kind g st = some false) := by
  have h24 := hV.n24
  unfold m_ref39_fits
  rw [if_neg (by omega)]
  refine iter_if (step := ref39_fits_s1 1000 kind g st) (K := some true) (bad := false) g.2.length (fun v => FitAt kind g v (at' st (v : Int))) ?_ ?_ ?_ 1000 (by omega)
  · intro k ag hk hp
    unfold ref39_fits_s1
    have hd := (hV.node k hk).deg
    rw [if_pos (by omega), ckT (by omega), bindS ((fits_eq hk (by omega) kind _).1 hp), if_neg (by simp), wr (by omega) (by omega)]
  · intro k ag hk hp
    unfold ref39_fits_s1
    have hd := (hV.node k hk).deg
    rw [if_pos (by omega), ckT (by omega), bindS ((fits_eq hk (by omega) kind _).2 hp), if_pos (by rfl)]
  · intro ag
    unfold ref39_fits_s1
    rw [if_neg (by omega)]; rfl

theorem fits_eq2 (hV : VG g) {kind : Int} (hst : st.length = g.2.length) : ((∀ v : Nat, v < g.2.length → FitAt kind g v (at' st (v : Int))) → m_labels_fits 1000 kind g st = some true) ∧ (¬ (∀ v : Nat, v < g.2.length → FitAt kind g v (at' st (v : Int))) → m_labels_fits 1000 kind g st = some false) := by
  have h24 := hV.n24
  have hlen := hV.len
  unfold m_labels_fits
  rw [if_neg (by omega)]
  refine iter_if (step := labels_fits_s1 1000 kind g st) (K := some true) (bad := false) g.2.length (fun v => FitAt kind g v (at' st (v : Int))) ?_ ?_ ?_ 1000 (by omega)
  · intro k ag hk hp
    unfold labels_fits_s1
    rw [if_pos (by omega), ckT (by omega), bindS ((number_eq hk kind _).1 hp), if_neg (by simp), wr (by omega) (by omega)]
  · intro k ag hk hp
    unfold labels_fits_s1
    rw [if_pos (by omega), ckT (by omega), bindS ((number_eq hk kind _).2 hp), if_pos (by rfl)]
  · intro ag
    unfold labels_fits_s1
    rw [if_neg (by omega)]; rfl

theorem refHolds_spec (hV : VG g) (hC : Conn g) {kind : Int} (hF : Fit kind g st) : ∃ b, m_ref39_Holds 1000 kind g st = some b ∧ (b = true ↔ HoldsP kind g st) := by
  have hk := hF.k14
  have hM : VM g.1 g.2 := hV.vm
  have h1 := hV.n1
  have h24 := hV.n24
  have hst := hF.len
  unfold m_ref39_Holds
  rw [refIn_eq, decide_eq_true (by omega), bindS rfl, if_neg (by simp), bindS ((refConn39 hV).1 hC), if_neg (by simp), bindS ((refFits_eq hV hst).1 hF.fit)]
  unfold ref39_Holds_k1
  rw [if_neg (by simp)]
  obtain rfl | rfl | rfl | rfl : kind = 1 ∨ kind = 2 ∨ kind = 3 ∨ kind = 4 := by omega
  · rw [if_pos rfl]
    obtain ⟨r0, er, hr⟩ := refOnly_ok st (-1) (by omega)
    have k2 : ref39_Holds_k2 1000 st () = some (decide (0 ≤ r0)) := by
      unfold ref39_Holds_k2
      rw [bindS er]
    have key := iter_if (step := ref39_Holds_s1 1000 g st) (K := some (decide (0 ≤ r0))) (bad := false) g.2.length (fun v => ∃ k : Nat, k ≤ g.2.length ∧ at' st ((go g st k v : Nat) : Int) < 0) ?_ ?_ ?_ 1000 (by omega)
    · by_cases ha : ∀ v, v < g.2.length → ∃ k : Nat, k ≤ g.2.length ∧ at' st ((go g st k v : Nat) : Int) < 0
      · refine ⟨_, key.1 ha, ?_⟩
        rw [decide_eq_true_eq]
        constructor
        · intro h0
          rcases hr with ⟨h2, _⟩ | ⟨r, rfl, hr⟩
          · omega
          · refine ⟨r, hr, fun v hv => ?_⟩
            obtain ⟨k, _, hk2⟩ := ha v hv
            obtain ⟨q, hq⟩ := least (p := fun k => at' st ((go g st k v : Nat) : Int) < 0) ⟨k, hk2⟩
            exact ⟨q, (hop_steps hV hF hr hv hq).1⟩
        · rintro ⟨r, hT⟩
          rcases hr with ⟨_, hn⟩ | ⟨a, rfl, _⟩
          · exact absurd ⟨r, hT.root⟩ hn
          · omega
      · refine ⟨_, key.2 ha, ⟨fun h => (by cases h), fun ⟨r, hT⟩ => absurd (fun v hv => ?_) ha⟩⟩
        obtain ⟨k, hk2⟩ := hT.all v hv
        obtain ⟨q, hq⟩ := least (p := fun k => go g st k v = r) ⟨k, hk2⟩
        have := steps_lt hV hF.fit hv (show Steps g st r v q from hq)
        refine ⟨q, by omega, ?_⟩
        rw [hq.1]; have := hT.root.2.1; omega
    · intro v ag hv hp
      obtain ⟨r, eh, hh⟩ := hops_ok hV hF hv
      unfold ref39_Holds_s1
      rw [if_pos (by omega), bindS eh]
      rcases hh with ⟨k, rfl, _⟩ | ⟨_, hn⟩
      · rw [if_neg (by omega), wr (by omega) (by omega)]
      · obtain ⟨k, h2, h3⟩ := hp; exact absurd h3 (hn k h2)
    · intro v ag hv hp
      obtain ⟨r, eh, hh⟩ := hops_ok hV hF hv
      unfold ref39_Holds_s1
      rw [if_pos (by omega), bindS eh]
      rcases hh with ⟨k, _, h2, h3, _⟩ | ⟨rfl, _⟩
      · exact absurd ⟨k, h2, h3⟩ hp
      · rw [if_pos (by omega)]
    · intro ag
      unfold ref39_Holds_s1
      rw [if_neg (by omega), k2]
  · rw [if_neg (by decide), if_pos rfl]
    obtain ⟨r0, er, hr⟩ := refOnly_ok st 1 (by omega)
    rw [bindS er]
    refine ⟨_, rfl, ?_⟩
    rw [decide_eq_true_eq]
    rcases hr with ⟨h2, hn⟩ | ⟨a, rfl, ha⟩
    · exact ⟨fun h => by omega, fun h => absurd h hn⟩
    · exact ⟨fun _ => ⟨a, ha⟩, fun _ => by omega⟩
  · rw [if_neg (by decide), if_neg (by decide), if_pos rfl]
    obtain ⟨d, _, hD⟩ := distances_ok hV (s := 0) (by omega)
    have hdl := hD.len
    have hpos := conn_pos hV hC (s := 0) (by omega) hD
    rw [bindS (show m_ref01_Distances 1000 (g.1, g.2) 0 = some d from refDistances_eq hV (s := 0) (by omega) hD)]
    have inner : ∀ (v : Nat) (ag : Int → Option Bool), v < g.2.length →
        ((∀ i, i < (row g v).length → D d v % 2 ≠ at' d (lnk (row g v) i).1 % 2) → iter (ref39_Holds_s3 g d v ag) 1000 0 = ag ((v : Int) + 1)) ∧ (¬ (∀ i, i < (row g v).length → D d v % 2 ≠ at' d (lnk (row g v) i).1 % 2) → iter (ref39_Holds_s3 g d v ag) 1000 0 = some false) := by
      intro v ag hv
      have hdeg := (hV.node v hv).deg
      have e : (at' g.2 (v : Int)).length = (row g v).length := rfl
      have hltv := hD.lt hv
      have hpv := hpos v hv
      have q0 : at' d (v : Int) = D d v := rfl
      refine iter_if (row g v).length (fun i => D d v % 2 ≠ at' d (lnk (row g v) i).1 % 2) ?_ ?_ ?_ 1000 (by omega)
      · intro k ag2 hk hp
        obtain ⟨u, hu, hue⟩ := lnk_node hV hv hk
        have hltu := hD.lt hu
        have hpu := hpos u hu
        have q1 : at' d (u : Int) = D d u := rfl
        have q2 : (at' (at' g.2 (v : Int)) (k : Int)).1 = (u : Int) := hue
        rw [hue] at hp
        unfold ref39_Holds_s3
        rw [ckT (by omega), if_pos (by omega), ckT (by omega), ckT (by omega), ckT (by omega), q2, ckT (by omega), ckT (by decide), wr (x := at' d (v : Int) + at' d (u : Int)) (by omega) (by omega), Int.tmod_eq_emod_of_nonneg (by omega), wr (by omega) (by omega), if_neg (by omega)]
      · intro k ag2 hk hp
        obtain ⟨u, hu, hue⟩ := lnk_node hV hv hk
        have hltu := hD.lt hu
        have hpu := hpos u hu
        have q1 : at' d (u : Int) = D d u := rfl
        have q2 : (at' (at' g.2 (v : Int)) (k : Int)).1 = (u : Int) := hue
        rw [hue] at hp
        have hp' : D d v % 2 = at' d (u : Int) % 2 := Classical.byContradiction hp
        unfold ref39_Holds_s3
        rw [ckT (by omega), if_pos (by omega), ckT (by omega), ckT (by omega), ckT (by omega), q2, ckT (by omega), ckT (by decide), wr (x := at' d (v : Int) + at' d (u : Int)) (by omega) (by omega), Int.tmod_eq_emod_of_nonneg (by omega), if_pos (by omega)]
      · intro ag2
        unfold ref39_Holds_s3 ref39_Holds_k4
        rw [ckT (by omega), if_neg (by omega), wr (by omega) (by omega)]
    have outer := iter_if (step := ref39_Holds_s2 1000 g d) (K := some true) (bad := false) g.2.length (fun v => ∀ i, i < (row g v).length → D d v % 2 ≠ at' d (lnk (row g v) i).1 % 2) ?_ ?_ ?_ 1000 (by omega)
    · by_cases hs : Sides g d
      · exact ⟨_, outer.1 hs, ⟨fun _ e he => (by rw [Dist.unique hV (by omega) he hD]; exact hs), fun _ => rfl⟩⟩
      · exact ⟨_, outer.2 hs, ⟨fun h => (by cases h), fun h => absurd (h d hD) hs⟩⟩
    · intro k ag2 hk hp
      unfold ref39_Holds_s2
      rw [if_pos (by omega), (inner k ag2 hk).1 hp]
    · intro k ag2 hk hp
      unfold ref39_Holds_s2
      rw [if_pos (by omega), (inner k ag2 hk).2 hp]
    · intro ag2
      unfold ref39_Holds_s2
      rw [if_neg (by omega)]
      rfl
  · rw [if_neg (by decide), if_neg (by decide), if_neg (by decide)]
    have hrng : ∀ v : Nat, v < g.2.length → -1 ≤ ptn g st v ∧ ptn g st v ≤ (g.2.length : Int) - 1 := fun v hv => ptn_rng hM hv (hF.fit v hv)
    have hpair : (Mut g st → m_ref39_paired 1000 g st = some true) ∧ (¬ Mut g st → m_ref39_paired 1000 g st = some false) := by
      unfold m_ref39_paired
      refine iter_if (step := ref39_paired_s1 1000 g st) (K := some true) (bad := false) g.2.length (fun v => 0 ≤ ptn g st v → ptn g st (ptn g st v).toNat = v) ?_ ?_ ?_ 1000 (by omega)
      · intro k ag hk hp
        have hr := hrng k hk
        unfold ref39_paired_s1 ref39_paired_k2
        rw [if_pos (by omega), bindS (refPartner_eq hst hk (hF.fit k hk)), wr (by omega) (by omega)]
        by_cases h0 : 0 ≤ ptn g st k
        · rw [if_pos h0]
          obtain ⟨q, hq⟩ : ∃ q : Nat, ptn g st k = q := ⟨(ptn g st k).toNat, by omega⟩
          have hpq := hp h0
          rw [hq] at hr hpq ⊢
          have hpq' : ptn g st q = (k : Int) := hpq
          rw [bindS (refPartner_eq hst (by omega) (hF.fit q (by omega))), decide_eq_false (fun hne => hne hpq'), if_neg (by simp)]
        · rw [if_neg h0, if_neg (by simp)]
      · intro k ag hk hp
        have hr := hrng k hk
        unfold ref39_paired_s1 ref39_paired_k2
        have h0 : 0 ≤ ptn g st k := Classical.byContradiction fun h => hp fun h2 => absurd h2 h
        rw [if_pos (by omega), bindS (refPartner_eq hst hk (hF.fit k hk)), if_pos h0]
        obtain ⟨q, hq⟩ : ∃ q : Nat, ptn g st k = q := ⟨(ptn g st k).toNat, by omega⟩
        rw [hq] at hr hp ⊢
        have hpq' : ptn g st q ≠ (k : Int) := fun h => hp fun _ => h
        rw [bindS (refPartner_eq hst (by omega) (hF.fit q (by omega))), decide_eq_true hpq', if_pos rfl]
      · intro ag
        unfold ref39_paired_s1
        rw [if_neg (by omega)]; rfl
    by_cases hMu : Mut g st
    rotate_left
    · rw [bindS (hpair.2 hMu), if_pos (by rfl)]
      exact ⟨_, rfl, ⟨fun h => (by cases h), fun h => absurd h.1 hMu⟩⟩
    rw [bindS (hpair.1 hMu), if_neg (by simp)]
    obtain ⟨r, hr, hs⟩ := refCover_spec hM hst hF.fit
    rw [bindS hr]
    refine ⟨_, rfl, ?_⟩
    rcases hs with ⟨h2, h3⟩ | ⟨h2, h3⟩
    · rw [h2]; exact ⟨fun _ => ⟨hMu, by rw [h3]; simp⟩, fun _ => rfl⟩
    · rw [h2]; exact ⟨fun h => (by cases h), fun h => absurd h3 h.2⟩

/-! ## Prove -/
theorem refProve_list (hV : VG g) {kind : Int} (hst : st.length = g.2.length) (f : Nat → Int × Int)
    (hstep : ∀ (k : Nat) (l : List (Int × Int)) ag, k < g.2.length → l.length = k → ref39_Prove_s1 1000 kind g st (l, (k : Int)) ag = ag (l ++ [f k], (k : Int) + 1)) :
    iter (ref39_Prove_s1 1000 kind g st) 1000 ([], 0) = some ((List.range g.2.length).map f, 0) := by
  have h24 := hV.n24
  refine iter_eq (fun s : List (Int × Int) × Int => ∃ k : Nat, s.2 = k ∧ k ≤ g.2.length ∧ s.1 = (List.range k).map f) (fun s => g.2.length - s.2.toNat) ?_ 1000 _ ⟨0, rfl, by omega, rfl⟩ (by dsimp only; omega)
  rintro ⟨l, i⟩ ag ⟨k, hk, hk2, hl⟩ hrec
  dsimp only at hk hl
  subst hk
  by_cases hkn : k < g.2.length
  · rw [hstep k l ag hkn (by rw [hl]; simp)]
    refine hrec _ ⟨k + 1, by simp, by omega, ?_⟩ (by dsimp only; omega)
    rw [hl, List.range_succ, List.map_append]; rfl
  · unfold ref39_Prove_s1 ref39_Prove_k1
    dsimp only
    rw [if_neg (by omega)]
    have : k = g.2.length := by omega
    subst this
    rw [hl]

theorem LabP.det (hV : VG g) (hC : Conn g) {kind : Int} (hF : Fit kind g st) {l l' : List (Int × Int)} (h : LabP kind g st l) (h' : LabP kind g st l') : l = l' := by
  have hl := h.len
  have hl' := h'.len
  have h1 := hV.n1
  have hk := hF.k14
  have ext : (∀ v : Nat, v < g.2.length → at' l (v : Int) = at' l' (v : Int)) → l = l' := fun hh => by
    apply List.ext_getElem (by omega)
    intro i h1 h2
    rw [← at_get h1, ← at_get h2]
    exact hh i (by omega)
  refine ext fun v hv => ?_
  obtain rfl | rfl | rfl | rfl : kind = 1 ∨ kind = 2 ∨ kind = 3 ∨ kind = 4 := by omega
  · obtain ⟨r, hr, _, ha⟩ := h
    obtain ⟨r', hr', _, ha'⟩ := h'
    have : r = r' := hr'.root.2.2 r hr.root.1 hr.root.2.1
    subst this
    obtain ⟨k, e, hs⟩ := ha v hv
    obtain ⟨k', e', hs'⟩ := ha' v hv
    rw [e, e', hs.det hs']
  · obtain ⟨r, hr, _, d, hD, ha⟩ := h
    obtain ⟨r', hr', _, d', hD', ha'⟩ := h'
    have : r = r' := hr'.2.2 r hr.1 hr.2.1
    subst this
    have hrl := hr.1
    have hst := hF.len
    rw [ha v hv, ha' v hv, Dist.unique hV (by omega) hD hD']
  · obtain ⟨d, hD, _, _, ha⟩ := h
    obtain ⟨d', hD', _, _, ha'⟩ := h'
    rw [ha v hv, ha' v hv, Dist.unique hV (by omega) hD hD']
  · obtain ⟨_, xs, e, _, ha⟩ := h
    obtain ⟨_, xs', e', _, ha'⟩ := h'
    rw [e] at e'
    obtain rfl := Option.some.inj e'
    rw [ha v hv, ha' v hv]

theorem refProve_spec (hV : VG g) (hC : Conn g) {kind : Int} (hF : Fit kind g st) : (HoldsP kind g st → ∃ l, m_ref39_Prove 1000 kind g st = some (l, 0) ∧ LabP kind g st l) ∧ (¬ HoldsP kind g st → m_ref39_Prove 1000 kind g st = some ([], 7)) := by
  have hk := hF.k14
  have hM : VM g.1 g.2 := hV.vm
  have h1 := hV.n1
  have h24 := hV.n24
  have hlen := hV.len
  have hst := hF.len
  obtain ⟨b, hb, hbi⟩ := refHolds_spec hV hC hF
  unfold m_ref39_Prove
  rw [bindS ((refConn39 hV).1 hC), if_neg (by simp), refIn_eq, decide_eq_true (by omega), bindS rfl, if_neg (by simp), bindS hb]
  constructor
  rotate_left
  · intro hn
    have : b = false := by
      cases b with
      | false => rfl
      | true => exact absurd (hbi.1 rfl) hn
    subst this
    rw [if_pos (by rfl)]
  intro hH
  rw [hbi.2 hH, if_neg (by simp)]
  obtain rfl | rfl | rfl | rfl : kind = 1 ∨ kind = 2 ∨ kind = 3 ∨ kind = 4 := by omega
  · obtain ⟨r, hT⟩ := hH
    obtain ⟨r0, er, hr⟩ := refOnly_ok st (-1) (by omega)
    obtain rfl : r0 = (r : Int) := hr.det (.inr ⟨r, rfl, hT.root⟩)
    have hrl := hT.root.1
    have hop : ∀ v, v < g.2.length → ∃ k : Nat, m_ref39_hops 1000 g st (v : Int) = some (k : Int) ∧ Steps g st r v k := by
      intro v hv
      obtain ⟨q, eh, hh⟩ := hops_ok hV hF hv
      rcases hh with ⟨k, rfl, _, h3, h4⟩ | ⟨_, hn⟩
      · exact ⟨k, eh, hop_steps hV hF hT.root hv ⟨h3, h4⟩⟩
      · exfalso
        obtain ⟨q, hq⟩ := least (hT.all v hv)
        have := steps_lt hV hF.fit hv (show Steps g st r v q from hq)
        refine hn q (by omega) ?_
        rw [hq.1]; have := hT.root.2.1; omega
    let f : Nat → Int × Int := fun v => (at' g.1 (r : Int), (m_ref39_hops 1000 g st (v : Int)).getD 0)
    refine ⟨_, refProve_list hV hst f ?_, r, hT, by simp, fun v hv => ?_⟩
    · intro k l ag hk hl
      obtain ⟨q, hq, _⟩ := hop k hk
      unfold ref39_Prove_s1 ref39_Prove_k2
      dsimp only
      rw [if_pos (by omega), if_pos rfl, bindS er, ckT (by omega), bindS hq, ckT (by simp; omega), wr (by omega) (by omega)]
      have : f k = (at' g.1 (r : Int), (q : Int)) := by show (_, (m_ref39_hops 1000 g st (k : Int)).getD 0) = _; rw [hq]; rfl
      rw [this]
    · obtain ⟨q, hq, hs⟩ := hop v hv
      refine ⟨q, ?_, hs⟩
      rw [at_map _ hv]
      show (_, (m_ref39_hops 1000 g st (v : Int)).getD 0) = _
      rw [hq]; rfl
  · obtain ⟨a, ha⟩ := hH
    obtain ⟨r0, er, hr⟩ := refOnly_ok st 1 (by omega)
    obtain rfl : r0 = (a : Int) := hr.det (.inr ⟨a, rfl, ha⟩)
    have hal := ha.1
    obtain ⟨d, _, hD⟩ := distances_ok hV (s := a) (by omega)
    have hdl := hD.len
    refine ⟨_, refProve_list hV hst (fun v => (at' g.1 (a : Int), at' d (v : Int))) ?_, a, ha, by simp, d, hD, fun v hv => at_map _ hv⟩
    intro k l ag hk hl
    unfold ref39_Prove_s1 ref39_Prove_k2
    dsimp only
    rw [if_pos (by omega), if_neg (by decide), if_pos rfl, bindS er, ckT (by omega), bindS (refDistances_eq hV (s := a) (by omega) hD), ckT (by omega), ckT (by simp; omega), wr (by omega) (by omega)]
  · obtain ⟨d, _, hD⟩ := distances_ok hV (s := 0) (by omega)
    have hdl := hD.len
    have hpos := conn_pos hV hC (s := 0) (by omega) hD
    refine ⟨_, refProve_list hV hst (fun v => (D d v % 2, 0)) ?_, d, hD, hH d hD, by simp, fun v hv => at_map _ hv⟩
    intro k l ag hk hl
    unfold ref39_Prove_s1 ref39_Prove_k2
    dsimp only
    rw [if_pos (by omega), if_neg (by decide), if_neg (by decide), if_pos rfl, bindS (show m_ref01_Distances 1000 (g.1, g.2) 0 = some d from refDistances_eq hV (s := 0) (by omega) hD), ckT (by omega), ckT (by decide), ckT (by simp; omega), wr (by omega) (by omega), Int.tmod_eq_emod_of_nonneg (hpos k hk)]
  · obtain ⟨hMu, hg⟩ := hH
    obtain ⟨r, hr, hs⟩ := refCover_spec hM hst hF.fit
    have hP := prt_of hM hF.fit
    rcases hs with ⟨h2, h3⟩ | ⟨h2, h3⟩
    rotate_left
    · exact absurd h3 hg
    obtain ⟨hcl, _⟩ := gr_ok hM hP _ _ (Nat.le_refl _) h3
    have hxl := hcl.inv.len
    refine ⟨_, refProve_list hV hst (fun v => (at' r.1 (v : Int), 0)) ?_, hMu, r.1, h3, by simp, fun v hv => at_map _ hv⟩
    intro k l ag hk hl
    unfold ref39_Prove_s1 ref39_Prove_k2
    dsimp only
    rw [if_pos (by omega), if_neg (by decide), if_neg (by decide), if_neg (by decide), bindS hr, ckT (by omega), ckT (by simp; omega), wr (by omega) (by omega)]

theorem same_refl39 (l : List (Int × Int)) (h : l.length ≤ 30) : m_law39_same 1000 l l = some true := by
  unfold m_law39_same
  rw [if_neg (by simp)]
  refine iter_eq (fun s : Int => ∃ k : Nat, s = k ∧ k ≤ l.length) (fun s => l.length - s.toNat) ?_ 1000 _ ⟨0, rfl, by omega⟩ (by omega)
  rintro s ag ⟨k, rfl, hk⟩ hrec
  unfold law39_same_s1
  by_cases hkn : (k : Int) < (l.length : Int)
  · rw [if_pos hkn, ckT (by omega), ckT (by omega), if_neg (by simp), wr (by omega) (by omega)]
    exact hrec _ ⟨k + 1, by simp, by omega⟩ (by omega)
  · rw [if_neg hkn]; rfl
end
theorem pure_LabelsHold (kind : Int) (g : GR) (st : List Int) : m_law39_LabelsHold 1000 kind g st = some true := by
  unfold m_law39_LabelsHold
  have hlarge : ∃ b, m_law39_large 1000 g (st.length : Int) = some b ∧ (b = false → g.1.length ≤ 60 ∧ g.2.length ≤ 60 ∧ st.length ≤ 100) := by
    unfold m_law39_large law39_large_k1
    by_cases h1 : (60 : Int) < (g.2.length : Int)
    · rw [if_pos h1]; exact ⟨true, rfl, fun h => by cases h⟩
    · rw [if_neg h1]
      by_cases h2 : (60 : Int) < (g.1.length : Int)
      · rw [if_pos h2]; exact ⟨true, rfl, fun h => by cases h⟩
      · rw [if_neg h2]
        refine ⟨_, rfl, fun h => ?_⟩
        have := of_decide_eq_false h
        omega
  obtain ⟨b, hb, hbs⟩ := hlarge
  rw [bindS hb]
  cases b with
  | true => rw [if_pos rfl, bindS known_eq]
  | false =>
    obtain ⟨s1, s2, s3⟩ := hbs rfl
    rw [if_neg (by simp)]
    -- both answer alike
    have fin : ∀ (l : List (Int × Int)) (e : Int) (x : Bool), l.length ≤ 30 → m_labels_Prove 1000 kind g st = some (l, e) → m_ref39_Prove 1000 kind g st = some (l, e) → m_labels_Holds 1000 kind g st = some x → m_ref39_Holds 1000 kind g st = some x →
        (Option.bind (m_labels_Prove 1000 kind g st) fun r9 => (Option.bind (m_ref39_Prove 1000 kind ((g.1, g.2)) st) fun r12 => (Option.bind (m_law39_known 1000 ) fun r18 => (if r18 = true then (Option.bind (m_labels_Holds 1000 kind ((g.1, g.2)) st) fun r22 => (Option.bind (m_ref39_Holds 1000 kind ((g.1, g.2)) st) fun r25 => (if (r22 == r25) = true then (if r9.2 = r12.2 then (Option.bind (m_law39_same 1000 r9.1 r12.1) fun r30 => (law39_LabelsHold_k1  (r30))) else (law39_LabelsHold_k1  (false))) else (law39_LabelsHold_k1  (false))))) else (law39_LabelsHold_k1  (false)))))) = some true := by
      intro l e x hl h1 h2 h3 h4
      rw [bindS h1, bindS h2, bindS known_eq, if_pos rfl, bindS h3, bindS h4, if_pos (by simp), if_pos rfl, bindS (same_refl39 l hl)]
      rfl
    by_cases hV : VG g
    rotate_left
    · -- no graph
      have c1 : m_graph_Connected 1000 g = some false := by
        unfold m_graph_Connected
        rw [bindS ((valid_gen g).2 hV), if_pos (by rfl)]
      have c2 : m_ref01_Connected 1000 g = some false := by
        unfold m_ref01_Connected
        have : m_ref01_Distances 1000 (g.1, g.2) 0 = some [] := by
          unfold m_ref01_Distances
          rw [bindS ((refValid_gen g).2 hV), if_pos (by rfl)]
          rfl
        rw [bindS this]
        rfl
      have p1 : m_labels_Prove 1000 kind g st = some ([], 1) := by
        unfold m_labels_Prove
        rw [bindS c1, if_pos (by rfl)]
      have p2 : m_ref39_Prove 1000 kind g st = some ([], 1) := by
        unfold m_ref39_Prove
        rw [bindS c2, if_pos (by rfl)]
      refine fin [] 1 false (by simp) p1 p2 ?_ ?_
      · unfold m_labels_Holds; rw [bindS p1]; rfl
      · unfold m_ref39_Holds
        rw [refIn_eq, bindS rfl]
        by_cases hk : 1 ≤ kind ∧ kind ≤ 4
        · rw [decide_eq_true hk, if_neg (by simp), bindS c2, if_pos (by rfl)]; rfl
        · rw [decide_eq_false hk]; rfl
    have hlen := hV.len
    by_cases hC : Conn g
    rotate_left
    · have c1 := (connected_eq hV).2 hC
      have c2 := (refConn39 hV).2 hC
      have p1 : m_labels_Prove 1000 kind g st = some ([], 1) := by
        unfold m_labels_Prove
        rw [bindS c1, if_pos (by rfl)]
      have p2 : m_ref39_Prove 1000 kind g st = some ([], 1) := by
        unfold m_ref39_Prove
        rw [bindS c2, if_pos (by rfl)]
      refine fin [] 1 false (by simp) p1 p2 ?_ ?_
      · unfold m_labels_Holds; rw [bindS p1]; rfl
      · unfold m_ref39_Holds
        rw [refIn_eq, bindS rfl]
        by_cases hk : 1 ≤ kind ∧ kind ≤ 4
        · rw [decide_eq_true hk, if_neg (by simp), bindS c2, if_pos (by rfl)]; rfl
        · rw [decide_eq_false hk]; rfl
    have c1 := (connected_eq hV).1 hC
    have c2 := (refConn39 hV).1 hC
    by_cases hk : 1 ≤ kind ∧ kind ≤ 4
    rotate_left
    · have p1 : m_labels_Prove 1000 kind g st = some ([], 2) := by
        unfold m_labels_Prove
        have : m_labels_known 1000 kind = some false := by
          unfold m_labels_known labels_known_k1
          by_cases h1 : 1 ≤ kind
          · rw [if_pos h1, decide_eq_false (fun h => hk ⟨h1, h⟩)]
          · rw [if_neg h1]
        rw [bindS c1, if_neg (by simp), bindS this, if_pos (by rfl)]
      have p2 : m_ref39_Prove 1000 kind g st = some ([], 2) := by
        unfold m_ref39_Prove
        rw [bindS c2, if_neg (by simp), refIn_eq, decide_eq_false hk]
        rfl
      refine fin [] 2 false (by simp) p1 p2 ?_ ?_
      · unfold m_labels_Holds; rw [bindS p1]; rfl
      · unfold m_ref39_Holds
        rw [refIn_eq, decide_eq_false hk]; rfl
    have hkn : m_labels_known 1000 kind = some true := by
      unfold m_labels_known labels_known_k1
      rw [if_pos hk.1, decide_eq_true hk.2]
    by_cases hF : Fit kind g st
    rotate_left
    · have f1 : m_labels_fits 1000 kind g st = some false := by
        by_cases hs : st.length = g.2.length
        · exact (fits_eq2 hV hs).2 fun h => hF ⟨hk, hs, h⟩
        · unfold m_labels_fits; rw [if_pos (by omega)]
      have f2 : m_ref39_fits 1000 kind g st = some false := by
        by_cases hs : st.length = g.2.length
        · exact (refFits_eq hV hs).2 fun h => hF ⟨hk, hs, h⟩
        · unfold m_ref39_fits; rw [if_pos (by omega)]
      have q2 : m_ref39_Holds 1000 kind g st = some false := by
        unfold m_ref39_Holds
        rw [refIn_eq, decide_eq_true hk, bindS rfl, if_neg (by simp), bindS c2, if_neg (by simp), bindS f2]; rfl
      have p1 : m_labels_Prove 1000 kind g st = some ([], 7) := by
        unfold m_labels_Prove
        rw [bindS c1, if_neg (by simp), bindS hkn, if_neg (by simp), bindS f1, if_pos (by rfl)]
      have p2 : m_ref39_Prove 1000 kind g st = some ([], 7) := by
        unfold m_ref39_Prove
        rw [bindS c2, if_neg (by simp), refIn_eq, decide_eq_true hk, bindS rfl, if_neg (by simp), bindS q2]; rfl
      refine fin [] 7 false (by simp) p1 p2 ?_ q2
      unfold m_labels_Holds; rw [bindS p1]; rfl
    obtain ⟨⟨l, e⟩, hp, hq⟩ := prove_spec hV.vm hC hF
    obtain ⟨x, hx, hxi⟩ := holds_spec hV.vm hC hF
    obtain ⟨y, hy, hyi⟩ := refHolds_spec hV hC hF
    have hxy : x = y := by rw [Bool.eq_iff_iff, hxi, hyi]
    subst hxy
    obtain ⟨r1, r2⟩ := refProve_spec hV hC hF
    rcases hq with ⟨h1, h2, h3⟩ | ⟨h1, h2⟩
    · dsimp only at h1 h3
      subst h1
      obtain ⟨l', hl', h3'⟩ := r1 h2
      have := LabP.det hV hC hF h3 h3'
      subst this
      have h24 := hV.n24
      exact fin l 0 x (by have := h3.len; omega) hp hl' hx hy
    · obtain ⟨rfl, rfl⟩ := Prod.mk.inj h1
      exact fin [] 7 x (by simp) hp (r2 h2) hx hy
end Go.Proofs.Ytmajgimhmfeliaa
end
