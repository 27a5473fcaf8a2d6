/- The model of selfstabmade.Mod and the proof that the function meets it, by program (gen/xt.py). Conditions: none. -/
import Derived.Test.YtemhmmcakmidkaaXp
namespace Go.Proofs.Ytemhmmcakmidkaa
open Go.Sx
set_option linter.unusedVariables false
set_option linter.unusedSimpArgs false

def made_Mod_k1  (a3 : Int) : Option (Int) :=
  some (a3)
def m_made_Mod (fuel : Nat) (p0 : Int) (p1 : Int) : Option (Int) :=
  ck (p1 ≠ 0) (if (Int.tmod p0 p1) < (0 : Int) then (made_Mod_k1  (wI .i64 ((Int.tmod p0 p1) + p1))) else (made_Mod_k1  (Int.tmod p0 p1)))

theorem body34 : HasBody Try.prog 34 := Try.call34

set_option maxHeartbeats 4000000 in
set_option maxRecDepth 20000 in
theorem t_made_Mod (fuel : Nat) {p0 : Int} {p1 : Int} (r : Int) (h : m_made_Mod fuel p0 p1 = some r) :
    Meets Try.prog 34 #[Value.int .i64 (p0), Value.int .i64 (p1)] [] (fun x : Unit => Value.int .i64 (r)) (fun x l => l) (fun _ l => l) := by
  refine Meets.of (vs := [Value.int .i64 (p0), Value.int .i64 (p1)]) Try.func34 rfl Try.ntmps34 rfl fun c => ?_
  unfold m_made_Mod at h
  refine J.seq ?_
  refine J.region ?_
  refine J.quiet (Y.assign rfl) rfl ?_
  refine J.done ?_
  refine J.thenN ?_
  refine J.seq ?_
  refine J.region ?_
  refine J.quiet (Y.move rfl) rfl ?_
  refine J.quiet (Y.move rfl) rfl ?_
  replace h := ck_some h; obtain ⟨hc1, h⟩ := h
  refine J.quiet (Y.rem rfl rfl hc1) rfl ?_
  refine J.quiet (Y.assign rfl) rfl ?_
  refine J.done ?_
  refine J.thenN ?_
  refine J.seq ?_
  refine J.midI (A := Int) (B := Unit) (fun a3 => made_Mod_k1  a3 = some r) (fun a3 b4 => [(5, Value.int .i64 (a3))]) (fun a3 b4 => []) (fun a3 b4 => []) ?_ ?_
  · refine J.seq ?_
    refine J.region ?_
    refine J.quiet (Y.move rfl) rfl ?_
    refine J.quiet (Y.lss rfl rfl) rfl ?_
    refine J.done ?_
    refine J.thenN ?_
    refine J.condD (by exact rfl) (fun hp5 => ?_) (fun hp5 => ?_)
    · replace h := ifP hp5 h
      refine J.region ?_
      refine J.quiet (Y.move rfl) rfl ?_
      refine J.quiet (Y.move rfl) rfl ?_
      refine J.quiet (Y.addW rfl rfl) rfl ?_
      refine J.quiet (Y.assign rfl) rfl ?_
      refine J.done ?_
      refine J.thenN ?_
      exact J.meetI (wI .i64 ((Int.tmod p0 p1) + p1)) (()) h (by repeat (first | exact SubF.nil | refine SubF.cons rfl ?_)) (SubM.refl _) (LentAll.refl _ _)
    · replace h := ifN hp5 h
      refine J.skip ?_
      refine J.thenN ?_
      exact J.meetI (Int.tmod p0 p1) (()) h (by repeat (first | exact SubF.nil | refine SubF.cons rfl ?_)) (SubM.refl _) (LentAll.refl _ _)
  · clear h
    intro a3 b4 h
    unfold made_Mod_k1 at h
    refine J.seq ?_
    refine J.region ?_
    refine J.quiet (Y.move rfl) rfl ?_
    refine J.quiet (Y.assign rfl) rfl ?_
    refine J.done ?_
    refine J.thenN ?_
    refine J.ret ?_
    obtain rfl := Option.some.inj h
    exact J.retG1 (()) rfl rfl (RV.tmp rfl) (SubM.refl _) LentAll.nil

end Go.Proofs.Ytemhmmcakmidkaa
