/- ComposeValid returns true for every input, and leaves its arguments as they were. Conditions: none. -/
import Derived.Test.YtdbcpliafeoghaaGreatZCVa1
import Derived.Test.YtdbcpliafeoghaaGreatZCVa2
import Derived.Test.YtdbcpliafeoghaaGreatZCVa3
import Derived.Test.YtdbcpliafeoghaaGreatZCVa4
namespace Go.Proofs.YtdbcpliafeoghaaGreat
open Go.Sx Go.RowKit Go.ChangeShapes Go.WideShapes Go.ChangeAt Go.Joins

set_option maxHeartbeats 4000000 in
set_option maxRecDepth 100000 in
theorem composeValid_lifted (os : Os) (started : os.Started) (H : Type) (enc : TypeId × Value → H) :
    ReturnsInHanded {} Tryz.pinned.checked os 3 .any (Rows.composeValidSpec.pre6 enc Tryz.prog Tryz.f3 [] false) (Rows.composeValidSpec.post enc Tryz.prog Tryz.f3 false Rows.composeValidRow.fresh false false) := by
  refine law_lifted started Tryz.func3 (by kernel_rfl) (by kernel_rfl) rfl rfl ?_ (ChangeSpec.witness6 (C := Tryz.pinned.checked) false ⟨#[], #[.int .i64 0, .int .i64 0], []⟩ 8 (by kernel_rfl) (by kernel_rfl) (by kernel_rfl) (by kernel_rfl)) ?_
  · intro ds hlen
    match ds, hlen with
    | [d1, d2], _ => rfl
  · intro W base args ds p hval hA
    rw [Tryz.params3] at hA hval
    obtain ⟨v0, vs0, d0, ds0, p0, q0, hargs0, rfl, rfl, h0, r0⟩ := trodAll_cons hA
    obtain ⟨v1, vs1, d1, ds1, p1, q1, hargs1, rfl, rfl, h1, r1⟩ := trodAll_cons r0
    obtain ⟨rfl, rfl, rfl⟩ := trodAll_nil r1
    obtain rfl : args = #[v0, v1] := by cases args; simp_all
    obtain ⟨a0, rfl, rfl, rfl, w0⟩ := open_int Tryz.underlying3 (hval 0 3 v0 rfl rfl) h0
    obtain ⟨a1, rfl, rfl, rfl, w1⟩ := open_int Tryz.underlying3 (hval 1 3 v1 rfl rfl) h1
    exact calls_of_meets (t_law33_ComposeValid (p0 := a0) (p1 := a1) 1000  true (composeValid_pure a0 a1)) (fun g hg => by simp at hg)

theorem composeValid_holds : Rows.ComposeValidSaid :=
  OpenClaim.holds_of_wide 3 Tryz.f3 rfl rfl rfl rfl rfl rfl rfl ⟨rfl, rfl, rfl, rfl, rfl⟩ rfl rfl rfl rfl rfl (by kernel_rfl) Tryz.func3 (by kernel_rfl)
    (of_decide_eq_true (by kernel_rfl)) (by unfold Func.isWrapper; first | (rw [if_pos (by decide +kernel)]; kernel_rfl) | (rw [if_neg (by decide +kernel)]; exact ⟨rfl, rfl⟩))
    (fun os started H enc _ => composeValid_lifted os started H enc)
end Go.Proofs.YtdbcpliafeoghaaGreat
