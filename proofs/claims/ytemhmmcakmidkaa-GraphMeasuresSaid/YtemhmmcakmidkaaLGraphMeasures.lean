/- GraphMeasures returns true for every input, and leaves its arguments as they were. Conditions: none. -/
import Derived.Test.YtemhmmcakmidkaaMm
namespace Go.Proofs.Ytemhmmcakmidkaa
open Go.Sx Go.RowKit Go.ChangeShapes Go.WideShapes Go.ChangeAt Go.Joins

set_option maxRecDepth 100000 in
theorem graphMeasures_lifted (os : Os) (started : os.Started) (H : Type) (enc : TypeId × Value → H) :
    ReturnsInHanded {} Try.pinned.checked os 12 .any (Rows.graphMeasuresSpec.pre6 enc Try.prog Try.f12 [] false) (Rows.graphMeasuresSpec.post enc Try.prog Try.f12 false Rows.graphMeasuresRow.fresh false false) := by
  refine law_lifted started Try.func12 (by kernel_rfl) (by kernel_rfl) rfl rfl ?_ (ChangeSpec.witness6 (C := Try.pinned.checked) false ⟨#[], #[.agg #[.slice none 0 0, .slice none 0 0], .int .i64 0], []⟩ 8 (by kernel_rfl) (by kernel_rfl) (by kernel_rfl) (by kernel_rfl)) ?_
  · intro ds hlen
    match ds, hlen with
    | [d1, d2], _ => rfl
  · intro W base args ds p hval hA
    rw [Try.params12] at hA hval
    obtain ⟨v0, vs0, d0, ds0, p0, q0, hargs0, rfl, rfl, h0, r0⟩ := trodAll_cons hA
    obtain ⟨v1, vs1, d1, ds1, p1, q1, hargs1, rfl, rfl, h1, r1⟩ := trodAll_cons r0
    obtain ⟨rfl, rfl, rfl⟩ := trodAll_nil r1
    obtain rfl : args = #[v0, v1] := by cases args; simp_all
    obtain ⟨c0, e0, ids0, ps0, rfl, f0, g0⟩ := open_graph (hval 0 26 v0 rfl rfl) h0
    obtain ⟨a1, rfl, rfl, rfl, w1⟩ := open_int Try.underlying3 (hval 1 3 v1 rfl rfl) h1
    exact calls_of_meets (t_law01_GraphMeasures 1000 c0 e0 ps0 true (measures_pure (ids0, ps0.map (fun z => z.2)) a1)) (fun g hg => by
      simp only [List.mem_cons, List.not_mem_nil, or_false] at hg
      rcases hg with rfl | rfl
      · exact f0
      · exact ⟨g0, rfl⟩
)

theorem graphMeasures_holds : Rows.GraphMeasuresSaid :=
  OpenClaim.holds_of_wide 12 Try.f12 rfl rfl rfl rfl rfl rfl rfl ⟨rfl, rfl, rfl, rfl, rfl⟩ rfl rfl rfl rfl rfl (by kernel_rfl) Try.func12 (by kernel_rfl)
    (of_decide_eq_true (by kernel_rfl)) (by unfold Func.isWrapper; first | (rw [if_pos (by decide +kernel)]; kernel_rfl) | (rw [if_neg (by decide +kernel)]; exact ⟨rfl, rfl⟩))
    (fun os started H enc _ => graphMeasures_lifted os started H enc)
end Go.Proofs.Ytemhmmcakmidkaa
