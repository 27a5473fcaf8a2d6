/- LabelsHold returns true for every input, and leaves its arguments as they were. Conditions: none. -/
import Derived.Test.YtmajgimhmfeliaaZLHo4
namespace Go.Proofs.Ytmajgimhmfeliaa
open Go.Sx Go.RowKit Go.ChangeShapes Go.WideShapes Go.ChangeAt Go.Joins

set_option maxHeartbeats 4000000 in
set_option maxRecDepth 100000 in
theorem labelsHold_lifted (os : Os) (started : os.Started) (H : Type) (enc : TypeId × Value → H) :
    ReturnsInHanded {} Try.pinned.checked os 4 .any (Rows.labelsHoldSpec.pre6 enc Try.prog Try.f4 [] false) (Rows.labelsHoldSpec.post enc Try.prog Try.f4 false Rows.labelsHoldRow.fresh false false) := by
  refine law_lifted started Try.func4 (by kernel_rfl) (by kernel_rfl) rfl rfl ?_ (ChangeSpec.witness6 (C := Try.pinned.checked) false ⟨#[], #[.int .i64 0, .agg #[.slice none 0 0, .slice none 0 0], .slice none 0 0], []⟩ 8 (by kernel_rfl) (by kernel_rfl) (by kernel_rfl) (by kernel_rfl)) ?_
  · intro ds hlen
    match ds, hlen with
    | [d1, d2, d3], _ => rfl
  · intro W base args ds p hval hA
    rw [Try.params4] at hA hval
    obtain ⟨v0, vs0, d0, ds0, p0, q0, hargs0, rfl, rfl, h0, r0⟩ := trodAll_cons hA
    obtain ⟨v1, vs1, d1, ds1, p1, q1, hargs1, rfl, rfl, h1, r1⟩ := trodAll_cons r0
    obtain ⟨v2, vs2, d2, ds2, p2, q2, hargs2, rfl, rfl, h2, r2⟩ := trodAll_cons r1
    obtain ⟨rfl, rfl, rfl⟩ := trodAll_nil r2
    obtain rfl : args = #[v0, v1, v2] := by cases args; simp_all
    obtain ⟨a0, rfl, rfl, rfl, w0⟩ := open_int Try.underlying3 (hval 0 3 v0 rfl rfl) h0
    obtain ⟨c1, e1, ids1, ps1, rfl, f1, g1⟩ := open_graph (hval 1 29 v1 rfl rfl) h1
    obtain ⟨xs2, f2⟩ := open_intList (hval 2 22 v2 rfl rfl) h2
    exact calls_of_meets (t_law39_LabelsHold (p0 := a0) (p1 := (ids1, ps1.map (fun z => z.2))) (p2 := xs2) 1000 c1 e1 ps1 v2 true (pure_LabelsHold a0 (ids1, ps1.map (fun z => z.2)) xs2)) (fun g hg => by
      simp only [List.mem_cons, List.not_mem_nil, or_false] at hg
      rcases hg with rfl | rfl | rfl
      · exact f1
      · exact ⟨g1, rfl⟩
      · exact f2
)

theorem labelsHold_holds : Rows.LabelsHoldSaid :=
  OpenClaim.holds_of_wide 4 Try.f4 rfl rfl rfl rfl rfl rfl rfl ⟨rfl, rfl, rfl, rfl, rfl⟩ rfl rfl rfl rfl rfl (by kernel_rfl) Try.func4 (by kernel_rfl)
    (of_decide_eq_true (by kernel_rfl)) (by unfold Func.isWrapper; first | (rw [if_pos (by decide +kernel)]; kernel_rfl) | (rw [if_neg (by decide +kernel)]; exact ⟨rfl, rfl⟩))
    (fun os started H enc _ => labelsHold_lifted os started H enc)
end Go.Proofs.Ytmajgimhmfeliaa
