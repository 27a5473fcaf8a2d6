/- LabelsWhole returns true for every input, and leaves its arguments as they were. Conditions: none. -/
import Derived.Test.YtmajgimhmfeliaaZLWh7
namespace Go.Proofs.Ytmajgimhmfeliaa
open Go.Sx Go.RowKit Go.ChangeShapes Go.WideShapes Go.ChangeAt Go.Joins

set_option maxHeartbeats 4000000 in
set_option maxRecDepth 100000 in
theorem labelsWhole_lifted (os : Os) (started : os.Started) (H : Type) (enc : TypeId × Value → H) :
    ReturnsInHanded {} Try.pinned.checked os 9 .any (Rows.labelsWholeSpec.pre6 enc Try.prog Try.f9 [] false) (Rows.labelsWholeSpec.post enc Try.prog Try.f9 false Rows.labelsWholeRow.fresh false false) := by
  refine law_lifted started Try.func9 (by kernel_rfl) (by kernel_rfl) rfl rfl ?_ (ChangeSpec.witness6 (C := Try.pinned.checked) false ⟨#[], #[.agg #[.int .i64 0, .slice none 0 0, .slice none 0 0, .slice none 0 0, .bool false, .bool false], .agg #[.int .i64 0, .slice none 0 0, .slice none 0 0]], []⟩ 8 (by kernel_rfl) (by kernel_rfl) (by kernel_rfl) (by kernel_rfl)) ?_
  · intro ds hlen
    match ds, hlen with
    | [d1, d2], _ => rfl
  · intro W base args ds p hval hA
    rw [Try.params9] at hA hval
    obtain ⟨v0, vs0, d0, ds0, p0, q0, hargs0, rfl, rfl, h0, r0⟩ := trodAll_cons hA
    obtain ⟨v1, vs1, d1, ds1, p1, q1, hargs1, rfl, rfl, h1, r1⟩ := trodAll_cons r0
    obtain ⟨rfl, rfl, rfl⟩ := trodAll_nil r1
    obtain rfl : args = #[v0, v1] := by cases args; simp_all
    obtain ⟨V0, Y0, n0, E0, H0⟩ := open_agg Try.underlying24 (by kernel_rfl) (by kernel_rfl) (hval 0 24 v0 rfl rfl) h0
    obtain ⟨a0_0, e0_0⟩ := leaf_int Try.underlying3 (H0 0 _ rfl)
    obtain ⟨xs0_1, f0_1⟩ := sl_of_trod (Rep.int .i64) Try.underlying22 (by kernel_rfl) (el_int Try.underlying3) (H0 1 _ rfl)
    obtain ⟨xs0_2, f0_2⟩ := sl_of_trod (Rep.int .i64) Try.underlying22 (by kernel_rfl) (el_int Try.underlying3) (H0 2 _ rfl)
    obtain ⟨xs0_3, f0_3⟩ := sl_of_trod (Rep.int .i64) Try.underlying22 (by kernel_rfl) (el_int Try.underlying3) (H0 3 _ rfl)
    obtain ⟨a0_4, e0_4⟩ := leaf_bool Try.underlying4 (H0 4 _ rfl)
    obtain ⟨a0_5, e0_5⟩ := leaf_bool Try.underlying4 (H0 5 _ rfl)
    obtain rfl : v0 = .agg #[.int .i64 a0_0, V0 1, V0 2, V0 3, .bool a0_4, .bool a0_5] := by
      rw [E0]
      show Value.agg #[V0 0, V0 1, V0 2, V0 3, V0 4, V0 5] = _
      rw [e0_0, e0_4, e0_5]
    obtain ⟨V1, Y1, n1, E1, H1⟩ := open_agg Try.underlying26 (by kernel_rfl) (by kernel_rfl) (hval 1 26 v1 rfl rfl) h1
    obtain ⟨a1_0, e1_0⟩ := leaf_int Try.underlying3 (H1 0 _ rfl)
    obtain ⟨xs1_1, f1_1⟩ := sl_of_trod (Rep.int .i64) Try.underlying22 (by kernel_rfl) (el_int Try.underlying3) (H1 1 _ rfl)
    obtain ⟨xs1_2, f1_2⟩ := sl_of_trod (Rep.int .i64) Try.underlying22 (by kernel_rfl) (el_int Try.underlying3) (H1 2 _ rfl)
    obtain rfl : v1 = .agg #[.int .i64 a1_0, V1 1, V1 2] := by
      rw [E1]
      show Value.agg #[V1 0, V1 1, V1 2] = _
      rw [e1_0]
    exact calls_of_meets (t_law39_LabelsWhole (p0 := (a0_0, xs0_1, xs0_2, xs0_3, a0_4, a0_5)) (p1 := (a1_0, xs1_1, xs1_2)) 2000 (V0 1) (V0 2) (V0 3) (V1 1) (V1 2) true (pure_LabelsWhole (a0_0, xs0_1, xs0_2, xs0_3, a0_4, a0_5) (a1_0, xs1_1, xs1_2))) (fun g hg => by
      simp only [List.mem_cons, List.not_mem_nil, or_false] at hg
      rcases hg with rfl | rfl | rfl | rfl | rfl
      · exact f0_1
      · exact f0_2
      · exact f0_3
      · exact f1_1
      · exact f1_2
)

theorem labelsWhole_holds : Rows.LabelsWholeSaid :=
  OpenClaim.holds_of_wide 9 Try.f9 rfl rfl rfl rfl rfl rfl rfl ⟨rfl, rfl, rfl, rfl, rfl⟩ rfl rfl rfl rfl rfl (by kernel_rfl) Try.func9 (by kernel_rfl)
    (of_decide_eq_true (by kernel_rfl)) (by unfold Func.isWrapper; first | (rw [if_pos (by decide +kernel)]; kernel_rfl) | (rw [if_neg (by decide +kernel)]; exact ⟨rfl, rfl⟩))
    (fun os started H enc _ => labelsWhole_lifted os started H enc)
end Go.Proofs.Ytmajgimhmfeliaa
