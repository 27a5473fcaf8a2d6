/- LabelsStrange returns true for every input, and leaves its arguments as they were. Conditions: none. -/
import Derived.Test.YtmajgimhmfeliaaZLSt4
namespace Go.Proofs.Ytmajgimhmfeliaa
open Go.Sx Go.RowKit Go.ChangeShapes Go.WideShapes Go.ChangeAt Go.Joins

set_option maxRecDepth 100000 in
theorem labelsStrange_lifted (os : Os) (started : os.Started) (H : Type) (enc : TypeId × Value → H) :
    ReturnsInHanded {} Try.pinned.checked os 6 .any (Rows.labelsStrangeSpec.pre6 enc Try.prog Try.f6 [] false) (Rows.labelsStrangeSpec.post enc Try.prog Try.f6 false Rows.labelsStrangeRow.fresh false false) := by
  refine law_lifted started Try.func6 (by kernel_rfl) (by kernel_rfl) rfl rfl ?_ (ChangeSpec.witness6 (C := Try.pinned.checked) false ⟨#[], #[.int .i64 0, .slice none 0 0, .slice none 0 0], []⟩ 8 (by kernel_rfl) (by kernel_rfl) (by kernel_rfl) (by kernel_rfl)) ?_
  · intro ds hlen
    match ds, hlen with
    | [d1, d2, d3], _ => rfl
  · intro W base args ds p hval hA
    rw [Try.params6] at hA hval
    obtain ⟨v0, vs0, d0, ds0, p0, q0, hargs0, rfl, rfl, h0, r0⟩ := trodAll_cons hA
    obtain ⟨v1, vs1, d1, ds1, p1, q1, hargs1, rfl, rfl, h1, r1⟩ := trodAll_cons r0
    obtain ⟨v2, vs2, d2, ds2, p2, q2, hargs2, rfl, rfl, h2, r2⟩ := trodAll_cons r1
    obtain ⟨rfl, rfl, rfl⟩ := trodAll_nil r2
    obtain rfl : args = #[v0, v1, v2] := by cases args; simp_all
    obtain ⟨a0, rfl, rfl, rfl, w0⟩ := open_int Try.underlying3 (hval 0 3 v0 rfl rfl) h0
    obtain ⟨xs1, f1⟩ := open_intList (hval 1 22 v1 rfl rfl) h1
    obtain ⟨u2, l2, k2, rfl⟩ := okWide_slice Try.underlying31 (hval 2 31 v2 rfl rfl)
    obtain ⟨n2, hf2⟩ := h2
    obtain ⟨xs2, f2⟩ := sl_of_trod (Rep.pair (Rep.int .i64) (Rep.int .i64)) Try.underlying31 (by kernel_rfl) (el_two Try.underlying42 Try.underlying3 (by kernel_rfl) (by kernel_rfl)) (by simpa [Value.cells] using hf2)
    exact calls_of_meets (t_law39_LabelsStrange 1000 v1 _ true (pure_LabelsStrange a0 xs1 xs2)) (fun g hg => by
      simp only [List.mem_cons, List.not_mem_nil, or_false] at hg
      rcases hg with rfl | rfl
      · exact f1
      · exact f2
)

theorem labelsStrange_holds : Rows.LabelsStrangeSaid :=
  OpenClaim.holds_of_wide 6 Try.f6 rfl rfl rfl rfl rfl rfl rfl ⟨rfl, rfl, rfl, rfl, rfl⟩ rfl rfl rfl rfl rfl (by kernel_rfl) Try.func6 (by kernel_rfl)
    (of_decide_eq_true (by kernel_rfl)) (by unfold Func.isWrapper; first | (rw [if_pos (by decide +kernel)]; kernel_rfl) | (rw [if_neg (by decide +kernel)]; exact ⟨rfl, rfl⟩))
    (fun os started H enc _ => labelsStrange_lifted os started H enc)
end Go.Proofs.Ytmajgimhmfeliaa
