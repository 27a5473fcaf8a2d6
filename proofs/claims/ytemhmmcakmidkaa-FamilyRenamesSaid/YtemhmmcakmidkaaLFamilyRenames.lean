/- FamilyRenames returns true for every input, and leaves its arguments as they were. Conditions: none. -/
import Derived.Test.YtemhmmcakmidkaaZFRe2
namespace Go.Proofs.Ytemhmmcakmidkaa
open Go.Sx Go.RowKit Go.ChangeShapes Go.WideShapes Go.ChangeAt Go.Joins

set_option maxRecDepth 100000 in
theorem familyRenames_lifted (os : Os) (started : os.Started) (H : Type) (enc : TypeId × Value → H) :
    ReturnsInHanded {} Try.pinned.checked os 10 .any (Rows.familyRenamesSpec.pre6 enc Try.prog Try.f10 [] false) (Rows.familyRenamesSpec.post enc Try.prog Try.f10 false Rows.familyRenamesRow.fresh false false) := by
  refine law_lifted started Try.func10 (by kernel_rfl) (by kernel_rfl) rfl rfl ?_ (ChangeSpec.witness6 (C := Try.pinned.checked) false ⟨#[], #[.agg #[.slice none 0 0, .slice none 0 0], .slice none 0 0, .slice none 0 0], []⟩ 8 (by kernel_rfl) (by kernel_rfl) (by kernel_rfl) (by kernel_rfl)) ?_
  · intro ds hlen
    match ds, hlen with
    | [d1, d2, d3], _ => rfl
  · intro W base args ds p hval hA
    rw [Try.params10] at hA hval
    obtain ⟨v0, vs0, d0, ds0, p0, q0, hargs0, rfl, rfl, h0, r0⟩ := trodAll_cons hA
    obtain ⟨v1, vs1, d1, ds1, p1, q1, hargs1, rfl, rfl, h1, r1⟩ := trodAll_cons r0
    obtain ⟨v2, vs2, d2, ds2, p2, q2, hargs2, rfl, rfl, h2, r2⟩ := trodAll_cons r1
    obtain ⟨rfl, rfl, rfl⟩ := trodAll_nil r2
    obtain rfl : args = #[v0, v1, v2] := by cases args; simp_all
    obtain ⟨c0, e0, ids0, ps0, rfl, f0, g0⟩ := open_graph (hval 0 26 v0 rfl rfl) h0
    obtain ⟨xs1, f1⟩ := open_intList (hval 1 22 v1 rfl rfl) h1
    obtain ⟨xs2, f2⟩ := open_intList (hval 2 22 v2 rfl rfl) h2
    exact calls_of_meets (t_law03_FamilyRenames 1000 c0 e0 ps0 v1 v2 true (renames_pure (ids0, ps0.map (fun z => z.2)) xs1 xs2)) (fun g hg => by
      simp only [List.mem_cons, List.not_mem_nil, or_false] at hg
      rcases hg with rfl | rfl | rfl | rfl
      · exact f0
      · exact ⟨g0, rfl⟩
      · exact f1
      · exact f2
)

theorem familyRenames_holds : Rows.FamilyRenamesSaid :=
  OpenClaim.holds_of_wide 10 Try.f10 rfl rfl rfl rfl rfl rfl rfl ⟨rfl, rfl, rfl, rfl, rfl⟩ rfl rfl rfl rfl rfl (by kernel_rfl) Try.func10 (by kernel_rfl)
    (of_decide_eq_true (by kernel_rfl)) (by unfold Func.isWrapper; first | (rw [if_pos (by decide +kernel)]; kernel_rfl) | (rw [if_neg (by decide +kernel)]; exact ⟨rfl, rfl⟩))
    (fun os started H enc _ => familyRenames_lifted os started H enc)
end Go.Proofs.Ytemhmmcakmidkaa
