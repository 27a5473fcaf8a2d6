/- FamilyTreesFollowParents returns true for every input, and leaves its arguments as they were. Conditions: none. -/
import Derived.Test.YtemhmmcakmidkaaZFTrFoPa2
namespace Go.Proofs.Ytemhmmcakmidkaa
open Go.Sx Go.RowKit Go.ChangeShapes Go.WideShapes Go.ChangeAt Go.Joins

set_option maxRecDepth 100000 in
theorem familyTreesFollowParents_lifted (os : Os) (started : os.Started) (H : Type) (enc : TypeId × Value → H) :
    ReturnsInHanded {} Try.pinned.checked os 14 .any (Rows.familyTreesFollowParentsSpec.pre6 enc Try.prog Try.f14 [] false) (Rows.familyTreesFollowParentsSpec.post enc Try.prog Try.f14 false Rows.familyTreesFollowParentsRow.fresh false false) := by
  refine law_lifted started Try.func14 (by kernel_rfl) (by kernel_rfl) rfl rfl ?_ (ChangeSpec.witness6 (C := Try.pinned.checked) false ⟨#[], #[.slice none 0 0], []⟩ 8 (by kernel_rfl) (by kernel_rfl) (by kernel_rfl) (by kernel_rfl)) ?_
  · intro ds hlen
    match ds, hlen with
    | [d1], _ => rfl
  · intro W base args ds p hval hA
    rw [Try.params14] at hA hval
    obtain ⟨v0, vs0, d0, ds0, p0, q0, hargs0, rfl, rfl, h0, r0⟩ := trodAll_cons hA
    obtain ⟨rfl, rfl, rfl⟩ := trodAll_nil r0
    obtain rfl : args = #[v0] := by cases args; simp_all
    obtain ⟨xs0, f0⟩ := open_intList (hval 0 22 v0 rfl rfl) h0
    exact calls_of_meets (t_law03_FamilyTreesFollowParents 1000 v0 true (treesFollow_pure xs0)) (fun g hg => by
      simp only [List.mem_cons, List.not_mem_nil, or_false] at hg
      rcases hg with rfl
      · exact f0
)

theorem familyTreesFollowParents_holds : Rows.FamilyTreesFollowParentsSaid :=
  OpenClaim.holds_of_wide 14 Try.f14 rfl rfl rfl rfl rfl rfl rfl ⟨rfl, rfl, rfl, rfl, rfl⟩ rfl rfl rfl rfl rfl (by kernel_rfl) Try.func14 (by kernel_rfl)
    (of_decide_eq_true (by kernel_rfl)) (by unfold Func.isWrapper; first | (rw [if_pos (by decide +kernel)]; kernel_rfl) | (rw [if_neg (by decide +kernel)]; exact ⟨rfl, rfl⟩))
    (fun os started H enc _ => familyTreesFollowParents_lifted os started H enc)
end Go.Proofs.Ytemhmmcakmidkaa
