/- SnapshotText returns true for every input, and leaves its arguments as they were; with what its row lists tied to the program's text. Conditions: none. -/
import Derived.Test.YtdbcpliafeoghaaGreatDoorZSTe1
import Derived.Test.YtdbcpliafeoghaaGreatDoorZSTe2
import Derived.Test.YtdbcpliafeoghaaGreatDoorZSTe3
import Derived.Test.YtdbcpliafeoghaaGreatDoorZSTe4
import Derived.Test.YtdbcpliafeoghaaGreatDoorZSTe5
import Derived.Test.YtdbcpliafeoghaaGreatDoorZSTe6
import Derived.Test.YtdbcpliafeoghaaGreatDoorTie
import Derived.Test.YtdbcpliafeoghaaGreatDoorCards
import Derived.SevenTiedAt
namespace Go.Proofs.YtdbcpliafeoghaaGreatDoor
open Go.Sx Go.RowKit Go.ChangeShapes Go.WideShapes Go.ChangeAt Go.Joins

set_option maxHeartbeats 4000000 in
set_option maxRecDepth 100000 in
theorem snapshotText_lifted (os : Os) (started : os.Started) (H : Type) (enc : TypeId × Value → H) :
    ReturnsInHanded {} Tryz.pinned.checked os 4 .any (fun w args => (Rows.snapshotTextSpec.pre enc Tryz.prog Tryz.f4 [] false w args ∧ laidMetH Tryz.prog [("math/bits.deBruijn32tab", Rows.laid_math_bits_deBruijn32tab)] w) ∧ sizedMet enc Tryz.prog Tryz.f4 (OpenSpec.ofChange Rows.snapshotTextSpec) false w args) (Rows.snapshotTextSpec.post enc Tryz.prog Tryz.f4 false Rows.snapshotTextRow.fresh false false) := by
  refine law_liftedL [("math/bits.deBruijn32tab", Rows.laid_math_bits_deBruijn32tab)] rfl started Tryz.func4 (by kernel_rfl) (by kernel_rfl) rfl rfl ?_
    (ChangeSpec.witness_shaped (enc := enc) (C := Tryz.pinned.checked) (os := os) (X := fun w _ => laidMetH Tryz.prog [("math/bits.deBruijn32tab", Rows.laid_math_bits_deBruijn32tab)] w) false (World.laidAll Tryz.prog os [("math/bits.deBruijn32tab", Rows.laid_math_bits_deBruijn32tab)]) #[.int .i64 0] 8 (World.laidAll_os _ _ _)
      (World.shaped_of_ZipB (by kernel_rfl) (by kernel_rfl)) (by kernel_rfl) (by kernel_rfl) (by kernel_rfl)
      (by rw [MakeChecks.laidMetH_plain _ _ _ (by rfl)]; exact laidMet_laidAll _ (by kernel_rfl) (by kernel_rfl))) ?_
  · intro ds hlen
    match ds, hlen with
    | [d1], _ => rfl
  · intro W base args ds p hL0 hval hA
    have hL : laidMetH Tryz.prog [("math/bits.deBruijn32tab", .agg (tab0.map fun x => .lit (.int .u8 x)))] W := hL0
    rw [Tryz.params4] at hA hval
    obtain ⟨v0, vs0, d0, ds0, p0, q0, hargs0, rfl, rfl, h0, r0⟩ := trodAll_cons hA
    obtain ⟨rfl, rfl, rfl⟩ := trodAll_nil r0
    obtain rfl : args = #[v0] := by cases args; simp_all
    obtain ⟨a0, rfl, rfl, rfl, w0⟩ := open_int Tryz.underlying3 (hval 0 3 v0 rfl rfl) h0
    exact calls_of_meets (t_law37_SnapshotText (p0 := a0) 1000  true (snapshotText_pure a0)) (fun g hg => by
      simp only [List.mem_cons, List.not_mem_nil, or_false] at hg
      rcases hg with rfl
      · exact gb_of_laid (laidPlain hL) (by kernel_rfl) (by kernel_rfl) Tryz.underlying212 Tryz.underlying5 (by kernel_rfl) (by kernel_rfl) (by decide)
 )

theorem snapshotText_row : Rows.SnapshotTextSaid :=
  OpenClaim.holds_of_wide 4 Tryz.f4 rfl rfl rfl rfl rfl rfl rfl ⟨rfl, rfl, rfl, rfl, rfl⟩ rfl rfl rfl rfl rfl (by kernel_rfl) Tryz.func4 (by kernel_rfl)
    (of_decide_eq_true (by kernel_rfl)) (by unfold Func.isWrapper; first | (rw [if_pos (by decide +kernel)]; kernel_rfl) | (rw [if_neg (by decide +kernel)]; exact ⟨rfl, rfl⟩))
    (fun os started H enc _ => snapshotText_lifted os started H enc)

theorem snapshotText_holds : Rows.SnapshotTextCardSaid :=
  Claim7.holds_tied_plain_at .later [] [.data] true (true, "de35040a4d6120acebccb7dd5ca382112f9e4a0991f61c86404e7d0c6c39af3a") true snapshotText_row (fun _ h => by cases h) (by kernel_rfl) (fun _ h => by cases h) snapshotText_row_tie rfl ⟨rfl, rfl⟩ (by kernel_rfl) rfl
    (fun f fn hf hfn => by
      obtain rfl : f = 4 := Option.some.inj ((show Tryz.prog.funcNamed "selfstab/selfstablaw37.SnapshotText" = some 4 by kernel_rfl).symm.trans hf) |>.symm
      obtain rfl : fn = Tryz.f4 := (Option.some.inj (Tryz.func4.symm.trans hfn)).symm
      exact ⟨by kernel_rfl, fun j t ht => by
        rw [Tryz.params4] at ht
        have hm : t ∈ [3] := by simpa using Array.mem_of_getElem? ht
        have hall : ([3].all fun u => !Tryz.prog.wantsStandIn u) = true := by kernel_rfl
        exact (show Tryz.prog.wantsStandIn t = false by simpa using List.all_eq_true.1 hall t hm)⟩)
    (by kernel_rfl)
end Go.Proofs.YtdbcpliafeoghaaGreatDoor
