/- ResetJudges returns true for every input, and leaves its arguments as they were; with what its row lists tied to the program's text. Conditions: none. -/
import Derived.Test.YtfbkplemadmbfaaGreatDoorZRJu1
import Derived.Test.YtfbkplemadmbfaaGreatDoorZRJu2
import Derived.Test.YtfbkplemadmbfaaGreatDoorZRJu3
import Derived.Test.YtfbkplemadmbfaaGreatDoorZRJu4
import Derived.Test.YtfbkplemadmbfaaGreatDoorZRJu5
import Derived.Test.YtfbkplemadmbfaaGreatDoorZRJu6
import Derived.Test.YtfbkplemadmbfaaGreatDoorZRJu7
import Derived.Test.YtfbkplemadmbfaaGreatDoorZRJu8
import Derived.Test.YtfbkplemadmbfaaGreatDoorTie
import Derived.Test.YtfbkplemadmbfaaGreatDoorCards
import Derived.SevenTiedAt
namespace Go.Proofs.YtfbkplemadmbfaaGreatDoor
open Go.Sx Go.RowKit Go.ChangeShapes Go.WideShapes Go.ChangeAt Go.Joins

set_option maxHeartbeats 4000000 in
set_option maxRecDepth 100000 in
theorem resetJudges_lifted (os : Os) (started : os.Started) (H : Type) (enc : TypeId × Value → H) :
    ReturnsInHanded {} Tryz.pinned.checked os 4 .any (fun w args => (Rows.resetJudgesSpec.pre enc Tryz.prog Tryz.f4 [] false w args ∧ laidMetH Tryz.prog [("math/bits.deBruijn32tab", Rows.laid_math_bits_deBruijn32tab)] w) ∧ sizedMet enc Tryz.prog Tryz.f4 (OpenSpec.ofChange Rows.resetJudgesSpec) false w args) (Rows.resetJudgesSpec.post enc Tryz.prog Tryz.f4 false Rows.resetJudgesRow.fresh false false) := by
  refine law_liftedL [("math/bits.deBruijn32tab", Rows.laid_math_bits_deBruijn32tab)] rfl started Tryz.func4 (by kernel_rfl) (by kernel_rfl) rfl rfl ?_
    (ChangeSpec.witness_shaped (enc := enc) (C := Tryz.pinned.checked) (os := os) (X := fun w _ => laidMetH Tryz.prog [("math/bits.deBruijn32tab", Rows.laid_math_bits_deBruijn32tab)] w) false (World.laidAll Tryz.prog os [("math/bits.deBruijn32tab", Rows.laid_math_bits_deBruijn32tab)]) #[.agg #[.slice none 0 0, .slice none 0 0], .slice none 0 0] 8 (World.laidAll_os _ _ _)
      (World.shaped_of_ZipB (by kernel_rfl) (by kernel_rfl)) (by kernel_rfl) (by kernel_rfl) (by kernel_rfl)
      (by rw [MakeChecks.laidMetH_plain _ _ _ (by rfl)]; exact laidMet_laidAll _ (by kernel_rfl) (by kernel_rfl))) ?_
  · intro ds hlen
    match ds, hlen with
    | [d1, d2], _ => rfl
  · intro W base args ds p hL0 hval hA
    have hL : laidMetH Tryz.prog [("math/bits.deBruijn32tab", .agg (tab0.map fun x => .lit (.int .u8 x)))] W := hL0
    rw [Tryz.params4] at hA hval
    obtain ⟨v0, vs0, d0, ds0, p0, q0, hargs0, rfl, rfl, h0, r0⟩ := trodAll_cons hA
    obtain ⟨v1, vs1, d1, ds1, p1, q1, hargs1, rfl, rfl, h1, r1⟩ := trodAll_cons r0
    obtain ⟨rfl, rfl, rfl⟩ := trodAll_nil r1
    obtain rfl : args = #[v0, v1] := by cases args; simp_all
    obtain ⟨c0, e0, ids0, ps0, rfl, f0, g0⟩ := open_graph (hval 0 25 v0 rfl rfl) h0
    obtain ⟨u1, l1, k1, rfl⟩ := okWide_slice Tryz.underlying30 (hval 1 30 v1 rfl rfl)
    obtain ⟨n1, hf1⟩ := h1
    obtain ⟨xs1, f1⟩ := sl_of_trod (Rep.sl (Rep.int .i64)) Tryz.underlying30 (by kernel_rfl) (el_sl (Rep.int .i64) Tryz.underlying22 (by kernel_rfl) (el_int Tryz.underlying3)) (by simpa [Value.cells] using hf1)
    exact calls_of_meets (t_law38_ResetJudges (p0 := (ids0, ps0.map (fun z => z.2))) (p1 := (xs1.map (fun z => z.2))) 1000 c0 e0 ps0 _ xs1 true (reset_pure (ids0, ps0.map (fun z => z.2)) (xs1.map (fun z => z.2)))) (fun g hg => by
      simp only [List.mem_cons, List.not_mem_nil, or_false] at hg
      rcases hg with rfl | rfl | rfl | rfl
      · exact f0
      · exact ⟨g0, rfl⟩
      · exact ⟨f1, rfl⟩
      · exact gb_of_laid (laidPlain hL) (by kernel_rfl) (by kernel_rfl) Tryz.underlying223 Tryz.underlying5 (by kernel_rfl) (by kernel_rfl) (by decide)
 )

theorem resetJudges_row : Rows.ResetJudgesSaid :=
  OpenClaim.holds_of_wide 4 Tryz.f4 rfl rfl rfl rfl rfl rfl rfl ⟨rfl, rfl, rfl, rfl, rfl⟩ rfl rfl rfl rfl rfl (by kernel_rfl) Tryz.func4 (by kernel_rfl)
    (of_decide_eq_true (by kernel_rfl)) (by unfold Func.isWrapper; first | (rw [if_pos (by decide +kernel)]; kernel_rfl) | (rw [if_neg (by decide +kernel)]; exact ⟨rfl, rfl⟩))
    (fun os started H enc _ => resetJudges_lifted os started H enc)

theorem resetJudges_holds : Rows.ResetJudgesCardSaid :=
  Claim7.holds_tied_plain_at .later [] [.data] true (true, "93383d42f33f5117e2ea24c4422cdb02d1b8c8416158b5cbd6145d66b007fcc1") true resetJudges_row (fun _ h => by cases h) (by kernel_rfl) (fun _ h => by cases h) resetJudges_row_tie rfl ⟨rfl, rfl⟩ (by kernel_rfl) rfl
    (fun f fn hf hfn => by
      obtain rfl : f = 4 := Option.some.inj ((show Tryz.prog.funcNamed "selfstab/selfstablaw38.ResetJudges" = some 4 by kernel_rfl).symm.trans hf) |>.symm
      obtain rfl : fn = Tryz.f4 := (Option.some.inj (Tryz.func4.symm.trans hfn)).symm
      exact ⟨by kernel_rfl, fun j t ht => by
        rw [Tryz.params4] at ht
        have hm : t ∈ [25, 30] := by simpa using Array.mem_of_getElem? ht
        have hall : ([25, 30].all fun u => !Tryz.prog.wantsStandIn u) = true := by kernel_rfl
        exact (show Tryz.prog.wantsStandIn t = false by simpa using List.all_eq_true.1 hall t hm)⟩)
    (by kernel_rfl)
end Go.Proofs.YtfbkplemadmbfaaGreatDoor
