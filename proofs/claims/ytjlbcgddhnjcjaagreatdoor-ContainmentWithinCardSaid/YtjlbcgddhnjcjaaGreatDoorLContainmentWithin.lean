/- ContainmentWithin returns true for every input, and leaves its arguments as they were; with what its row lists tied to the program's text. Conditions: none. -/
import Derived.Test.YtjlbcgddhnjcjaaGreatDoorZCWi1
import Derived.Test.YtjlbcgddhnjcjaaGreatDoorZCWi2
import Derived.Test.YtjlbcgddhnjcjaaGreatDoorZCWi3
import Derived.Test.YtjlbcgddhnjcjaaGreatDoorZCWi4
import Derived.Test.YtjlbcgddhnjcjaaGreatDoorZCWi5
import Derived.Test.YtjlbcgddhnjcjaaGreatDoorZCWi6
import Derived.Test.YtjlbcgddhnjcjaaGreatDoorZCWi7
import Derived.Test.YtjlbcgddhnjcjaaGreatDoorZCWi8
import Derived.Test.YtjlbcgddhnjcjaaGreatDoorTie
import Derived.Test.YtjlbcgddhnjcjaaGreatDoorCards
import Derived.SevenTiedAt
namespace Go.Proofs.YtjlbcgddhnjcjaaGreatDoor
open Go.Sx Go.RowKit Go.ChangeShapes Go.WideShapes Go.ChangeAt Go.Joins

set_option maxHeartbeats 4000000 in
set_option maxRecDepth 100000 in
theorem xB (os : Os) (started : os.Started) (H : Type) (enc : TypeId × Value → H) :
    ReturnsInHanded {} Tryz.pinned.checked os 4 .any (fun w args => (Rows.containmentWithinSpec.pre enc Tryz.prog Tryz.f4 [] false w args ∧ laidMetH Tryz.prog [("math/bits.deBruijn32tab", Rows.laid_math_bits_deBruijn32tab)] w) ∧ sizedMet enc Tryz.prog Tryz.f4 (OpenSpec.ofChange Rows.containmentWithinSpec) false w args) (Rows.containmentWithinSpec.post enc Tryz.prog Tryz.f4 false Rows.containmentWithinRow.fresh false false) := by
  refine JB [("math/bits.deBruijn32tab", Rows.laid_math_bits_deBruijn32tab)] rfl started Tryz.func4 (by kernel_rfl) (by kernel_rfl) rfl rfl ?_
    (ChangeSpec.witness_shaped (enc := enc) (C := Tryz.pinned.checked) (os := os) (X := fun w _ => laidMetH Tryz.prog [("math/bits.deBruijn32tab", Rows.laid_math_bits_deBruijn32tab)] w) false (World.laidAll Tryz.prog os [("math/bits.deBruijn32tab", Rows.laid_math_bits_deBruijn32tab)]) #[.agg #[.int .i64 0, .slice none 0 0, .slice none 0 0, .slice none 0 0, .bool false, .bool false], .slice none 0 0, .slice none 0 0, .int .u32 0, .int .i64 0] 8 (World.laidAll_os _ _ _)
      (World.shaped_of_ZipB (by kernel_rfl) (by kernel_rfl)) (by kernel_rfl) (by kernel_rfl) (by kernel_rfl)
      (by rw [MakeChecks.laidMetH_plain _ _ _ (by rfl)]; exact laidMet_laidAll _ (by kernel_rfl) (by kernel_rfl))) ?_
  · intro ds hlen
    match ds, hlen with
    | [d1, d2, d3, d4, d5], _ => rfl
  · intro W base args ds p hL0 hval hA
    have hL : laidMetH Tryz.prog [("math/bits.deBruijn32tab", .agg (rU.map fun x => .lit (.int .u8 x)))] W := hL0
    rw [Tryz.params4] at hA hval
    obtain ⟨v0, vs0, d0, ds0, p0, q0, hargs0, rfl, rfl, h0, r0⟩ := trodAll_cons hA
    obtain ⟨v1, vs1, d1, ds1, p1, q1, hargs1, rfl, rfl, h1, r1⟩ := trodAll_cons r0
    obtain ⟨v2, vs2, d2, ds2, p2, q2, hargs2, rfl, rfl, h2, r2⟩ := trodAll_cons r1
    obtain ⟨v3, vs3, d3, ds3, p3, q3, hargs3, rfl, rfl, h3, r3⟩ := trodAll_cons r2
    obtain ⟨v4, vs4, d4, ds4, p4, q4, hargs4, rfl, rfl, h4, r4⟩ := trodAll_cons r3
    obtain ⟨rfl, rfl, rfl⟩ := trodAll_nil r4
    obtain rfl : args = #[v0, v1, v2, v3, v4] := by cases args; simp_all
    obtain ⟨V0, Y0, n0, E0, H0⟩ := RA Tryz.underlying24 (by kernel_rfl) (by kernel_rfl) (hval 0 24 v0 rfl rfl) h0
    obtain ⟨a0_0, e0_0⟩ := Rb Tryz.underlying3 (H0 0 _ rfl)
    obtain ⟨xs0_1, f0_1⟩ := vZ (dJ.int .i64) Tryz.underlying22 (by kernel_rfl) (Fj Tryz.underlying3) (H0 1 _ rfl)
    obtain ⟨xs0_2, f0_2⟩ := vZ (dJ.int .i64) Tryz.underlying22 (by kernel_rfl) (Fj Tryz.underlying3) (H0 2 _ rfl)
    obtain ⟨xs0_3, f0_3⟩ := vZ (dJ.int .i64) Tryz.underlying22 (by kernel_rfl) (Fj Tryz.underlying3) (H0 3 _ rfl)
    obtain ⟨a0_4, e0_4⟩ := Hb Tryz.underlying4 (H0 4 _ rfl)
    obtain ⟨a0_5, e0_5⟩ := Hb Tryz.underlying4 (H0 5 _ rfl)
    obtain rfl : v0 = .agg #[.int .i64 a0_0, V0 1, V0 2, V0 3, .bool a0_4, .bool a0_5] := by
      rw [E0]
      show Value.agg #[V0 0, V0 1, V0 2, V0 3, V0 4, V0 5] = _
      rw [e0_0, e0_4, e0_5]
    obtain ⟨xs1, f1⟩ := Ii (hval 1 22 v1 rfl rfl) h1
    obtain ⟨u2, l2, k2, rfl⟩ := okWide_slice Tryz.underlying25 (hval 2 25 v2 rfl rfl)
    obtain ⟨n2, hf2⟩ := h2
    obtain ⟨xs2, f2⟩ := vZ (dJ.int .u32) Tryz.underlying25 (by kernel_rfl) (Fj Tryz.underlying26) (by simpa [Value.cells] using hf2)
    obtain ⟨a3, rfl, rfl, rfl, w3⟩ := open_int Tryz.underlying26 (hval 3 26 v3 rfl rfl) h3
    obtain ⟨a4, rfl, rfl, rfl, w4⟩ := open_int Tryz.underlying3 (hval 4 3 v4 rfl rfl) h4
    exact Fe (wK (p0 := (a0_0, xs0_1, xs0_2, xs0_3, a0_4, a0_5)) (p1 := xs1) (p2 := xs2) (p3 := a3) (p4 := a4) 1000 (V0 1) (V0 2) (V0 3) v1 _ true (KB (a0_0, xs0_1, xs0_2, xs0_3, a0_4, a0_5) xs1 xs2 a3 a4 (SB w3).1 (SB w3).2)) (fun g hg => by
      simp only [List.mem_cons, List.not_mem_nil, or_false] at hg
      rcases hg with rfl | rfl | rfl | rfl | rfl | rfl
      · exact f0_1
      · exact f0_2
      · exact f0_3
      · exact f1
      · exact f2
      · exact Lr (Oz hL) (by kernel_rfl) (by kernel_rfl) Tryz.underlying149 Tryz.underlying5 (by kernel_rfl) (by kernel_rfl) (by decide)
 )

theorem zO : Rows.ContainmentWithinSaid :=
  OpenClaim.holds_of_wide 4 Tryz.f4 rfl rfl rfl rfl rfl rfl rfl ⟨rfl, rfl, rfl, rfl, rfl⟩ rfl rfl rfl rfl rfl (by kernel_rfl) Tryz.func4 (by kernel_rfl)
    (of_decide_eq_true (by kernel_rfl)) (by unfold Func.isWrapper; first | (rw [if_pos (by decide +kernel)]; kernel_rfl) | (rw [if_neg (by decide +kernel)]; exact ⟨rfl, rfl⟩))
    (fun os started H enc _ => xB os started H enc)

theorem containmentWithin_holds : Rows.ContainmentWithinCardSaid :=
  Claim7.holds_tied_plain_at .later [] [.data] true (true, "3e1ab1d3128a0473676168ae0e4034d89b36ca4e9495482ae8cd409f47ef9d5b") true zO (fun _ h => by cases h) (by kernel_rfl) (fun _ h => by cases h) containmentWithin_row_tie rfl ⟨rfl, rfl⟩ (by kernel_rfl) rfl
    (fun f fn hf hfn => by
      obtain rfl : f = 4 := Option.some.inj ((show Tryz.prog.funcNamed "selfstab/selfstablaw40.ContainmentWithin" = some 4 by kernel_rfl).symm.trans hf) |>.symm
      obtain rfl : fn = Tryz.f4 := (Option.some.inj (Tryz.func4.symm.trans hfn)).symm
      exact ⟨by kernel_rfl, fun j t ht => by
        rw [Tryz.params4] at ht
        have hm : t ∈ [24, 22, 25, 26, 3] := by simpa using Array.mem_of_getElem? ht
        have hall : ([24, 22, 25, 26, 3].all fun u => !Tryz.prog.wantsStandIn u) = true := by kernel_rfl
        exact (show Tryz.prog.wantsStandIn t = false by simpa using List.all_eq_true.1 hall t hm)⟩)
    (by kernel_rfl)
end Go.Proofs.YtjlbcgddhnjcjaaGreatDoor
