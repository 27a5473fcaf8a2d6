/- ContainmentColours returns true for every input, and leaves its arguments as they were; with what its row lists tied to the program's text. Conditions: none. -/
import Derived.Test.YtjlbcgddhnjcjaaGreatDoorZCCo1
import Derived.Test.YtjlbcgddhnjcjaaGreatDoorZCCo2
import Derived.Test.YtjlbcgddhnjcjaaGreatDoorZCCo3
import Derived.Test.YtjlbcgddhnjcjaaGreatDoorZCCo4
import Derived.Test.YtjlbcgddhnjcjaaGreatDoorZCCo5
import Derived.Test.YtjlbcgddhnjcjaaGreatDoorZCCo6
import Derived.Test.YtjlbcgddhnjcjaaGreatDoorZCCo7
import Derived.Test.YtjlbcgddhnjcjaaGreatDoorZCCo8
import Derived.Test.YtjlbcgddhnjcjaaGreatDoorZCCo9
import Derived.Test.YtjlbcgddhnjcjaaGreatDoorTie
import Derived.Test.YtjlbcgddhnjcjaaGreatDoorCards
import Derived.SevenTiedAt
namespace Go.Proofs.YtjlbcgddhnjcjaaGreatDoor
open Go.Sx Go.RowKit Go.ChangeShapes Go.WideShapes Go.ChangeAt Go.Joins

set_option maxHeartbeats 4000000 in
set_option maxRecDepth 100000 in
theorem zT (os : Os) (f : os.Started) (H : Type) (enc : TypeId × Value → H) :
    ReturnsInHanded {} Tryz.pinned.checked os 6 .any (fun w args => (Rows.containmentColoursSpec.pre enc Tryz.prog Tryz.f6 [] false w args ∧ laidMetH Tryz.prog [("math/bits.deBruijn32tab", Rows.laid_math_bits_deBruijn32tab)] w) ∧ sizedMet enc Tryz.prog Tryz.f6 (OpenSpec.ofChange Rows.containmentColoursSpec) false w args) (Rows.containmentColoursSpec.post enc Tryz.prog Tryz.f6 false Rows.containmentColoursRow.fresh false false) := by
  refine MP [("math/bits.deBruijn32tab", Rows.laid_math_bits_deBruijn32tab)] rfl f Tryz.func6 (by kernel_rfl) (by kernel_rfl) rfl rfl ?_
    (ChangeSpec.witness_shaped (enc := enc) (C := Tryz.pinned.checked) (os := os) (X := fun w _ => laidMetH Tryz.prog [("math/bits.deBruijn32tab", Rows.laid_math_bits_deBruijn32tab)] w) false (World.laidAll Tryz.prog os [("math/bits.deBruijn32tab", Rows.laid_math_bits_deBruijn32tab)]) #[.agg #[.int .i64 0, .slice none 0 0, .slice none 0 0, .slice none 0 0, .bool false, .bool false], .slice none 0 0, .int .u32 0, .slice none 0 0, .slice none 0 0] 8 (World.laidAll_os _ _ _)
      (World.shaped_of_ZipB (by kernel_rfl) (by kernel_rfl)) (by kernel_rfl) (by kernel_rfl) (by kernel_rfl)
      (by rw [MakeChecks.laidMetH_plain _ _ _ (by rfl)]; exact laidMet_laidAll _ (by kernel_rfl) (by kernel_rfl))) ?_
  · intro L s
    match L, s with
    | [S, T, U, V, d5], _ => rfl
  · intro W base args L p E a M
    have hL : laidMetH Tryz.prog [("math/bits.deBruijn32tab", .agg (oA.map fun x => .lit (.int .u8 x)))] W := E
    rw [Tryz.params6] at M a
    obtain ⟨G, ad, d0, Y, p0, q0, y, rfl, rfl, h0, r0⟩ := trodAll_cons M
    obtain ⟨I, ae, S, Z, p1, q1, z, rfl, rfl, h1, r1⟩ := trodAll_cons r0
    obtain ⟨O, af, T, aa, p2, q2, A, rfl, rfl, h2, r2⟩ := trodAll_cons r1
    obtain ⟨J, ag, U, ab, p3, q3, B, rfl, rfl, h3, r3⟩ := trodAll_cons r2
    obtain ⟨P, ah, V, ac, p4, q4, D, rfl, rfl, h4, r4⟩ := trodAll_cons r3
    obtain ⟨rfl, rfl, rfl⟩ := trodAll_nil r4
    obtain rfl : args = #[G, I, O, J, P] := by cases args; simp_all
    obtain ⟨b, Y0, n0, R, k⟩ := UN Tryz.underlying24 (by kernel_rfl) (by kernel_rfl) (a 0 24 G rfl rfl) h0
    obtain ⟨c, l⟩ := Ut Tryz.underlying3 (k 0 _ rfl)
    obtain ⟨h, o⟩ := zG (eM.int .i64) Tryz.underlying22 (by kernel_rfl) (Ic Tryz.underlying3) (k 1 _ rfl)
    obtain ⟨i, q⟩ := zG (eM.int .i64) Tryz.underlying22 (by kernel_rfl) (Ic Tryz.underlying3) (k 2 _ rfl)
    obtain ⟨j, r⟩ := zG (eM.int .i64) Tryz.underlying22 (by kernel_rfl) (Ic Tryz.underlying3) (k 3 _ rfl)
    obtain ⟨d, m⟩ := JW Tryz.underlying4 (k 4 _ rfl)
    obtain ⟨e, n⟩ := JW Tryz.underlying4 (k 5 _ rfl)
    obtain rfl : G = .agg #[.int .i64 c, b 1, b 2, b 3, .bool d, .bool e] := by
      rw [R]
      show Value.agg #[b 0, b 1, b 2, b 3, b 4, b 5] = _
      rw [l, m, n]
    obtain ⟨t, f1⟩ := EP (a 1 22 I rfl rfl) h1
    obtain ⟨K, rfl, rfl, rfl, Q⟩ := open_int Tryz.underlying26 (a 2 26 O rfl rfl) h2
    obtain ⟨u, f3⟩ := EP (a 3 22 J rfl rfl) h3
    obtain ⟨u4, l4, k4, rfl⟩ := okWide_slice Tryz.underlying25 (a 4 25 P rfl rfl)
    obtain ⟨n4, F⟩ := h4
    obtain ⟨v, f4⟩ := zG (eM.int .u32) Tryz.underlying25 (by kernel_rfl) (Ic Tryz.underlying26) (by simpa [Value.cells] using F)
    exact HY (zO (p0 := (c, h, i, j, d, e)) (p1 := t) (p2 := K) (p3 := u) (p4 := v) 1000 (b 1) (b 2) (b 3) I J _ true (Ji (c, h, i, j, d, e) t K u v (VJ Q).1 (VJ Q).2)) (fun g N => by
      simp only [List.mem_cons, List.not_mem_nil, or_false] at N
      rcases N with rfl | rfl | rfl | rfl | rfl | rfl | rfl
      · exact o
      · exact q
      · exact r
      · exact f1
      · exact f3
      · exact f4
      · exact OA (RH hL) (by kernel_rfl) (by kernel_rfl) Tryz.underlying149 Tryz.underlying5 (by kernel_rfl) (by kernel_rfl) (by decide)
 )

theorem Bg : Rows.ContainmentColoursSaid :=
  OpenClaim.holds_of_wide 6 Tryz.f6 rfl rfl rfl rfl rfl rfl rfl ⟨rfl, rfl, rfl, rfl, rfl⟩ rfl rfl rfl rfl rfl (by kernel_rfl) Tryz.func6 (by kernel_rfl)
    (of_decide_eq_true (by kernel_rfl)) (by unfold Func.isWrapper; first | (rw [if_pos (by decide +kernel)]; kernel_rfl) | (rw [if_neg (by decide +kernel)]; exact ⟨rfl, rfl⟩))
    (fun os a H enc _ => zT os a H enc)

theorem containmentColours_holds : Rows.ContainmentColoursCardSaid :=
  Claim7.holds_tied_plain_at .later [] [.data] true (true, "3e1ab1d3128a0473676168ae0e4034d89b36ca4e9495482ae8cd409f47ef9d5b") true Bg (fun _ h => by cases h) (by kernel_rfl) (fun _ h => by cases h) containmentColours_row_tie rfl ⟨rfl, rfl⟩ (by kernel_rfl) rfl
    (fun f fn d b => by
      obtain rfl : f = 6 := Option.some.inj ((show Tryz.prog.funcNamed "selfstab/selfstablaw40.ContainmentColours" = some 6 by kernel_rfl).symm.trans d) |>.symm
      obtain rfl : fn = Tryz.f6 := (Option.some.inj (Tryz.func6.symm.trans b)).symm
      exact ⟨by kernel_rfl, fun j t c => by
        rw [Tryz.params6] at c
        have e : t ∈ [24, 22, 26, 22, 25] := by simpa using Array.mem_of_getElem? c
        have a : ([24, 22, 26, 22, 25].all fun u => !Tryz.prog.wantsStandIn u) = true := by kernel_rfl
        exact (show Tryz.prog.wantsStandIn t = false by simpa using List.all_eq_true.1 a t e)⟩)
    (by kernel_rfl)
end Go.Proofs.YtjlbcgddhnjcjaaGreatDoor
