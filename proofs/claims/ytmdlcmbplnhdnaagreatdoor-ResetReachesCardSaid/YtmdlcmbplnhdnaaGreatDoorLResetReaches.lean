/- ResetReaches returns true for every input, and leaves its arguments as they were; with what its row lists tied to the program's text. Conditions: none. -/
import Derived.Test.YtmdlcmbplnhdnaaGreatDoorZRRc1
import Derived.Test.YtmdlcmbplnhdnaaGreatDoorZRRc2
import Derived.Test.YtmdlcmbplnhdnaaGreatDoorZRRc3
import Derived.Test.YtmdlcmbplnhdnaaGreatDoorZRRc4
import Derived.Test.YtmdlcmbplnhdnaaGreatDoorZRRc5
import Derived.Test.YtmdlcmbplnhdnaaGreatDoorZRRc6
import Derived.Test.YtmdlcmbplnhdnaaGreatDoorZRRc7
import Derived.Test.YtmdlcmbplnhdnaaGreatDoorZRRc8
import Derived.Test.YtmdlcmbplnhdnaaGreatDoorZRRc9
import Derived.Test.YtmdlcmbplnhdnaaGreatDoorZRRc10
import Derived.Test.YtmdlcmbplnhdnaaGreatDoorTie
import Derived.Test.YtmdlcmbplnhdnaaGreatDoorCards
import Derived.SevenTiedAt
namespace Go.Proofs.YtmdlcmbplnhdnaaGreatDoor
open Go.Sx Go.RowKit Go.ChangeShapes Go.WideShapes Go.ChangeAt Go.Joins

set_option maxHeartbeats 4000000 in
set_option maxRecDepth 100000 in
theorem E_ (v : Os) (i : v.Started) (H : Type) (h : TypeId × Value → H) :
    ReturnsInHanded {} Tryz.pinned.checked v 5 .any (λw a => (Rows.resetReachesSpec.pre h Tryz.prog Tryz.f5 [] false w a ∧ laidMetH Tryz.prog [("math/bits.deBruijn32tab", Rows.laid_math_bits_deBruijn32tab)] w) ∧ sizedMet h Tryz.prog Tryz.f5 (OpenSpec.ofChange Rows.resetReachesSpec) false w a) (Rows.resetReachesSpec.post h Tryz.prog Tryz.f5 false Rows.resetReachesRow.fresh false false) := by
  refine Px [("math/bits.deBruijn32tab", Rows.laid_math_bits_deBruijn32tab)] Z i Tryz.func5 (by kernel_rfl) (by kernel_rfl) Z Z ?_
    (ChangeSpec.witness_shaped (enc := h) (C := Tryz.pinned.checked) (os := v) (X := λw _ => laidMetH Tryz.prog [("math/bits.deBruijn32tab", Rows.laid_math_bits_deBruijn32tab)] w) false (World.laidAll Tryz.prog v [("math/bits.deBruijn32tab", Rows.laid_math_bits_deBruijn32tab)]) #[.agg #[.int .i64 0, .slice none 0 0, .slice none 0 0, .slice none 0 0, .bool false, .bool false], .slice none 0 0, .slice none 0 0] 8 (World.laidAll_os _ _ _)
      (World.shaped_of_ZipB (by kernel_rfl) (by kernel_rfl)) (by kernel_rfl) (by kernel_rfl) (by kernel_rfl)
      (by rw [MakeChecks.laidMetH_plain _ _ _ (by rfl)]; exact laidMet_laidAll _ (by kernel_rfl) (by kernel_rfl))) ?_
  · intro K u
    match K, u with
    | [P, Q, d3], _ => rfl
  · intro W J a K p E b L;have hL : laidMetH Tryz.prog [("math/bits.deBruijn32tab", .agg (wP.map λx => .lit (.int .u8 x)))] W := E;rw [Tryz.params5] at L b;obtain ⟨G, aa, d0, R, p0, q0, A, rfl, rfl, Y, r0⟩ := trodAll_cons L;obtain ⟨I, ab, P, S, p1, q1, B, rfl, rfl, h1, r1⟩ := trodAll_cons r0;obtain ⟨N, ac, Q, T, p2, q2, D, rfl, rfl, h2, r2⟩ := trodAll_cons r1;obtain ⟨rfl, rfl, rfl⟩ := trodAll_nil r2;obtain rfl : a = #[G, I, N] := by cases a; simp_all
    obtain ⟨c, Y0, n0, O, m⟩ := YF Tryz.underlying24 (by kernel_rfl) (by kernel_rfl) (b 0 24 G Z Z) Y;obtain ⟨d, n⟩ := Yi Tryz.underlying3 (m 0 _ Z);obtain ⟨j, r⟩ := Bd (eH.int .i64) Tryz.underlying22 (by kernel_rfl) (J_ Tryz.underlying3) (m 1 _ Z);obtain ⟨k, s⟩ := Bd (eH.int .i64) Tryz.underlying22 (by kernel_rfl) (J_ Tryz.underlying3) (m 2 _ Z);obtain ⟨l, t⟩ := Bd (eH.int .i64) Tryz.underlying22 (by kernel_rfl) (J_ Tryz.underlying3) (m 3 _ Z);obtain ⟨e, o⟩ := Ma Tryz.underlying4 (m 4 _ Z);obtain ⟨f, q⟩ := Ma Tryz.underlying4 (m 5 _ Z);obtain rfl : G = .agg #[.int .i64 d, c 1, c 2, c 3, .bool e, .bool f] := by
      rw [O];show Value.agg #[c 0, c 1, c 2, c 3, c 4, c 5] = _;rw [n, o, q]
    obtain ⟨y, U⟩ := NM (b 1 22 I Z Z) h1;obtain ⟨u2, l2, k2, rfl⟩ := okWide_slice Tryz.underlying26 (b 2 26 N Z Z);obtain ⟨n2, F⟩ := h2;obtain ⟨z, V⟩ := Bd (eH.int .u32) Tryz.underlying26 (by kernel_rfl) (J_ Tryz.underlying25) (by simpa [Value.cells] using F);exact JO (Ep (p0 := (d, j, k, l, e, f)) (p1 := y) (p2 := z) 1000 (c 1) (c 2) (c 3) I _ true (NO (d, j, k, l, e, f) y z)) (λg M => by
      simp only [List.mem_cons, List.not_mem_nil, or_false] at M;rcases M with rfl | rfl | rfl | rfl | rfl | rfl
      · exact r
      · exact s
      · exact t
      · exact U
      · exact V
      · exact RZ (Vx hL) (by kernel_rfl) (by kernel_rfl) Tryz.underlying223 Tryz.underlying5 (by kernel_rfl) (by kernel_rfl) (by decide)
 )

theorem HT : Rows.ResetReachesSaid :=
  OpenClaim.holds_of_wide 5 Tryz.f5 Z Z Z Z Z Z Z ⟨rfl, rfl, rfl, rfl, rfl⟩ Z Z Z Z Z (by kernel_rfl) Tryz.func5 (by kernel_rfl)
    (of_decide_eq_true (by kernel_rfl)) (by unfold Func.isWrapper; first | (rw [if_pos (by decide +kernel)]; kernel_rfl) | (rw [if_neg (by decide +kernel)]; exact ⟨rfl, rfl⟩))
    (λc a H b _ => E_ c a H b)

theorem resetReaches_holds : Rows.ResetReachesCardSaid :=
  Claim7.holds_tied_plain_at .later [] [.data] true (true, "d0325af19ad1891d4d3b42ce6648ac6692c556883d91e30701cf8b087a058b31") true HT (λ_ h => by cases h) (by kernel_rfl) (λ_ h => by cases h) resetReaches_row_tie Z ⟨rfl, rfl⟩ (by kernel_rfl) Z
    (λf d e b => by
      obtain rfl : f = 5 := Option.some.inj ((show Tryz.prog.funcNamed "selfstab/selfstablaw38.ResetReaches" = some 5 by kernel_rfl).symm.trans e) |>.symm;obtain rfl : d = Tryz.f5 := (Option.some.inj (Tryz.func5.symm.trans b)).symm;exact ⟨by kernel_rfl, λj t c => by
        rw [Tryz.params5] at c;have g : t ∈ [24, 22, 26] := by simpa using Array.mem_of_getElem? c
        have a : ([24, 22, 26].all λu => !Tryz.prog.wantsStandIn u) = true := by kernel_rfl
        exact (show Tryz.prog.wantsStandIn t = false by simpa using List.all_eq_true.1 a t g)⟩)
    (by kernel_rfl)
end Go.Proofs.YtmdlcmbplnhdnaaGreatDoor
