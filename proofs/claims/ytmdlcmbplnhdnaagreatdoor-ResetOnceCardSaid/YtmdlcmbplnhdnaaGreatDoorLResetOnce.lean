/- ResetOnce returns true for every input, and leaves its arguments as they were; with what its row lists tied to the program's text. Conditions: none. -/
import Derived.Test.YtmdlcmbplnhdnaaGreatDoorZROn1
import Derived.Test.YtmdlcmbplnhdnaaGreatDoorZROn2
import Derived.Test.YtmdlcmbplnhdnaaGreatDoorZROn3
import Derived.Test.YtmdlcmbplnhdnaaGreatDoorZROn4
import Derived.Test.YtmdlcmbplnhdnaaGreatDoorZROn5
import Derived.Test.YtmdlcmbplnhdnaaGreatDoorZROn6
import Derived.Test.YtmdlcmbplnhdnaaGreatDoorZROn7
import Derived.Test.YtmdlcmbplnhdnaaGreatDoorZROn8
import Derived.Test.YtmdlcmbplnhdnaaGreatDoorZROn9
import Derived.Test.YtmdlcmbplnhdnaaGreatDoorTie
import Derived.Test.YtmdlcmbplnhdnaaGreatDoorCards
import Derived.SevenTiedAt
namespace Go.Proofs.YtmdlcmbplnhdnaaGreatDoor
open Go.Sx Go.RowKit Go.ChangeShapes Go.WideShapes Go.ChangeAt Go.Joins

set_option maxHeartbeats 4000000 in
set_option maxRecDepth 100000 in
theorem Ha (v : Os) (i : v.Started) (H : Type) (h : TypeId × Value → H) :
    ReturnsInHanded {} Tryz.pinned.checked v 4 .any (λw a => (Rows.resetOnceSpec.pre h Tryz.prog Tryz.f4 [] false w a ∧ laidMetH Tryz.prog [("math/bits.deBruijn32tab", Rows.laid_math_bits_deBruijn32tab)] w) ∧ sizedMet h Tryz.prog Tryz.f4 (OpenSpec.ofChange Rows.resetOnceSpec) false w a) (Rows.resetOnceSpec.post h Tryz.prog Tryz.f4 false Rows.resetOnceRow.fresh false false) := by
  refine Og [("math/bits.deBruijn32tab", Rows.laid_math_bits_deBruijn32tab)] Z i Tryz.func4 (by kernel_rfl) (by kernel_rfl) Z Z ?_
    (ChangeSpec.witness_shaped (enc := h) (C := Tryz.pinned.checked) (os := v) (X := λw _ => laidMetH Tryz.prog [("math/bits.deBruijn32tab", Rows.laid_math_bits_deBruijn32tab)] w) false (World.laidAll Tryz.prog v [("math/bits.deBruijn32tab", Rows.laid_math_bits_deBruijn32tab)]) #[.agg #[.int .i64 0, .slice none 0 0, .slice none 0 0, .slice none 0 0, .bool false, .bool false], .int .i64 0, .slice none 0 0] 8 (World.laidAll_os _ _ _)
      (World.shaped_of_ZipB (by kernel_rfl) (by kernel_rfl)) (by kernel_rfl) (by kernel_rfl) (by kernel_rfl)
      (by rw [MakeChecks.laidMetH_plain _ _ _ (by rfl)]; exact laidMet_laidAll _ (by kernel_rfl) (by kernel_rfl))) ?_
  · intro J u
    match J, u with
    | [P, Q, d3], _ => rfl
  · intro W I a J p D b K;have hL : laidMetH Tryz.prog [("math/bits.deBruijn32tab", .agg (wD.map λx => .lit (.int .u8 x)))] W := D;rw [Tryz.params4] at K b;obtain ⟨F, aa, d0, R, p0, q0, z, rfl, rfl, V, r0⟩ := trodAll_cons K;obtain ⟨M, ab, P, S, p1, q1, A, rfl, rfl, Y, r1⟩ := trodAll_cons r0;obtain ⟨N, ac, Q, T, p2, q2, B, rfl, rfl, h2, r2⟩ := trodAll_cons r1;obtain ⟨rfl, rfl, rfl⟩ := trodAll_nil r2;obtain rfl : a = #[F, M, N] := by cases a; simp_all
    obtain ⟨c, Y0, n0, O, m⟩ := Xs Tryz.underlying24 (by kernel_rfl) (by kernel_rfl) (b 0 24 F Z Z) V;obtain ⟨d, n⟩ := WX Tryz.underlying3 (m 0 _ Z);obtain ⟨j, r⟩ := Cj (eD.int .i64) Tryz.underlying22 (by kernel_rfl) (Mi Tryz.underlying3) (m 1 _ Z);obtain ⟨k, s⟩ := Cj (eD.int .i64) Tryz.underlying22 (by kernel_rfl) (Mi Tryz.underlying3) (m 2 _ Z);obtain ⟨l, t⟩ := Cj (eD.int .i64) Tryz.underlying22 (by kernel_rfl) (Mi Tryz.underlying3) (m 3 _ Z);obtain ⟨e, o⟩ := KS Tryz.underlying4 (m 4 _ Z);obtain ⟨f, q⟩ := KS Tryz.underlying4 (m 5 _ Z);obtain rfl : F = .agg #[.int .i64 d, c 1, c 2, c 3, .bool e, .bool f] := by
      rw [O];show Value.agg #[c 0, c 1, c 2, c 3, c 4, c 5] = _;rw [n, o, q]
    obtain ⟨G, rfl, rfl, rfl, w1⟩ := open_int Tryz.underlying3 (b 1 3 M Z Z) Y;obtain ⟨u2, l2, k2, rfl⟩ := okWide_slice Tryz.underlying26 (b 2 26 N Z Z);obtain ⟨n2, E⟩ := h2;obtain ⟨y, U⟩ := Cj (eD.int .u32) Tryz.underlying26 (by kernel_rfl) (Mi Tryz.underlying25) (by simpa [Value.cells] using E);exact IZ (Gh (p0 := (d, j, k, l, e, f)) (p1 := G) (p2 := y) 1000 (c 1) (c 2) (c 3) _ true (Un (d, j, k, l, e, f) G y)) (λg L => by
      simp only [List.mem_cons, List.not_mem_nil, or_false] at L;rcases L with rfl | rfl | rfl | rfl | rfl
      · exact r
      · exact s
      · exact t
      · exact U
      · exact QC (Uf hL) (by kernel_rfl) (by kernel_rfl) Tryz.underlying223 Tryz.underlying5 (by kernel_rfl) (by kernel_rfl) (by decide)
 )

theorem Km : Rows.ResetOnceSaid :=
  OpenClaim.holds_of_wide 4 Tryz.f4 Z Z Z Z Z Z Z ⟨rfl, rfl, rfl, rfl, rfl⟩ Z Z Z Z Z (by kernel_rfl) Tryz.func4 (by kernel_rfl)
    (of_decide_eq_true (by kernel_rfl)) (by unfold Func.isWrapper; first | (rw [if_pos (by decide +kernel)]; kernel_rfl) | (rw [if_neg (by decide +kernel)]; exact ⟨rfl, rfl⟩))
    (λc a H b _ => Ha c a H b)

theorem resetOnce_holds : Rows.ResetOnceCardSaid :=
  Claim7.holds_tied_plain_at .later [] [.data] true (true, "d0325af19ad1891d4d3b42ce6648ac6692c556883d91e30701cf8b087a058b31") true Km (λ_ h => by cases h) (by kernel_rfl) (λ_ h => by cases h) resetOnce_row_tie Z ⟨rfl, rfl⟩ (by kernel_rfl) Z
    (λf d e b => by
      obtain rfl : f = 4 := Option.some.inj ((show Tryz.prog.funcNamed "selfstab/selfstablaw38.ResetOnce" = some 4 by kernel_rfl).symm.trans e) |>.symm;obtain rfl : d = Tryz.f4 := (Option.some.inj (Tryz.func4.symm.trans b)).symm;exact ⟨by kernel_rfl, λj t c => by
        rw [Tryz.params4] at c;have g : t ∈ [24, 3, 26] := by simpa using Array.mem_of_getElem? c
        have a : ([24, 3, 26].all λu => !Tryz.prog.wantsStandIn u) = true := by kernel_rfl
        exact (show Tryz.prog.wantsStandIn t = false by simpa using List.all_eq_true.1 a t g)⟩)
    (by kernel_rfl)
end Go.Proofs.YtmdlcmbplnhdnaaGreatDoor
