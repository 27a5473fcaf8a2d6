/- ResetClears returns true for every input, and leaves its arguments as they were; with what its row lists tied to the program's text. Conditions: none. -/
import Derived.Test.YtmdlcmbplnhdnaaGreatDoorZRCl1
import Derived.Test.YtmdlcmbplnhdnaaGreatDoorZRCl2
import Derived.Test.YtmdlcmbplnhdnaaGreatDoorZRCl3
import Derived.Test.YtmdlcmbplnhdnaaGreatDoorZRCl4
import Derived.Test.YtmdlcmbplnhdnaaGreatDoorZRCl5
import Derived.Test.YtmdlcmbplnhdnaaGreatDoorZRCl6
import Derived.Test.YtmdlcmbplnhdnaaGreatDoorZRCl7
import Derived.Test.YtmdlcmbplnhdnaaGreatDoorZRCl8
import Derived.Test.YtmdlcmbplnhdnaaGreatDoorZRCl9
import Derived.Test.YtmdlcmbplnhdnaaGreatDoorTie
import Derived.Test.YtmdlcmbplnhdnaaGreatDoorCards
import Derived.SevenTiedAt
namespace Go.Proofs.YtmdlcmbplnhdnaaGreatDoor
open Go.Sx Go.RowKit Go.ChangeShapes Go.WideShapes Go.ChangeAt Go.Joins

set_option maxHeartbeats 4000000 in
set_option maxRecDepth 100000 in
theorem Fx (v : Os) (i : v.Started) (H : Type) (h : TypeId × Value → H) :
    ReturnsInHanded {} Tryz.pinned.checked v 3 .any (λw a => (Rows.resetClearsSpec.pre h Tryz.prog Tryz.f3 [] false w a ∧ laidMetH Tryz.prog [("math/bits.deBruijn32tab", Rows.laid_math_bits_deBruijn32tab)] w) ∧ sizedMet h Tryz.prog Tryz.f3 (OpenSpec.ofChange Rows.resetClearsSpec) false w a) (Rows.resetClearsSpec.post h Tryz.prog Tryz.f3 false Rows.resetClearsRow.fresh false false) := by
  refine OQ [("math/bits.deBruijn32tab", Rows.laid_math_bits_deBruijn32tab)] Z i Tryz.func3 (by kernel_rfl) (by kernel_rfl) Z Z ?_
    (ChangeSpec.witness_shaped (enc := h) (C := Tryz.pinned.checked) (os := v) (X := λw _ => laidMetH Tryz.prog [("math/bits.deBruijn32tab", Rows.laid_math_bits_deBruijn32tab)] w) false (World.laidAll Tryz.prog v [("math/bits.deBruijn32tab", Rows.laid_math_bits_deBruijn32tab)]) #[.agg #[.int .i64 0, .slice none 0 0, .slice none 0 0, .slice none 0 0, .bool false, .bool false], .slice none 0 0, .int .u32 0, .slice none 0 0] 8 (World.laidAll_os _ _ _)
      (World.shaped_of_ZipB (by kernel_rfl) (by kernel_rfl)) (by kernel_rfl) (by kernel_rfl) (by kernel_rfl)
      (by rw [MakeChecks.laidMetH_plain _ _ _ (by rfl)]; exact laidMet_laidAll _ (by kernel_rfl) (by kernel_rfl))) ?_
  · intro M u
    match M, u with
    | [T, U, V, d4], _ => rfl
  · intro W L a M p F b N;have hL : laidMetH Tryz.prog [("math/bits.deBruijn32tab", .agg (xJ.map λx => .lit (.int .u8 x)))] W := F;rw [Tryz.params3] at N b;obtain ⟨I, ad, d0, Y, p0, q0, A, rfl, rfl, h0, r0⟩ := trodAll_cons N;obtain ⟨J, ae, T, aa, p1, q1, B, rfl, rfl, h1, r1⟩ := trodAll_cons r0;obtain ⟨P, af, U, ab, p2, q2, D, rfl, rfl, h2, r2⟩ := trodAll_cons r1;obtain ⟨Q, ag, V, ac, p3, q3, E, rfl, rfl, h3, r3⟩ := trodAll_cons r2;obtain ⟨rfl, rfl, rfl⟩ := trodAll_nil r3;obtain rfl : a = #[I, J, P, Q] := by cases a; simp_all
    obtain ⟨c, Y0, n0, S, m⟩ := XY Tryz.underlying24 (by kernel_rfl) (by kernel_rfl) (b 0 24 I Z Z) h0;obtain ⟨d, n⟩ := XC Tryz.underlying3 (m 0 _ Z);obtain ⟨j, r⟩ := AR (eI.int .i64) Tryz.underlying22 (by kernel_rfl) (JL Tryz.underlying3) (m 1 _ Z);obtain ⟨k, s⟩ := AR (eI.int .i64) Tryz.underlying22 (by kernel_rfl) (JL Tryz.underlying3) (m 2 _ Z);obtain ⟨l, t⟩ := AR (eI.int .i64) Tryz.underlying22 (by kernel_rfl) (JL Tryz.underlying3) (m 3 _ Z);obtain ⟨e, o⟩ := LB Tryz.underlying4 (m 4 _ Z);obtain ⟨f, q⟩ := LB Tryz.underlying4 (m 5 _ Z);obtain rfl : I = .agg #[.int .i64 d, c 1, c 2, c 3, .bool e, .bool f] := by
      rw [S];show Value.agg #[c 0, c 1, c 2, c 3, c 4, c 5] = _;rw [n, o, q]
    obtain ⟨y, f1⟩ := Nl (b 1 22 J Z Z) h1;obtain ⟨K, rfl, rfl, rfl, R⟩ := open_int Tryz.underlying25 (b 2 25 P Z Z) h2;obtain ⟨u3, l3, k3, rfl⟩ := okWide_slice Tryz.underlying26 (b 3 26 Q Z Z);obtain ⟨n3, G⟩ := h3;obtain ⟨z, f3⟩ := AR (eI.int .u32) Tryz.underlying26 (by kernel_rfl) (JL Tryz.underlying25) (by simpa [Value.cells] using G);exact JC (EG (p0 := (d, j, k, l, e, f)) (p1 := y) (p2 := K) (p3 := z) 1000 (c 1) (c 2) (c 3) J _ true (OC (d, j, k, l, e, f) y K z (Y_ R).1 (Y_ R).2)) (λg O => by
      simp only [List.mem_cons, List.not_mem_nil, or_false] at O;rcases O with rfl | rfl | rfl | rfl | rfl | rfl
      · exact r
      · exact s
      · exact t
      · exact f1
      · exact f3
      · exact Rf (UJ hL) (by kernel_rfl) (by kernel_rfl) Tryz.underlying223 Tryz.underlying5 (by kernel_rfl) (by kernel_rfl) (by decide)
 )

theorem Io : Rows.ResetClearsSaid :=
  OpenClaim.holds_of_wide 3 Tryz.f3 Z Z Z Z Z Z Z ⟨rfl, rfl, rfl, rfl, rfl⟩ Z Z Z Z Z (by kernel_rfl) Tryz.func3 (by kernel_rfl)
    (of_decide_eq_true (by kernel_rfl)) (by unfold Func.isWrapper; first | (rw [if_pos (by decide +kernel)]; kernel_rfl) | (rw [if_neg (by decide +kernel)]; exact ⟨rfl, rfl⟩))
    (λc a H b _ => Fx c a H b)

theorem resetClears_holds : Rows.ResetClearsCardSaid :=
  Claim7.holds_tied_plain_at .later [] [.data] true (true, "d0325af19ad1891d4d3b42ce6648ac6692c556883d91e30701cf8b087a058b31") true Io (λ_ h => by cases h) (by kernel_rfl) (λ_ h => by cases h) resetClears_row_tie Z ⟨rfl, rfl⟩ (by kernel_rfl) Z
    (λf d e b => by
      obtain rfl : f = 3 := Option.some.inj ((show Tryz.prog.funcNamed "selfstab/selfstablaw38.ResetClears" = some 3 by kernel_rfl).symm.trans e) |>.symm;obtain rfl : d = Tryz.f3 := (Option.some.inj (Tryz.func3.symm.trans b)).symm;exact ⟨by kernel_rfl, λj t c => by
        rw [Tryz.params3] at c;have g : t ∈ [24, 22, 25, 26] := by simpa using Array.mem_of_getElem? c
        have a : ([24, 22, 25, 26].all λu => !Tryz.prog.wantsStandIn u) = true := by kernel_rfl
        exact (show Tryz.prog.wantsStandIn t = false by simpa using List.all_eq_true.1 a t g)⟩)
    (by kernel_rfl)
end Go.Proofs.YtmdlcmbplnhdnaaGreatDoor
