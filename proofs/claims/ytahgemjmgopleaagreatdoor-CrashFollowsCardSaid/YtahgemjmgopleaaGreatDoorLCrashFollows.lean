/- CrashFollows returns true for every input, and leaves its arguments as they were; with what its row lists tied to the program's text. Conditions: none. -/
import Derived.Test.YtahgemjmgopleaaGreatDoorZCFo1
import Derived.Test.YtahgemjmgopleaaGreatDoorZCFo2
import Derived.Test.YtahgemjmgopleaaGreatDoorZCFo3
import Derived.Test.YtahgemjmgopleaaGreatDoorZCFo4
import Derived.Test.YtahgemjmgopleaaGreatDoorZCFo5
import Derived.Test.YtahgemjmgopleaaGreatDoorZCFo6
import Derived.Test.YtahgemjmgopleaaGreatDoorZCFo7
import Derived.Test.YtahgemjmgopleaaGreatDoorZCFo8
import Derived.Test.YtahgemjmgopleaaGreatDoorZCFo9
import Derived.Test.YtahgemjmgopleaaGreatDoorZCFo10
import Derived.Test.YtahgemjmgopleaaGreatDoorZCFo11
import Derived.Test.YtahgemjmgopleaaGreatDoorTie
import Derived.Test.YtahgemjmgopleaaGreatDoorCards
import Derived.SevenTiedAt
namespace Go.Proofs.YtahgemjmgopleaaGreatDoor
open Go.Sx Go.RowKit Go.ChangeShapes Go.WideShapes Go.ChangeAt Go.Joins

set_option maxHeartbeats 4000000 in
set_option maxRecDepth 100000 in
theorem HE (v : Os) (i : v.Started) (H : Type) (h : TypeId × Value → H) :
    ReturnsInHanded {} Tryz.pinned.checked v 4 .any (λw b => (Rows.crashFollowsSpec.pre h Tryz.prog Tryz.f4 [] false w b ∧ laidMetH Tryz.prog [("math/bits.deBruijn32tab", Rows.laid_math_bits_deBruijn32tab)] w) ∧ sizedMet h Tryz.prog Tryz.f4 (OpenSpec.ofChange Rows.crashFollowsSpec) false w b) (Rows.crashFollowsSpec.post h Tryz.prog Tryz.f4 false Rows.crashFollowsRow.fresh false false) := by
  refine Sv [("math/bits.deBruijn32tab", Rows.laid_math_bits_deBruijn32tab)] Z i Tryz.func4 (by kernel_rfl) (by kernel_rfl) Z Z ?_
    (ChangeSpec.witness_shaped (enc := h) (C := Tryz.pinned.checked) (os := v) (X := λw _ => laidMetH Tryz.prog [("math/bits.deBruijn32tab", Rows.laid_math_bits_deBruijn32tab)] w) false (World.laidAll Tryz.prog v [("math/bits.deBruijn32tab", Rows.laid_math_bits_deBruijn32tab)]) #[.agg #[.int .i64 0, .slice none 0 0, .slice none 0 0, .slice none 0 0, .bool false, .bool false], .slice none 0 0, .int .i64 0, .int .u32 0, .slice none 0 0] 8 (World.laidAll_os _ _ _)
      (World.shaped_of_ZipB (by kernel_rfl) (by kernel_rfl)) (by kernel_rfl) (by kernel_rfl) (by kernel_rfl)
      (by rw [MakeChecks.laidMetH_plain _ _ _ (by rfl)]; exact laidMet_laidAll _ (by kernel_rfl) (by kernel_rfl))) ?_
  · intro O u
    match O, u with
    | [Y, d2, d3, d4, d5], _ => rfl
  · intro W N b O p G a P;have hL : laidMetH Tryz.prog [("math/bits.deBruijn32tab", .agg (vE.map λx => .lit (.int .u8 x)))] W := G;rw [Tryz.params4] at P a;obtain ⟨J, af, d0, aa, p0, q0, A, rfl, rfl, h0, r0⟩ := trodAll_cons P;obtain ⟨K, ag, Y, ab, p1, q1, B, rfl, rfl, h1, r1⟩ := trodAll_cons r0;obtain ⟨R, ah, d2, ac, p2, q2, D, rfl, rfl, h2, r2⟩ := trodAll_cons r1;obtain ⟨S, ai, d3, ad, p3, q3, E, rfl, rfl, h3, r3⟩ := trodAll_cons r2;obtain ⟨T, aj, d4, ae, p4, q4, F, rfl, rfl, h4, r4⟩ := trodAll_cons r3;obtain ⟨rfl, rfl, rfl⟩ := trodAll_nil r4;obtain rfl : b = #[J, K, R, S, T] := by cases b; simp_all
    obtain ⟨c, Y0, n0, V, m⟩ := aad Tryz.underlying24 (by kernel_rfl) (by kernel_rfl) (a 0 24 J Z Z) h0;obtain ⟨d, n⟩ := ZO Tryz.underlying3 (m 0 _ Z);obtain ⟨j, r⟩ := Dl (gA.int .i64) Tryz.underlying22 (by kernel_rfl) (ME Tryz.underlying3) (m 1 _ Z);obtain ⟨k, s⟩ := Dl (gA.int .i64) Tryz.underlying22 (by kernel_rfl) (ME Tryz.underlying3) (m 2 _ Z);obtain ⟨l, t⟩ := Dl (gA.int .i64) Tryz.underlying22 (by kernel_rfl) (ME Tryz.underlying3) (m 3 _ Z);obtain ⟨e, o⟩ := OS Tryz.underlying4 (m 4 _ Z);obtain ⟨f, q⟩ := OS Tryz.underlying4 (m 5 _ Z);obtain rfl : J = .agg #[.int .i64 d, c 1, c 2, c 3, .bool e, .bool f] := by
      rw [V];show Value.agg #[c 0, c 1, c 2, c 3, c 4, c 5] = _;rw [n, o, q]
    obtain ⟨y, f1⟩ := QC (a 1 22 K Z Z) h1;obtain ⟨L, rfl, rfl, rfl, w2⟩ := open_int Tryz.underlying3 (a 2 3 R Z Z) h2;obtain ⟨M, rfl, rfl, rfl, U⟩ := open_int Tryz.underlying26 (a 3 26 S Z Z) h3;obtain ⟨u4, l4, k4, rfl⟩ := okWide_slice Tryz.underlying25 (a 4 25 T Z Z);obtain ⟨n4, I⟩ := h4;obtain ⟨z, f4⟩ := Dl (gA.int .u32) Tryz.underlying25 (by kernel_rfl) (ME Tryz.underlying26) (by simpa [Value.cells] using I);exact MA (GQ (p0 := (d, j, k, l, e, f)) (p1 := y) (p2 := L) (p3 := M) (p4 := z) 1000 (c 1) (c 2) (c 3) K _ true (Qk (d, j, k, l, e, f) y L M z (aaY U).1 (aaY U).2)) (λg Q => by
      simp only [zAn, zB7, or_false] at Q;rcases Q with rfl | rfl | rfl | rfl | rfl | rfl
      · exact r
      · exact s
      · exact t
      · exact f1
      · exact f4
      · exact Us (Xr hL) (by kernel_rfl) (by kernel_rfl) Tryz.underlying118 Tryz.underlying5 (by kernel_rfl) (by kernel_rfl) (by decide)
 )

theorem Kg : Rows.CrashFollowsSaid :=
  OpenClaim.holds_of_wide 4 Tryz.f4 Z Z Z Z Z Z Z ⟨rfl, rfl, rfl, rfl, rfl⟩ Z Z Z Z Z (by kernel_rfl) Tryz.func4 (by kernel_rfl)
    (zBg (by kernel_rfl)) (by unfold Func.isWrapper; first | (rw [if_pos (by decide +kernel)]; kernel_rfl) | (rw [if_neg (by decide +kernel)]; exact ⟨rfl, rfl⟩))
    (λc a H b _ => HE c a H b)

theorem crashFollows_holds : Rows.CrashFollowsCardSaid :=
  Claim7.holds_tied_plain_at .later [] [.data] true (true, "2586e35087845dc8ae544c79dd001266548ade16680e2267fb2e4a974e8d23e0") true Kg (λ_ h => by cases h) (by kernel_rfl) (λ_ h => by cases h) crashFollows_row_tie Z ⟨rfl, rfl⟩ (by kernel_rfl) Z
    (λf d e b => by
      obtain rfl : f = 4 := Option.some.inj ((show Tryz.prog.funcNamed "selfstab/selfstablaw44.CrashFollows" = some 4 by kernel_rfl).symm.trans e) |>.symm;obtain rfl : d = Tryz.f4 := (Option.some.inj (Tryz.func4.symm.trans b)).symm;exact ⟨by kernel_rfl, λj t c => by
        rw [Tryz.params4] at c;have g : t ∈ [24, 22, 3, 26, 25] := by simpa using Array.mem_of_getElem? c
        have a : ([24, 22, 3, 26, 25].all λu => !Tryz.prog.wantsStandIn u) = true := by kernel_rfl
        exact (show Tryz.prog.wantsStandIn t = false by simpa using zA4.1 a t g)⟩)
    (by kernel_rfl)
end Go.Proofs.YtahgemjmgopleaaGreatDoor
