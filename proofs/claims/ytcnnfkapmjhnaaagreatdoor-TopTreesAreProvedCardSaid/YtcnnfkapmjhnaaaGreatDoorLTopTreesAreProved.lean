/- TopTreesAreProved returns true for every input, and leaves its arguments as they were; with what its row lists tied to the program's text. Conditions: none. -/
import Derived.Test.YtcnnfkapmjhnaaaGreatDoorZTTr1
import Derived.Test.YtcnnfkapmjhnaaaGreatDoorZTTr2
import Derived.Test.YtcnnfkapmjhnaaaGreatDoorZTTr3
import Derived.Test.YtcnnfkapmjhnaaaGreatDoorZTTr4
import Derived.Test.YtcnnfkapmjhnaaaGreatDoorZTTr5
import Derived.Test.YtcnnfkapmjhnaaaGreatDoorZTTr6
import Derived.Test.YtcnnfkapmjhnaaaGreatDoorZTTr7
import Derived.Test.YtcnnfkapmjhnaaaGreatDoorZTTr8
import Derived.Test.YtcnnfkapmjhnaaaGreatDoorZTTr9
import Derived.Test.YtcnnfkapmjhnaaaGreatDoorZTTr10
import Derived.Test.YtcnnfkapmjhnaaaGreatDoorZTTr11
import Derived.Test.YtcnnfkapmjhnaaaGreatDoorZTTr12
import Derived.Test.YtcnnfkapmjhnaaaGreatDoorZTTr13
import Derived.Test.YtcnnfkapmjhnaaaGreatDoorTie
import Derived.Test.YtcnnfkapmjhnaaaGreatDoorCards
import Derived.SevenTiedAt
namespace Go.Proofs.YtcnnfkapmjhnaaaGreatDoor
open Go.Sx Go.RowKit Go.ChangeShapes Go.WideShapes Go.ChangeAt Go.Joins

set_option maxHeartbeats 4000000 in
set_option maxRecDepth 100000 in
theorem Df (v : Os) (i : v.Started) (H : Type) (h : TypeId × Value → H) :
    ReturnsInHanded {} Tryz.pinned.checked v 3 .any (λw b => (Rows.topTreesAreProvedSpec.pre h Tryz.prog Tryz.f3 [] false w b ∧ laidMetH Tryz.prog [("math/bits.deBruijn32tab", Rows.laid_math_bits_deBruijn32tab)] w) ∧ sizedMet h Tryz.prog Tryz.f3 (OpenSpec.ofChange Rows.topTreesAreProvedSpec) false w b) (Rows.topTreesAreProvedSpec.post h Tryz.prog Tryz.f3 false Rows.topTreesAreProvedRow.fresh false false) := by
  refine Rn [("math/bits.deBruijn32tab", Rows.laid_math_bits_deBruijn32tab)] Z i Tryz.func3 (by kernel_rfl) (by kernel_rfl) Z Z ?_
    (ChangeSpec.witness_shaped (enc := h) (C := Tryz.pinned.checked) (os := v) (X := λw _ => laidMetH Tryz.prog [("math/bits.deBruijn32tab", Rows.laid_math_bits_deBruijn32tab)] w) false (World.laidAll Tryz.prog v [("math/bits.deBruijn32tab", Rows.laid_math_bits_deBruijn32tab)]) #[.int .i64 0, .agg #[.int .i64 0, .slice none 0 0, .slice none 0 0, .slice none 0 0, .bool false, .bool false], .slice none 0 0, .slice none 0 0, .slice none 0 0] 8 (World.laidAll_os _ _ _)
      (World.shaped_of_ZipB (by kernel_rfl) (by kernel_rfl)) (by kernel_rfl) (by kernel_rfl) (by kernel_rfl)
      (by rw [MakeChecks.laidMetH_plain _ _ _ (by rfl)]; exact laidMet_laidAll _ (by kernel_rfl) (by kernel_rfl))) ?_
  · intro P u
    match P, u with
    | [V, Y, d3, d4, d5], _ => rfl
  · intro W O b P p I a Q;have hL : laidMetH Tryz.prog [("math/bits.deBruijn32tab", .agg (AA.map λx => .lit (.int .u8 x)))] W := I;rw [Tryz.params3] at Q a;obtain ⟨S, af, d0, aa, p0, q0, B, rfl, rfl, h0, r0⟩ := trodAll_cons Q;obtain ⟨K, ag, V, ab, p1, q1, D, rfl, rfl, h1, r1⟩ := trodAll_cons r0;obtain ⟨L, ah, Y, ac, p2, q2, E, rfl, rfl, h2, r2⟩ := trodAll_cons r1;obtain ⟨M, ai, d3, ad, p3, q3, F, rfl, rfl, h3, r3⟩ := trodAll_cons r2;obtain ⟨T, aj, d4, ae, p4, q4, G, rfl, rfl, h4, r4⟩ := trodAll_cons r3;obtain ⟨rfl, rfl, rfl⟩ := trodAll_nil r4;obtain rfl : b = #[S, K, L, M, T] := by cases b; simp_all
    obtain ⟨N, rfl, rfl, rfl, w0⟩ := open_int Tryz.underlying3 (a 0 3 S Z Z) h0;obtain ⟨c, Y1, n1, U, m⟩ := ZO Tryz.underlying24 (by kernel_rfl) (by kernel_rfl) (a 1 24 K Z Z) h1;obtain ⟨d, n⟩ := Zo Tryz.underlying3 (m 0 _ Z);obtain ⟨j, r⟩ := Cf (fT.int .i64) Tryz.underlying22 (by kernel_rfl) (Pk Tryz.underlying3) (m 1 _ Z);obtain ⟨k, s⟩ := Cf (fT.int .i64) Tryz.underlying22 (by kernel_rfl) (Pk Tryz.underlying3) (m 2 _ Z);obtain ⟨l, t⟩ := Cf (fT.int .i64) Tryz.underlying22 (by kernel_rfl) (Pk Tryz.underlying3) (m 3 _ Z);obtain ⟨e, o⟩ := Ob Tryz.underlying4 (m 4 _ Z);obtain ⟨f, q⟩ := Ob Tryz.underlying4 (m 5 _ Z);obtain rfl : K = .agg #[.int .i64 d, c 1, c 2, c 3, .bool e, .bool f] := by
      rw [U];show Value.agg #[c 0, c 1, c 2, c 3, c 4, c 5] = _;rw [n, o, q]
    obtain ⟨y, f2⟩ := Ix (a 2 22 L Z Z) h2;obtain ⟨z, f3⟩ := Ix (a 3 22 M Z Z) h3;obtain ⟨u4, l4, k4, rfl⟩ := okWide_slice Tryz.underlying25 (a 4 25 T Z Z);obtain ⟨n4, J⟩ := h4;obtain ⟨A, f4⟩ := Cf (fT.pair (fT.int .i64) (fT.int .i64)) Tryz.underlying25 (by kernel_rfl) (afq Tryz.underlying58 Tryz.underlying3 (by kernel_rfl) (by kernel_rfl)) (by simpa [Value.cells] using J);exact LP (DF (p0 := N) (p1 := (d, j, k, l, e, f)) (p2 := y) (p3 := z) (p4 := A) 1000 (c 1) (c 2) (c 3) L M _ true (Uq N (d, j, k, l, e, f) y z A)) (λg R => by
      simp only [zAk, zB3, or_false] at R;rcases R with rfl | rfl | rfl | rfl | rfl | rfl | rfl
      · exact r
      · exact s
      · exact t
      · exact f2
      · exact f3
      · exact f4
      · exact TJ (WX hL) (by kernel_rfl) (by kernel_rfl) Tryz.underlying227 Tryz.underlying5 (by kernel_rfl) (by kernel_rfl) (by decide)
 )

theorem ES : Rows.TopTreesAreProvedSaid :=
  OpenClaim.holds_of_wide 3 Tryz.f3 Z Z Z Z Z Z Z ⟨rfl, rfl, rfl, rfl, rfl⟩ Z Z Z Z Z (by kernel_rfl) Tryz.func3 (by kernel_rfl)
    (of_decide_eq_true (by kernel_rfl)) (by unfold Func.isWrapper; first | (rw [if_pos (by decide +kernel)]; kernel_rfl) | (rw [if_neg (by decide +kernel)]; exact ⟨rfl, rfl⟩))
    (λc a H b _ => Df c a H b)

theorem topTreesAreProved_holds : Rows.TopTreesAreProvedCardSaid :=
  Claim7.holds_tied_plain_at .later [] [.data] true (true, "e9a847e7ece64170f39b4a2ad4f513f86d25bf96e88e325ada1da8276fe2ae5f") true ES (λ_ h => by cases h) (by kernel_rfl) (λ_ h => by cases h) topTreesAreProved_row_tie Z ⟨rfl, rfl⟩ (by kernel_rfl) Z
    (λf d e b => by
      obtain rfl : f = 3 := Option.some.inj ((show Tryz.prog.funcNamed "selfstab/selfstabtop.TopTreesAreProved" = some 3 by kernel_rfl).symm.trans e) |>.symm;obtain rfl : d = Tryz.f3 := (Option.some.inj (Tryz.func3.symm.trans b)).symm;exact ⟨by kernel_rfl, λj t c => by
        rw [Tryz.params3] at c;have g : t ∈ [3, 24, 22, 22, 25] := by simpa using Array.mem_of_getElem? c
        have a : ([3, 24, 22, 22, 25].all λu => !Tryz.prog.wantsStandIn u) = true := by kernel_rfl
        exact (show Tryz.prog.wantsStandIn t = false by simpa using zA5.1 a t g)⟩)
    (by kernel_rfl)
end Go.Proofs.YtcnnfkapmjhnaaaGreatDoor
