/- TopFaultsAreCounted returns true for every input, and leaves its arguments as they were; with what its row lists tied to the program's text. Conditions: none. -/
import Derived.Test.YtjkjpdonlpdcaaaGreatDoorZTFaArCo1
import Derived.Test.YtjkjpdonlpdcaaaGreatDoorZTFaArCo2
import Derived.Test.YtjkjpdonlpdcaaaGreatDoorZTFaArCo3
import Derived.Test.YtjkjpdonlpdcaaaGreatDoorZTFaArCo4
import Derived.Test.YtjkjpdonlpdcaaaGreatDoorZTFaArCo5
import Derived.Test.YtjkjpdonlpdcaaaGreatDoorZTFaArCo6
import Derived.Test.YtjkjpdonlpdcaaaGreatDoorZTFaArCo7
import Derived.Test.YtjkjpdonlpdcaaaGreatDoorZTFaArCo8
import Derived.Test.YtjkjpdonlpdcaaaGreatDoorZTFaArCo9
import Derived.Test.YtjkjpdonlpdcaaaGreatDoorTie
import Derived.Test.YtjkjpdonlpdcaaaGreatDoorCards
import Derived.SevenTiedAt
namespace Go.Proofs.YtjkjpdonlpdcaaaGreatDoor
open Go.Sx Go.RowKit Go.ChangeShapes Go.WideShapes Go.ChangeAt Go.Joins

set_option maxHeartbeats 4000000 in
set_option maxRecDepth 100000 in
theorem Ai (v : Os) (i : v.Started) (H : Type) (h : TypeId × Value → H) :
    ReturnsInHanded {} Tryz.pinned.checked v 4 .any (λw b => (Rows.topFaultsAreCountedSpec.pre h Tryz.prog Tryz.f4 [] false w b ∧ laidMetH Tryz.prog [("math/bits.deBruijn32tab", Rows.laid_math_bits_deBruijn32tab)] w) ∧ sizedMet h Tryz.prog Tryz.f4 (OpenSpec.ofChange Rows.topFaultsAreCountedSpec) false w b) (Rows.topFaultsAreCountedSpec.post h Tryz.prog Tryz.f4 false Rows.topFaultsAreCountedRow.fresh false false) := by
  refine Nn [("math/bits.deBruijn32tab", Rows.laid_math_bits_deBruijn32tab)] Z i Tryz.func4 (by kernel_rfl) (by kernel_rfl) Z Z ?_
    (ChangeSpec.witness_shaped (enc := h) (C := Tryz.pinned.checked) (os := v) (X := λw _ => laidMetH Tryz.prog [("math/bits.deBruijn32tab", Rows.laid_math_bits_deBruijn32tab)] w) false (World.laidAll Tryz.prog v [("math/bits.deBruijn32tab", Rows.laid_math_bits_deBruijn32tab)]) #[.bool false, .agg #[.int .i64 0, .slice none 0 0, .slice none 0 0, .slice none 0 0, .bool false, .bool false], .slice none 0 0, .slice none 0 0, .slice none 0 0] 8 (World.laidAll_os _ _ _)
      (World.shaped_of_ZipB (by kernel_rfl) (by kernel_rfl)) (by kernel_rfl) (by kernel_rfl) (by kernel_rfl)
      (by rw [MakeChecks.laidMetH_plain _ _ _ (by rfl)]; exact laidMet_laidAll _ (by kernel_rfl) (by kernel_rfl))) ?_
  · intro P u
    match P, u with
    | [Y, d2, d3, d4, d5], _ => rfl
  · intro W O b P p I a Q;have hL : laidMetH Tryz.prog [("math/bits.deBruijn32tab", .agg (qP.map λx => .lit (.int .u8 x)))] W := I;rw [Tryz.params4] at Q a;obtain ⟨S, af, d0, aa, p0, q0, B, rfl, rfl, h0, r0⟩ := trodAll_cons Q;obtain ⟨L, ag, Y, ab, p1, q1, D, rfl, rfl, h1, r1⟩ := trodAll_cons r0;obtain ⟨M, ah, d2, ac, p2, q2, E, rfl, rfl, h2, r2⟩ := trodAll_cons r1;obtain ⟨T, ai, d3, ad, p3, q3, F, rfl, rfl, h3, r3⟩ := trodAll_cons r2;obtain ⟨U, aj, d4, ae, p4, q4, G, rfl, rfl, h4, r4⟩ := trodAll_cons r3;obtain ⟨rfl, rfl, rfl⟩ := trodAll_nil r4;obtain rfl : b = #[S, L, M, T, U] := by cases b; simp_all
    obtain ⟨N, rfl, rfl, rfl⟩ := open_bool Tryz.underlying4 (a 0 4 S Z Z) h0;obtain ⟨c, Y1, n1, V, m⟩ := Vw Tryz.underlying24 (by kernel_rfl) (by kernel_rfl) (a 1 24 L Z Z) h1;obtain ⟨d, n⟩ := Vf Tryz.underlying3 (m 0 _ Z);obtain ⟨j, r⟩ := xE (eG.int .i64) Tryz.underlying22 (by kernel_rfl) (IG Tryz.underlying3) (m 1 _ Z);obtain ⟨k, s⟩ := xE (eG.int .i64) Tryz.underlying22 (by kernel_rfl) (IG Tryz.underlying3) (m 2 _ Z);obtain ⟨l, t⟩ := xE (eG.int .i64) Tryz.underlying22 (by kernel_rfl) (IG Tryz.underlying3) (m 3 _ Z);obtain ⟨e, o⟩ := Ku Tryz.underlying4 (m 4 _ Z);obtain ⟨f, q⟩ := Ku Tryz.underlying4 (m 5 _ Z);obtain rfl : L = .agg #[.int .i64 d, c 1, c 2, c 3, .bool e, .bool f] := by
      rw [V];show Value.agg #[c 0, c 1, c 2, c 3, c 4, c 5] = _;rw [n, o, q]
    obtain ⟨y, f2⟩ := LP (a 2 22 M Z Z) h2;obtain ⟨u3, l3, k3, rfl⟩ := okWide_slice Tryz.underlying57 (a 3 57 T Z Z);obtain ⟨n3, J⟩ := h3;obtain ⟨z, f3⟩ := xE ((eG.int .i64).pair ((eG.int .i64).pair (eG.int .i64))) Tryz.underlying57 (by kernel_rfl) (aau Tryz.underlying62 (by kernel_rfl) (by kernel_rfl) Tryz.underlying3 Tryz.underlying3 Tryz.underlying3) (by simpa [Value.cells] using J);obtain ⟨u4, l4, k4, rfl⟩ := okWide_slice Tryz.underlying29 (a 4 29 U Z Z);obtain ⟨n4, K⟩ := h4;obtain ⟨A, f4⟩ := xE (eG.int .u32) Tryz.underlying29 (by kernel_rfl) (IG Tryz.underlying31) (by simpa [Value.cells] using K);exact IB (Am (p0 := N) (p1 := (d, j, k, l, e, f)) (p2 := y) (p3 := z) (p4 := A) 1000 (c 1) (c 2) (c 3) M _ _ true (Nj N (d, j, k, l, e, f) y z A)) (λg R => by
      simp only [List.mem_cons, List.not_mem_nil, or_false] at R;rcases R with rfl | rfl | rfl | rfl | rfl | rfl | rfl
      · exact r
      · exact s
      · exact t
      · exact f2
      · exact f3
      · exact f4
      · exact Pn (SP hL) (by kernel_rfl) (by kernel_rfl) Tryz.underlying240 Tryz.underlying5 (by kernel_rfl) (by kernel_rfl) (by decide)
 )

theorem Bp : Rows.TopFaultsAreCountedSaid :=
  OpenClaim.holds_of_wide 4 Tryz.f4 Z Z Z Z Z Z Z ⟨rfl, rfl, rfl, rfl, rfl⟩ Z Z Z Z Z (by kernel_rfl) Tryz.func4 (by kernel_rfl)
    (of_decide_eq_true (by kernel_rfl)) (by unfold Func.isWrapper; first | (rw [if_pos (by decide +kernel)]; kernel_rfl) | (rw [if_neg (by decide +kernel)]; exact ⟨rfl, rfl⟩))
    (λc a H b _ => Ai c a H b)

theorem topFaultsAreCounted_holds : Rows.TopFaultsAreCountedCardSaid :=
  Claim7.holds_tied_plain_at .later [] [.data] true (true, "5a6e2a4a94974c5650e528137117dab0c4ca181bb2ce36a63d934ad48231a961") true Bp (λ_ h => by cases h) (by kernel_rfl) (λ_ h => by cases h) topFaultsAreCounted_row_tie Z ⟨rfl, rfl⟩ (by kernel_rfl) Z
    (λf d e b => by
      obtain rfl : f = 4 := Option.some.inj ((show Tryz.prog.funcNamed "selfstab/selfstabtop.TopFaultsAreCounted" = some 4 by kernel_rfl).symm.trans e) |>.symm;obtain rfl : d = Tryz.f4 := (Option.some.inj (Tryz.func4.symm.trans b)).symm;exact ⟨by kernel_rfl, λj t c => by
        rw [Tryz.params4] at c;have g : t ∈ [4, 24, 22, 57, 29] := by simpa using Array.mem_of_getElem? c
        have a : ([4, 24, 22, 57, 29].all λu => !Tryz.prog.wantsStandIn u) = true := by kernel_rfl
        exact (show Tryz.prog.wantsStandIn t = false by simpa using List.all_eq_true.1 a t g)⟩)
    (by kernel_rfl)
end Go.Proofs.YtjkjpdonlpdcaaaGreatDoor
