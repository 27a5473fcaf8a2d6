/- RelaySteps returns true for every input, and leaves its arguments as they were. Conditions: none. -/
import Derived.Test.YtflciafboapaaaaGreatZRSp1
import Derived.Test.YtflciafboapaaaaGreatZRSp2
import Derived.Test.YtflciafboapaaaaGreatZRSp3
import Derived.Test.YtflciafboapaaaaGreatZRSp4
import Derived.Test.YtflciafboapaaaaGreatZRSp5
import Derived.Test.YtflciafboapaaaaGreatZRSp6
import Derived.Test.YtflciafboapaaaaGreatZRSp7
import Derived.Test.YtflciafboapaaaaGreatZRSp8
import Derived.Test.YtflciafboapaaaaGreatZRSp9
import Derived.Test.YtflciafboapaaaaGreatZRSp10
import Derived.Test.YtflciafboapaaaaGreatZRSp11
namespace Go.Proofs.YtflciafboapaaaaGreat
open Go.Sx Go.RowKit Go.ChangeShapes Go.WideShapes Go.ChangeAt Go.Joins

set_option maxHeartbeats 4000000 in
set_option maxRecDepth 100000 in
theorem IU (os : Os) (k : os.Started) (H : Type) (B : TypeId × Value → H) :
    ReturnsInHanded {} Tryz.pinned.checked os 3 .any (Rows.relayStepsSpec.pre6 B Tryz.prog Tryz.f3 [] false) (Rows.relayStepsSpec.post B Tryz.prog Tryz.f3 false Rows.relayStepsRow.fresh false false) := by
  refine Ta k Tryz.func3 (by kernel_rfl) (by kernel_rfl) Z Z ?_ (ChangeSpec.witness6 (C := Tryz.pinned.checked) false ⟨#[], #[.agg #[.int .i64 0, .slice none 0 0, .slice none 0 0, .slice none 0 0, .bool false, .bool false], .agg #[.slice none 0 0, .slice none 0 0, .slice none 0 0, .slice none 0 0], .agg #[.int .i64 0, .int .i64 0, .int .i64 0], .int .i64 0], []⟩ 8 (by kernel_rfl) (by kernel_rfl) (by kernel_rfl) (by kernel_rfl)) ?_
  · intro ds L
    match ds, L with
    | [d1, d2, d3, d4], _ => rfl
  · intro W Y t ds p a hA;rw [Tryz.params3] at hA a;obtain ⟨T, ae, d0, aa, p0, q0, N, rfl, rfl, h0, r0⟩ := trodAll_cons hA;obtain ⟨U, af, d1, ab, p1, q1, O, rfl, rfl, h1, r1⟩ := trodAll_cons r0;obtain ⟨V, ag, d2, ac, p2, q2, P, rfl, rfl, h2, r2⟩ := trodAll_cons r1;obtain ⟨v3, ah, d3, ad, p3, q3, Q, rfl, rfl, h3, r3⟩ := trodAll_cons r2;obtain ⟨rfl, rfl, rfl⟩ := trodAll_nil r3;obtain rfl : t = #[T, U, V, v3] := by cases t; simp_all
    obtain ⟨b, Y0, n0, E0, u⟩ := Me Tryz.underlying24 (by kernel_rfl) (by kernel_rfl) (a 0 24 T Z Z) h0;obtain ⟨d, v⟩ := IP Tryz.underlying3 (u 0 _ Z);obtain ⟨l, D⟩ := yZ (eK.int .i64) Tryz.underlying22 (by kernel_rfl) (HY Tryz.underlying3) (u 1 _ Z);obtain ⟨m, E⟩ := yZ (eK.int .i64) Tryz.underlying22 (by kernel_rfl) (HY Tryz.underlying3) (u 2 _ Z);obtain ⟨n, F⟩ := yZ (eK.int .i64) Tryz.underlying22 (by kernel_rfl) (HY Tryz.underlying3) (u 3 _ Z);obtain ⟨e, w⟩ := NJ Tryz.underlying4 (u 4 _ Z);obtain ⟨f, x⟩ := NJ Tryz.underlying4 (u 5 _ Z);obtain rfl : T = .agg #[.int .i64 d, b 1, b 2, b 3, .bool e, .bool f] := by
      rw [E0];show Value.agg #[b 0, b 1, b 2, b 3, b 4, b 5] = _;rw [v, w, x]
    obtain ⟨c, Y1, n1, E1, M⟩ := Me Tryz.underlying26 (by kernel_rfl) (by kernel_rfl) (a 1 26 U Z Z) h1;obtain ⟨o, G⟩ := yZ (eK.int .i64) Tryz.underlying22 (by kernel_rfl) (HY Tryz.underlying3) (M 0 _ Z);obtain ⟨q, I⟩ := yZ (eK.int .i64) Tryz.underlying22 (by kernel_rfl) (HY Tryz.underlying3) (M 1 _ Z);obtain ⟨r, J⟩ := yZ (eK.int .i64) Tryz.underlying22 (by kernel_rfl) (HY Tryz.underlying3) (M 2 _ Z);obtain ⟨s, K⟩ := yZ (eK.int .i64) Tryz.underlying22 (by kernel_rfl) (HY Tryz.underlying3) (M 3 _ Z);obtain rfl : U = .agg #[c 0, c 1, c 2, c 3] := by
      rw [E1];show Value.agg #[c 0, c 1, c 2, c 3] = _;rw []
    obtain ⟨S, Y2, n2, E2, R⟩ := Me Tryz.underlying28 (by kernel_rfl) (by kernel_rfl) (a 2 28 V Z Z) h2;obtain ⟨h, y⟩ := IP Tryz.underlying3 (R 0 _ Z);obtain ⟨i, z⟩ := IP Tryz.underlying3 (R 1 _ Z);obtain ⟨j, A⟩ := IP Tryz.underlying3 (R 2 _ Z);obtain rfl : V = .agg #[.int .i64 h, .int .i64 i, .int .i64 j] := by
      rw [E2];show Value.agg #[S 0, S 1, S 2] = _;rw [y, z, A]
    obtain ⟨X, rfl, rfl, rfl, w3⟩ := open_int Tryz.underlying3 (a 3 3 v3 Z Z) h3;exact LC (Ik (p0 := (d, l, m, n, e, f)) (p1 := (o, q, r, s)) (p2 := (h, i, j)) (p3 := X) 1000 (b 1) (b 2) (b 3) (c 0) (c 1) (c 2) (c 3) true (Wd (d, l, m, n, e, f) (o, q, r, s) (h, i, j) X)) (λg hg => by
      simp only [zAn, List.not_mem_nil, or_false] at hg;rcases hg with rfl | rfl | rfl | rfl | rfl | rfl | rfl
      · exact D
      · exact E
      · exact F
      · exact G
      · exact I
      · exact J
      · exact K
 )

theorem relaySteps_holds : Rows.RelayStepsSaid :=
  OpenClaim.holds_of_wide 3 Tryz.f3 Z Z Z Z Z Z Z ⟨rfl, rfl, rfl, rfl, rfl⟩ Z Z Z Z Z (by kernel_rfl) Tryz.func3 (by kernel_rfl)
    (zAx (by kernel_rfl)) (by unfold Func.isWrapper; first | (rw [if_pos (by decide +kernel)]; kernel_rfl) | (rw [if_neg (by decide +kernel)]; exact ⟨rfl, rfl⟩))
    (λc a H b _ => IU c a H b)
end Go.Proofs.YtflciafboapaaaaGreat
