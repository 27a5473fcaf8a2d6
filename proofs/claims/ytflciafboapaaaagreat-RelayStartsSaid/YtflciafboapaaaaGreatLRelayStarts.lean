/- RelayStarts returns true for every input, and leaves its arguments as they were. Conditions: none. -/
import Derived.Test.YtflciafboapaaaaGreatZRSa1
import Derived.Test.YtflciafboapaaaaGreatZRSa2
import Derived.Test.YtflciafboapaaaaGreatZRSa3
import Derived.Test.YtflciafboapaaaaGreatZRSa4
import Derived.Test.YtflciafboapaaaaGreatZRSa5
import Derived.Test.YtflciafboapaaaaGreatZRSa6
import Derived.Test.YtflciafboapaaaaGreatZRSa7
import Derived.Test.YtflciafboapaaaaGreatZRSa8
import Derived.Test.YtflciafboapaaaaGreatZRSa9
import Derived.Test.YtflciafboapaaaaGreatZRSa10
namespace Go.Proofs.YtflciafboapaaaaGreat
open Go.Sx Go.RowKit Go.ChangeShapes Go.WideShapes Go.ChangeAt Go.Joins

set_option maxHeartbeats 4000000 in
set_option maxRecDepth 100000 in
theorem Fz (F : Os) (f : F.Started) (H : Type) (q : TypeId × Value → H) :
    ReturnsInHanded {} Tryz.pinned.checked F 6 .any (Rows.relayStartsSpec.pre6 q Tryz.prog Tryz.f6 [] false) (Rows.relayStartsSpec.post q Tryz.prog Tryz.f6 false Rows.relayStartsRow.fresh false false) := by
  refine PS f Tryz.func6 (by kernel_rfl) (by kernel_rfl) Z Z ?_ (ChangeSpec.witness6 (C := Tryz.pinned.checked) false ⟨#[], #[.agg #[.int .i64 0, .slice none 0 0, .slice none 0 0, .slice none 0 0, .bool false, .bool false], .slice none 0 0], []⟩ 8 (by kernel_rfl) (by kernel_rfl) (by kernel_rfl) (by kernel_rfl)) ?_
  · intro B u
    match B, u with
    | [I, d2], _ => rfl
  · intro W A k B p e D;rw [Tryz.params6] at D e;obtain ⟨y, S, V, J, O, Y, w, rfl, rfl, M, Q⟩ := trodAll_cons D;obtain ⟨z, T, I, K, P, q1, x, rfl, rfl, N, R⟩ := trodAll_cons Q;obtain ⟨rfl, rfl, rfl⟩ := trodAll_nil R;obtain rfl : k = #[y, z] := by cases k; simp_all
    obtain ⟨a, U, X, G, l⟩ := VT Tryz.underlying24 (by kernel_rfl) (by kernel_rfl) (e 0 24 y Z Z) M;obtain ⟨b, m⟩ := VA Tryz.underlying3 (l 0 _ Z);obtain ⟨h, r⟩ := CN (d_.int .i64) Tryz.underlying22 (by kernel_rfl) (LZ Tryz.underlying3) (l 1 _ Z);obtain ⟨i, s⟩ := CN (d_.int .i64) Tryz.underlying22 (by kernel_rfl) (LZ Tryz.underlying3) (l 2 _ Z);obtain ⟨j, t⟩ := CN (d_.int .i64) Tryz.underlying22 (by kernel_rfl) (LZ Tryz.underlying3) (l 3 _ Z);obtain ⟨c, n⟩ := KW Tryz.underlying4 (l 4 _ Z);obtain ⟨d, o⟩ := KW Tryz.underlying4 (l 5 _ Z);obtain rfl : y = .agg #[.int .i64 b, a 1, a 2, a 3, .bool c, .bool d] := by
      rw [G];show Value.agg #[a 0, a 1, a 2, a 3, a 4, a 5] = _;rw [m, n, o]
    obtain ⟨v, L⟩ := Mt (e 1 22 z Z Z) N;exact Jj (EM (p0 := (b, h, i, j, c, d)) (p1 := v) 1000 (a 1) (a 2) (a 3) z true (Qk (b, h, i, j, c, d) v)) (λg E => by
      simp only [zAm, zB1, or_false] at E;rcases E with rfl | rfl | rfl | rfl
      · exact r
      · exact s
      · exact t
      · exact L
 )

theorem relayStarts_holds : Rows.RelayStartsSaid :=
  OpenClaim.holds_of_wide 6 Tryz.f6 Z Z Z Z Z Z Z ⟨rfl, rfl, rfl, rfl, rfl⟩ Z Z Z Z Z (by kernel_rfl) Tryz.func6 (by kernel_rfl)
    (zB6 (by kernel_rfl)) (by unfold Func.isWrapper; first | (rw [if_pos (by decide +kernel)]; kernel_rfl) | (rw [if_neg (by decide +kernel)]; exact ⟨rfl, rfl⟩))
    (λc a H b _ => Fz c a H b)
end Go.Proofs.YtflciafboapaaaaGreat
