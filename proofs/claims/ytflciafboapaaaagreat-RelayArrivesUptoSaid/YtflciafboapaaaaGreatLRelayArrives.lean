/- RelayArrives returns true for every input of the bounded bulk, and leaves its arguments as they were. Conditions: none but the statement's own bound on the bulk. -/
import Derived.Test.YtflciafboapaaaaGreatZRAr16
namespace Go.Proofs.YtflciafboapaaaaGreat
open Go.Sx Go.RowKit Go.ChangeShapes Go.WideShapes Go.ChangeAt Go.Joins

set_option maxHeartbeats 4000000 in
set_option maxRecDepth 100000 in
theorem HY (os : Os) (l : os.Started) (H : Type) (u : TypeId × Value → H) (F : Stop.Interp) :
    ReturnsInHanded {} Tryz.pinned.checked os 7 .any ((Rows.OpenSpec.upto Rows.relayArrivesSpec).pre6 u Tryz.prog Tryz.f7 [] false) (((Rows.OpenSpec.upto Rows.relayArrivesSpec).at F).post u Tryz.prog Tryz.f7 false Rows.relayArrivesUptoRow.fresh false false) := by
  refine Tw (s := Rows.OpenSpec.upto Rows.relayArrivesSpec) (k := Rows.uptoSmall) (F := F) l Z Tryz.func7 (by kernel_rfl) (by kernel_rfl) Z Z ?_
    (OpenSpec.witness (enc := u) (C := Tryz.pinned.checked) (s := Rows.OpenSpec.upto Rows.relayArrivesSpec) (k := Rows.uptoSmall) Z false ⟨#[], #[.agg #[.int .i64 0, .slice none 0 0, .slice none 0 0, .slice none 0 0, .bool false, .bool false], .agg #[.slice none 0 0, .slice none 0 0, .slice none 0 0, .slice none 0 0], .int .i64 0, .int .i64 0, .slice none 0 0, .slice none 0 0], []⟩ 8 (by kernel_rfl) (by kernel_rfl) (by kernel_rfl) (x := ([.agg [.lit (.int .i64 0), .nil, .nil, .nil, .lit (.bool false), .lit (.bool false)], .agg [.nil, .nil, .nil, .nil], .lit (.int .i64 0), .lit (.int .i64 0), .nil, .nil], [], [])) (by kernel_rfl) (by kernel_rfl) (by kernel_rfl)) ?_
  · intro ds M
    match ds, M with
    | [d1, d2, d3, d4, d5, d6], _ => rfl
  · intro W aa v ds p hk a hA;rw [Tryz.params7] at hA a;obtain ⟨v0, ah, d0, ab, p0, q0, Q, rfl, rfl, h0, r0⟩ := trodAll_cons hA;obtain ⟨v1, ai, d1, ac, p1, q1, R, rfl, rfl, h1, r1⟩ := trodAll_cons r0;obtain ⟨v2, aj, d2, ad, p2, q2, S, rfl, rfl, h2, r2⟩ := trodAll_cons r1;obtain ⟨v3, ak, d3, ae, p3, q3, T, rfl, rfl, h3, r3⟩ := trodAll_cons r2;obtain ⟨v4, al, d4, af, p4, q4, U, rfl, rfl, h4, r4⟩ := trodAll_cons r3;obtain ⟨v5, am, d5, ag, p5, q5, V, rfl, rfl, h5, r5⟩ := trodAll_cons r4;obtain ⟨rfl, rfl, rfl⟩ := trodAll_nil r5;obtain rfl : v = #[v0, v1, v2, v3, v4, v5] := by cases v; simp_all
    obtain ⟨c, Y0, n0, an, E0, rfl, K0⟩ := Zl Tryz.underlying24 (by kernel_rfl) (by kernel_rfl) (a 0 24 v0 Z Z) h0;have y := λi f hi => (K0 i f hi).1;obtain ⟨e, A⟩ := abP Tryz.underlying3 (y 0 _ Z);obtain ⟨m, E⟩ := tF (dX.int .i64) Tryz.underlying22 (by kernel_rfl) (II Tryz.underlying3) (y 1 _ Z);obtain ⟨b, w⟩ := tF (dX.int .i64) Tryz.underlying22 (by kernel_rfl) (II Tryz.underlying3) (y 2 _ Z);have z : b.length ≤ 1048576 := by
      rw [Tx Tryz.underlying22 (y 2 _ Z) w];exact Vn hk (by simp) (K0 2 _ Z).2
    obtain ⟨n, G⟩ := tF (dX.int .i64) Tryz.underlying22 (by kernel_rfl) (II Tryz.underlying3) (y 3 _ Z);obtain ⟨h, B⟩ := PO Tryz.underlying4 (y 4 _ Z);obtain ⟨j, D⟩ := PO Tryz.underlying4 (y 5 _ Z);obtain rfl : v0 = .agg #[.int .i64 e, c 1, c 2, c 3, .bool h, .bool j] := by
      rw [E0];show Value.agg #[c 0, c 1, c 2, c 3, c 4, c 5] = _;rw [A, B, D]
    obtain ⟨d, Y1, n1, E1, P⟩ := acp Tryz.underlying26 (by kernel_rfl) (by kernel_rfl) (a 1 26 v1 Z Z) h1;obtain ⟨o, I⟩ := tF (dX.int .i64) Tryz.underlying22 (by kernel_rfl) (II Tryz.underlying3) (P 0 _ Z);obtain ⟨q, J⟩ := tF (dX.int .i64) Tryz.underlying22 (by kernel_rfl) (II Tryz.underlying3) (P 1 _ Z);obtain ⟨r, K⟩ := tF (dX.int .i64) Tryz.underlying22 (by kernel_rfl) (II Tryz.underlying3) (P 2 _ Z);obtain ⟨t, L⟩ := tF (dX.int .i64) Tryz.underlying22 (by kernel_rfl) (II Tryz.underlying3) (P 3 _ Z);obtain rfl : v1 = .agg #[d 0, d 1, d 2, d 3] := by
      rw [E1];show Value.agg #[d 0, d 1, d 2, d 3] = _;rw []
    obtain ⟨a2, rfl, rfl, rfl, w2⟩ := open_int Tryz.underlying3 (a 2 3 v2 Z Z) h2;obtain ⟨a3, rfl, rfl, rfl, w3⟩ := open_int Tryz.underlying3 (a 3 3 v3 Z Z) h3;obtain ⟨u4, l4, k4, rfl⟩ := okWide_slice Tryz.underlying57 (a 4 57 v4 Z Z);obtain ⟨n4, X⟩ := h4;obtain ⟨N, f4⟩ := tF ((dX.int .i64).pair ((dX.int .i64).pair (dX.int .i64))) Tryz.underlying57 (by kernel_rfl) (abc Tryz.underlying28 (by kernel_rfl) (by kernel_rfl) Tryz.underlying3 Tryz.underlying3 Tryz.underlying3) (by simpa [Value.cells] using X);obtain ⟨u5, l5, k5, rfl⟩ := okWide_slice Tryz.underlying57 (a 5 57 v5 Z Z);obtain ⟨n5, Y⟩ := h5;obtain ⟨O, f5⟩ := tF ((dX.int .i64).pair ((dX.int .i64).pair (dX.int .i64))) Tryz.underlying57 (by kernel_rfl) (abc Tryz.underlying28 (by kernel_rfl) (by kernel_rfl) Tryz.underlying3 Tryz.underlying3 Tryz.underlying3) (by simpa [Value.cells] using Y);exact No (GX (p0 := (e, m, b, n, h, j)) (p1 := (o, q, r, t)) (p2 := a2) (p3 := a3) (p4 := N) (p5 := O) 1000 (c 1) (c 2) (c 3) (d 0) (d 1) (d 2) (d 3) _ _ true (SZ (e, m, b, n, h, j) (o, q, r, t) a2 a3 N O z)) (λg hg => by
      simp only [zAn, zAz, or_false] at hg;rcases hg with rfl | rfl | rfl | rfl | rfl | rfl | rfl | rfl | rfl
      · exact E
      · exact w
      · exact G
      · exact I
      · exact J
      · exact K
      · exact L
      · exact f4
      · exact f5
 )

theorem relayArrives_holds : Rows.RelayArrivesUptoSaid :=
  OpenClaim.holds_of_cond 7 Tryz.f7 Z Z Z Z Z Z Z ⟨rfl, rfl, rfl, rfl, rfl⟩ Z Z Z Z Z (by kernel_rfl) Tryz.func7 (by kernel_rfl)
    (zB7 (by kernel_rfl)) (by unfold Func.isWrapper; first | (rw [if_pos (by decide +kernel)]; kernel_rfl) | (rw [if_neg (by decide +kernel)]; exact ⟨rfl, rfl⟩))
    (λc a H b _ F => HY c a H b F)
end Go.Proofs.YtflciafboapaaaaGreat
