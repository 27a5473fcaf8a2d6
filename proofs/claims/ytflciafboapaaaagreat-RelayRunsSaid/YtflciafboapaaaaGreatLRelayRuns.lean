/- RelayRuns returns true for every input, and leaves its arguments as they were. Conditions: none. -/
import Derived.Test.YtflciafboapaaaaGreatZRRu1
import Derived.Test.YtflciafboapaaaaGreatZRRu2
import Derived.Test.YtflciafboapaaaaGreatZRRu3
import Derived.Test.YtflciafboapaaaaGreatZRRu4
import Derived.Test.YtflciafboapaaaaGreatZRRu5
import Derived.Test.YtflciafboapaaaaGreatZRRu6
import Derived.Test.YtflciafboapaaaaGreatZRRu7
import Derived.Test.YtflciafboapaaaaGreatZRRu8
import Derived.Test.YtflciafboapaaaaGreatZRRu9
import Derived.Test.YtflciafboapaaaaGreatZRRu10
import Derived.Test.YtflciafboapaaaaGreatZRRu11
namespace Go.Sx
open Go.RowKit Go.ChangeShapes Go.WideShapes Go.ChangeAt Go.Proofs Go.Joins Go.Deep
section
variable {H : Type} {enc : TypeId × Value → H} {P : Program} {w : World} {base : Nat} {spare : Nat → Bool} {held : Bool}
theorem el_st3 {u k l : IntKind} {t : TypeId} {e f g : Field} (J : P.underlying t = some (.struct #[e, f, g])) (d : oneCellFields P #[e, f, g] = true) (I : P.cellsOf t = 3)
    (E : P.underlying e.type = some (.int u)) (F : P.underlying f.type = some (.int k)) (G : P.underlying g.type = some (.int l)) (n : Nat) (o : List Value) (x : DataW H × List MemPlace) (h : DataW.trod enc P w base spare held n t o = some x) :
    ∃ y : Int × Int × Int, ((eJ.int u).pair ((eJ.int k).pair (eJ.int l))).R w (λ_ => True) o y := by
  obtain ⟨O, m, _, _, A, j, s⟩ := DataW.trod_struct J h;have p := s 0 e Z;have q := s 1 f Z;have r := s 2 g Z;obtain ⟨L, B⟩ := hone_of d 0 e Z;obtain ⟨M, C⟩ := hone_of d 1 f Z;obtain ⟨N, D⟩ := hone_of d 2 g Z;rw [L, B] at p;rw [M, C] at q;rw [N, D] at r;rw [I] at A;have K : O.length = 3 := j;rw [zA2 (by omega)] at p q r;obtain ⟨a, v, _, _⟩ := DataW.trod_int E p;obtain ⟨b, z, _, _⟩ := DataW.trod_int F q;obtain ⟨c, i, _, _⟩ := DataW.trod_int G r
  match o, A with
  | [d0, d1, d2], _ =>
    simp at v z i;refine ⟨(a, b, c), [.int u a], [.int k b, .int l c], ?_, rfl, [.int k b], [.int l c], rfl, rfl, rfl⟩
    rw [v, z, i]; rfl
end
end Go.Sx
namespace Go.Proofs.YtflciafboapaaaaGreat
open Go.Sx Go.RowKit Go.ChangeShapes Go.WideShapes Go.ChangeAt Go.Joins

set_option maxHeartbeats 4000000 in
set_option maxRecDepth 100000 in
theorem JA (U : Os) (h : U.Started) (H : Type) (v : TypeId × Value → H) :
    ReturnsInHanded {} Tryz.pinned.checked U 5 .any (Rows.relayRunsSpec.pre6 v Tryz.prog Tryz.f5 [] false) (Rows.relayRunsSpec.post v Tryz.prog Tryz.f5 false Rows.relayRunsRow.fresh false false) := by
  refine SY h Tryz.func5 (by kernel_rfl) (by kernel_rfl) Z Z ?_ (ChangeSpec.witness6 (C := Tryz.pinned.checked) false ⟨#[], #[.agg #[.int .i64 0, .slice none 0 0, .slice none 0 0, .slice none 0 0, .bool false, .bool false], .agg #[.slice none 0 0, .slice none 0 0, .slice none 0 0, .slice none 0 0], .slice none 0 0, .int .i64 0], []⟩ 8 (by kernel_rfl) (by kernel_rfl) (by kernel_rfl) (by kernel_rfl)) ?_
  · intro R E
    match R, E with
    | [d1, d2, d3, d4], _ => rfl
  · intro W Q q R p a S;rw [Tryz.params5] at S a;obtain ⟨N, ae, d0, aa, p0, q0, I, rfl, rfl, h0, r0⟩ := trodAll_cons S;obtain ⟨O, af, d1, ab, p1, q1, J, rfl, rfl, h1, r1⟩ := trodAll_cons r0;obtain ⟨V, ag, d2, ac, p2, q2, K, rfl, rfl, h2, r2⟩ := trodAll_cons r1;obtain ⟨X, ah, d3, ad, p3, q3, L, rfl, rfl, h3, r3⟩ := trodAll_cons r2;obtain ⟨rfl, rfl, rfl⟩ := trodAll_nil r3;obtain rfl : q = #[N, O, V, X] := by cases q; simp_all
    obtain ⟨b, Y0, n0, Y, r⟩ := QN Tryz.underlying24 (by kernel_rfl) (by kernel_rfl) (a 0 24 N Z Z) h0;obtain ⟨d, s⟩ := X_ Tryz.underlying3 (r 0 _ Z);obtain ⟨i, w⟩ := vF (eJ.int .i64) Tryz.underlying22 (by kernel_rfl) (HJ Tryz.underlying3) (r 1 _ Z);obtain ⟨j, x⟩ := vF (eJ.int .i64) Tryz.underlying22 (by kernel_rfl) (HJ Tryz.underlying3) (r 2 _ Z);obtain ⟨k, y⟩ := vF (eJ.int .i64) Tryz.underlying22 (by kernel_rfl) (HJ Tryz.underlying3) (r 3 _ Z);obtain ⟨e, t⟩ := NF Tryz.underlying4 (r 4 _ Z);obtain ⟨f, u⟩ := NF Tryz.underlying4 (r 5 _ Z);obtain rfl : N = .agg #[.int .i64 d, b 1, b 2, b 3, .bool e, .bool f] := by
      rw [Y];show Value.agg #[b 0, b 1, b 2, b 3, b 4, b 5] = _;rw [s, t, u]
    obtain ⟨c, Y1, n1, E1, G⟩ := QN Tryz.underlying26 (by kernel_rfl) (by kernel_rfl) (a 1 26 O Z Z) h1;obtain ⟨l, z⟩ := vF (eJ.int .i64) Tryz.underlying22 (by kernel_rfl) (HJ Tryz.underlying3) (G 0 _ Z);obtain ⟨m, A⟩ := vF (eJ.int .i64) Tryz.underlying22 (by kernel_rfl) (HJ Tryz.underlying3) (G 1 _ Z);obtain ⟨n, B⟩ := vF (eJ.int .i64) Tryz.underlying22 (by kernel_rfl) (HJ Tryz.underlying3) (G 2 _ Z);obtain ⟨o, D⟩ := vF (eJ.int .i64) Tryz.underlying22 (by kernel_rfl) (HJ Tryz.underlying3) (G 3 _ Z);obtain rfl : O = .agg #[c 0, c 1, c 2, c 3] := by
      rw [E1];show Value.agg #[c 0, c 1, c 2, c 3] = _;rw []
    obtain ⟨u2, l2, k2, rfl⟩ := okWide_slice Tryz.underlying57 (a 2 57 V Z Z);obtain ⟨n2, M⟩ := h2;obtain ⟨F, f2⟩ := vF ((eJ.int .i64).pair ((eJ.int .i64).pair (eJ.int .i64))) Tryz.underlying57 (by kernel_rfl) (el_st3 Tryz.underlying28 (by kernel_rfl) (by kernel_rfl) Tryz.underlying3 Tryz.underlying3 Tryz.underlying3) (by simpa [Value.cells] using M);obtain ⟨P, rfl, rfl, rfl, w3⟩ := open_int Tryz.underlying3 (a 3 3 X Z Z) h3;exact Lr (IR (p0 := (d, i, j, k, e, f)) (p1 := (l, m, n, o)) (p2 := F) (p3 := P) 1000 (b 1) (b 2) (b 3) (c 0) (c 1) (c 2) (c 3) _ true (YG (d, i, j, k, e, f) (l, m, n, o) F P)) (λg T => by
      simp only [zAm, zB7, or_false] at T;rcases T with rfl | rfl | rfl | rfl | rfl | rfl | rfl | rfl
      · exact w
      · exact x
      · exact y
      · exact z
      · exact A
      · exact B
      · exact D
      · exact f2
 )

theorem relayRuns_holds : Rows.RelayRunsSaid :=
  OpenClaim.holds_of_wide 5 Tryz.f5 Z Z Z Z Z Z Z ⟨rfl, rfl, rfl, rfl, rfl⟩ Z Z Z Z Z (by kernel_rfl) Tryz.func5 (by kernel_rfl)
    (zB2 (by kernel_rfl)) (by unfold Func.isWrapper; first | (rw [if_pos (by decide +kernel)]; kernel_rfl) | (rw [if_neg (by decide +kernel)]; exact ⟨rfl, rfl⟩))
    (λc a H b _ => JA c a H b)
end Go.Proofs.YtflciafboapaaaaGreat
