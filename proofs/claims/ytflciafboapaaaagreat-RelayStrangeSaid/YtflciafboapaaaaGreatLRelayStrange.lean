/- RelayStrange returns true for every input, and leaves its arguments as they were. Conditions: none. -/
import Derived.Test.YtflciafboapaaaaGreatZRSt1
import Derived.Test.YtflciafboapaaaaGreatZRSt2
import Derived.Test.YtflciafboapaaaaGreatZRSt3
import Derived.Test.YtflciafboapaaaaGreatZRSt4
import Derived.Test.YtflciafboapaaaaGreatZRSt5
import Derived.Test.YtflciafboapaaaaGreatZRSt6
import Derived.Test.YtflciafboapaaaaGreatZRSt7
import Derived.Test.YtflciafboapaaaaGreatZRSt8
import Derived.Test.YtflciafboapaaaaGreatZRSt9
import Derived.Test.YtflciafboapaaaaGreatZRSt10
import Derived.Test.YtflciafboapaaaaGreatZRSt11
namespace Go.Sx
open Go.RowKit Go.ChangeShapes Go.WideShapes Go.ChangeAt Go.Proofs Go.Joins Go.Deep
section
variable {H : Type} {enc : TypeId × Value → H} {P : Program} {w : World} {base : Nat} {spare : Nat → Bool} {held : Bool}
theorem el_st3 {u k l : IntKind} {t : TypeId} {e f g : Field} (J : P.underlying t = some (.struct #[e, f, g])) (d : oneCellFields P #[e, f, g] = true) (I : P.cellsOf t = 3)
    (E : P.underlying e.type = some (.int u)) (F : P.underlying f.type = some (.int k)) (G : P.underlying g.type = some (.int l)) (n : Nat) (o : List Value) (x : DataW H × List MemPlace) (h : DataW.trod enc P w base spare held n t o = some x) :
    ∃ y : Int × Int × Int, ((eD.int u).pair ((eD.int k).pair (eD.int l))).R w (λ_ => True) o y := by
  obtain ⟨O, m, _, _, A, j, s⟩ := DataW.trod_struct J h;have p := s 0 e Z;have q := s 1 f Z;have r := s 2 g Z;obtain ⟨L, B⟩ := hone_of d 0 e Z;obtain ⟨M, C⟩ := hone_of d 1 f Z;obtain ⟨N, D⟩ := hone_of d 2 g Z;rw [L, B] at p;rw [M, C] at q;rw [N, D] at r;rw [I] at A;have K : O.length = 3 := j;rw [zA2 (by omega)] at p q r;obtain ⟨a, v, _, _⟩ := DataW.trod_int E p;obtain ⟨b, z, _, _⟩ := DataW.trod_int F q;obtain ⟨c, i, _, _⟩ := DataW.trod_int G r
  match o, A with
  | [d0, d1, d2], _ =>
    simp at v z i;refine ⟨(a, b, c), [.int u a], [.int k b, .int l c], ?_, rfl, [.int k b], [.int l c], rfl, rfl, rfl⟩
    rw [v, z, i]; rfl
end
end Go.Sx
namespace Go.Proofs.YtflciafboapaaaaGreat
open Go.Sx Go.RowKit Go.ChangeShapes Go.WideShapes Go.ChangeAt Go.Joins

set_option maxHeartbeats 4000000 in
set_option maxRecDepth 100000 in
theorem Gv (B : Os) (e : B.Started) (H : Type) (i : TypeId × Value → H) :
    ReturnsInHanded {} Tryz.pinned.checked B 4 .any (Rows.relayStrangeSpec.pre6 i Tryz.prog Tryz.f4 [] false) (Rows.relayStrangeSpec.post i Tryz.prog Tryz.f4 false Rows.relayStrangeRow.fresh false false) := by
  refine Rp e Tryz.func4 (by kernel_rfl) (by kernel_rfl) Z Z ?_ (ChangeSpec.witness6 (C := Tryz.pinned.checked) false ⟨#[], #[.agg #[.slice none 0 0, .slice none 0 0, .slice none 0 0], .slice none 0 0, .int .i64 0], []⟩ 8 (by kernel_rfl) (by kernel_rfl) (by kernel_rfl) (by kernel_rfl)) ?_
  · intro x m
    match x, m with
    | [G, I, d3], _ => rfl
  · intro W w h x p d y;rw [Tryz.params4] at y d;obtain ⟨u, X, d0, J, Q, q0, o, rfl, rfl, N, T⟩ := trodAll_cons y;obtain ⟨D, Y, G, K, R, q1, q, rfl, rfl, O, U⟩ := trodAll_cons T;obtain ⟨E, aa, I, L, S, q2, r, rfl, rfl, P, V⟩ := trodAll_cons U;obtain ⟨rfl, rfl, rfl⟩ := trodAll_nil V;obtain rfl : h = #[u, D, E] := by cases h; simp_all
    obtain ⟨f, Y0, n0, F, s⟩ := Xi Tryz.underlying43 (by kernel_rfl) (by kernel_rfl) (d 0 43 u Z Z) N;obtain ⟨a, j⟩ := CI (eD.sl (eD.int .i64)) Tryz.underlying39 (by kernel_rfl) (My (eD.int .i64) Tryz.underlying22 (by kernel_rfl) (QZ Tryz.underlying3)) (s 0 _ Z);obtain ⟨b, k⟩ := CI (eD.sl (eD.sl (eD.int .i64))) Tryz.underlying40 (by kernel_rfl) (My (eD.sl (eD.int .i64)) Tryz.underlying39 (by kernel_rfl) (My (eD.int .i64) Tryz.underlying22 (by kernel_rfl) (QZ Tryz.underlying3))) (s 1 _ Z);obtain ⟨c, l⟩ := CI (eD.sl (eD.sl (eD.sl (eD.int .i64)))) Tryz.underlying41 (by kernel_rfl) (My (eD.sl (eD.sl (eD.int .i64))) Tryz.underlying40 (by kernel_rfl) (My (eD.sl (eD.int .i64)) Tryz.underlying39 (by kernel_rfl) (My (eD.int .i64) Tryz.underlying22 (by kernel_rfl) (QZ Tryz.underlying3)))) (s 2 _ Z);obtain rfl : u = .agg #[f 0, f 1, f 2] := by
      rw [F];show Value.agg #[f 0, f 1, f 2] = _;rw []
    obtain ⟨u1, l1, k1, rfl⟩ := okWide_slice Tryz.underlying57 (d 1 57 D Z Z);obtain ⟨n1, t⟩ := O;obtain ⟨n, M⟩ := CI ((eD.int .i64).pair ((eD.int .i64).pair (eD.int .i64))) Tryz.underlying57 (by kernel_rfl) (el_st3 Tryz.underlying28 (by kernel_rfl) (by kernel_rfl) Tryz.underlying3 Tryz.underlying3 Tryz.underlying3) (by simpa [Value.cells] using t);obtain ⟨v, rfl, rfl, rfl, w2⟩ := open_int Tryz.underlying3 (d 2 3 E Z Z) P;exact KF (FN (p0 := ((a.map (λz : Value × List Int => z.2)), (b.map (λz : Value × List (Value × List Int) => z.2.map (λz : Value × List Int => z.2))), (c.map (λz : Value × List (Value × List (Value × List Int)) => z.2.map (λz : Value × List (Value × List Int) => z.2.map (λz : Value × List Int => z.2)))))) (p1 := n) (p2 := v) 1000 (f 0) a (f 1) b (f 2) c _ true (PY ((a.map (λz : Value × List Int => z.2)), (b.map (λz : Value × List (Value × List Int) => z.2.map (λz : Value × List Int => z.2))), (c.map (λz : Value × List (Value × List (Value × List Int)) => z.2.map (λz : Value × List (Value × List Int) => z.2.map (λz : Value × List Int => z.2))))) n v)) (λg A => by
      simp only [zAq, List.not_mem_nil, or_false] at A;rcases A with rfl | rfl | rfl | rfl
      · exact ⟨j, rfl⟩
      · exact ⟨k, rfl⟩
      · exact ⟨l, rfl⟩
      · exact M
 )

theorem relayStrange_holds : Rows.RelayStrangeSaid :=
  OpenClaim.holds_of_wide 4 Tryz.f4 Z Z Z Z Z Z Z ⟨rfl, rfl, rfl, rfl, rfl⟩ Z Z Z Z Z (by kernel_rfl) Tryz.func4 (by kernel_rfl)
    (zB0 (by kernel_rfl)) (by unfold Func.isWrapper; first | (rw [if_pos (by decide +kernel)]; kernel_rfl) | (rw [if_neg (by decide +kernel)]; exact ⟨rfl, rfl⟩))
    (λc a H b _ => Gv c a H b)
end Go.Proofs.YtflciafboapaaaaGreat
