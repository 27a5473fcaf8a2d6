/- TopLeadersAreProved returns true for every input, and leaves its arguments as they were; with what its row lists tied to the program's text. Conditions: none. -/
import Derived.Test.YtjkjpdonlpdcaaaGreatDoorZTLe1
import Derived.Test.YtjkjpdonlpdcaaaGreatDoorZTLe2
import Derived.Test.YtjkjpdonlpdcaaaGreatDoorZTLe3
import Derived.Test.YtjkjpdonlpdcaaaGreatDoorZTLe4
import Derived.Test.YtjkjpdonlpdcaaaGreatDoorZTLe5
import Derived.Test.YtjkjpdonlpdcaaaGreatDoorZTLe6
import Derived.Test.YtjkjpdonlpdcaaaGreatDoorZTLe7
import Derived.Test.YtjkjpdonlpdcaaaGreatDoorZTLe8
import Derived.Test.YtjkjpdonlpdcaaaGreatDoorZTLe9
import Derived.Test.YtjkjpdonlpdcaaaGreatDoorTie
import Derived.Test.YtjkjpdonlpdcaaaGreatDoorCards
import Derived.SevenTiedAt
namespace Go.Proofs.YtjkjpdonlpdcaaaGreatDoor
open Go.Sx Go.RowKit Go.ChangeShapes Go.WideShapes Go.ChangeAt Go.Joins

set_option maxHeartbeats 4000000 in
set_option maxRecDepth 100000 in
theorem AY (v : Os) (i : v.Started) (H : Type) (h : TypeId × Value → H) :
    ReturnsInHanded {} Tryz.pinned.checked v 3 .any (λw a => (Rows.topLeadersAreProvedSpec.pre h Tryz.prog Tryz.f3 [] false w a ∧ laidMetH Tryz.prog [("math/bits.deBruijn32tab", Rows.laid_math_bits_deBruijn32tab)] w) ∧ sizedMet h Tryz.prog Tryz.f3 (OpenSpec.ofChange Rows.topLeadersAreProvedSpec) false w a) (Rows.topLeadersAreProvedSpec.post h Tryz.prog Tryz.f3 false Rows.topLeadersAreProvedRow.fresh false false) := by
  refine Nw [("math/bits.deBruijn32tab", Rows.laid_math_bits_deBruijn32tab)] Z i Tryz.func3 (by kernel_rfl) (by kernel_rfl) Z Z ?_
    (ChangeSpec.witness_shaped (enc := h) (C := Tryz.pinned.checked) (os := v) (X := λw _ => laidMetH Tryz.prog [("math/bits.deBruijn32tab", Rows.laid_math_bits_deBruijn32tab)] w) false (World.laidAll Tryz.prog v [("math/bits.deBruijn32tab", Rows.laid_math_bits_deBruijn32tab)]) #[.agg #[.int .i64 0, .slice none 0 0, .slice none 0 0, .slice none 0 0, .bool false, .bool false], .slice none 0 0, .int .i64 0] 8 (World.laidAll_os _ _ _)
      (World.shaped_of_ZipB (by kernel_rfl) (by kernel_rfl)) (by kernel_rfl) (by kernel_rfl) (by kernel_rfl)
      (by rw [MakeChecks.laidMetH_plain _ _ _ (by rfl)]; exact laidMet_laidAll _ (by kernel_rfl) (by kernel_rfl))) ?_
  · intro J u
    match J, u with
    | [O, P, d3], _ => rfl
  · intro W I a J p D b K;have hL : laidMetH Tryz.prog [("math/bits.deBruijn32tab", .agg (Ae.map λx => .lit (.int .u8 x)))] W := D;rw [Tryz.params3] at K b;obtain ⟨E, aa, d0, Q, p0, q0, z, rfl, rfl, U, r0⟩ := trodAll_cons K;obtain ⟨F, ab, O, R, p1, q1, A, rfl, rfl, V, r1⟩ := trodAll_cons r0;obtain ⟨M, ac, P, S, p2, q2, B, rfl, rfl, Y, r2⟩ := trodAll_cons r1;obtain ⟨rfl, rfl, rfl⟩ := trodAll_nil r2;obtain rfl : a = #[E, F, M] := by cases a; simp_all
    obtain ⟨c, Y0, n0, N, m⟩ := VS Tryz.underlying24 (by kernel_rfl) (by kernel_rfl) (b 0 24 E Z Z) U;obtain ⟨d, n⟩ := Vu Tryz.underlying3 (m 0 _ Z);obtain ⟨j, r⟩ := CI (fH.int .i64) Tryz.underlying22 (by kernel_rfl) (Lz Tryz.underlying3) (m 1 _ Z);obtain ⟨k, s⟩ := CI (fH.int .i64) Tryz.underlying22 (by kernel_rfl) (Lz Tryz.underlying3) (m 2 _ Z);obtain ⟨l, t⟩ := CI (fH.int .i64) Tryz.underlying22 (by kernel_rfl) (Lz Tryz.underlying3) (m 3 _ Z);obtain ⟨e, o⟩ := KA Tryz.underlying4 (m 4 _ Z);obtain ⟨f, q⟩ := KA Tryz.underlying4 (m 5 _ Z);obtain rfl : E = .agg #[.int .i64 d, c 1, c 2, c 3, .bool e, .bool f] := by
      rw [N];show Value.agg #[c 0, c 1, c 2, c 3, c 4, c 5] = _;rw [n, o, q]
    obtain ⟨y, T⟩ := LZ (b 1 22 F Z Z) V;obtain ⟨G, rfl, rfl, rfl, w2⟩ := open_int Tryz.underlying3 (b 2 3 M Z Z) Y;exact IR (Ba (p0 := (d, j, k, l, e, f)) (p1 := y) (p2 := G) 1000 (c 1) (c 2) (c 3) F true (LP (d, j, k, l, e, f) y G)) (λg L => by
      simp only [List.mem_cons, List.not_mem_nil, or_false] at L;rcases L with rfl | rfl | rfl | rfl | rfl
      · exact r
      · exact s
      · exact t
      · exact T
      · exact Pk (SN hL) (by kernel_rfl) (by kernel_rfl) Tryz.underlying240 Tryz.underlying5 (by kernel_rfl) (by kernel_rfl) (by decide)
 )

theorem B_ : Rows.TopLeadersAreProvedSaid :=
  OpenClaim.holds_of_wide 3 Tryz.f3 Z Z Z Z Z Z Z ⟨rfl, rfl, rfl, rfl, rfl⟩ Z Z Z Z Z (by kernel_rfl) Tryz.func3 (by kernel_rfl)
    (of_decide_eq_true (by kernel_rfl)) (by unfold Func.isWrapper; first | (rw [if_pos (by decide +kernel)]; kernel_rfl) | (rw [if_neg (by decide +kernel)]; exact ⟨rfl, rfl⟩))
    (λc a H b _ => AY c a H b)

theorem topLeadersAreProved_holds : Rows.TopLeadersAreProvedCardSaid :=
  Claim7.holds_tied_plain_at .later [] [.data] true (true, "5a6e2a4a94974c5650e528137117dab0c4ca181bb2ce36a63d934ad48231a961") true B_ (λ_ h => by cases h) (by kernel_rfl) (λ_ h => by cases h) topLeadersAreProved_row_tie Z ⟨rfl, rfl⟩ (by kernel_rfl) Z
    (λf d e b => by
      obtain rfl : f = 3 := Option.some.inj ((show Tryz.prog.funcNamed "selfstab/selfstabtop.TopLeadersAreProved" = some 3 by kernel_rfl).symm.trans e) |>.symm;obtain rfl : d = Tryz.f3 := (Option.some.inj (Tryz.func3.symm.trans b)).symm;exact ⟨by kernel_rfl, λj t c => by
        rw [Tryz.params3] at c;have g : t ∈ [24, 22, 3] := by simpa using Array.mem_of_getElem? c
        have a : ([24, 22, 3].all λu => !Tryz.prog.wantsStandIn u) = true := by kernel_rfl
        exact (show Tryz.prog.wantsStandIn t = false by simpa using List.all_eq_true.1 a t g)⟩)
    (by kernel_rfl)
end Go.Proofs.YtjkjpdonlpdcaaaGreatDoor
