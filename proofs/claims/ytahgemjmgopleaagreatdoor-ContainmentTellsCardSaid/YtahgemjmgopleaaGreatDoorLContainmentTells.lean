/- ContainmentTells returns true for every input, and leaves its arguments as they were; with what its row lists tied to the program's text. Conditions: none. -/
import Derived.Test.YtahgemjmgopleaaGreatDoorZCTe1
import Derived.Test.YtahgemjmgopleaaGreatDoorZCTe2
import Derived.Test.YtahgemjmgopleaaGreatDoorZCTe3
import Derived.Test.YtahgemjmgopleaaGreatDoorZCTe4
import Derived.Test.YtahgemjmgopleaaGreatDoorZCTe5
import Derived.Test.YtahgemjmgopleaaGreatDoorZCTe6
import Derived.Test.YtahgemjmgopleaaGreatDoorZCTe7
import Derived.Test.YtahgemjmgopleaaGreatDoorZCTe8
import Derived.Test.YtahgemjmgopleaaGreatDoorZCTe9
import Derived.Test.YtahgemjmgopleaaGreatDoorZCTe10
import Derived.Test.YtahgemjmgopleaaGreatDoorZCTe11
import Derived.Test.YtahgemjmgopleaaGreatDoorTie
import Derived.Test.YtahgemjmgopleaaGreatDoorCards
import Derived.SevenTiedAt
namespace Go.Proofs.YtahgemjmgopleaaGreatDoor
open Go.Sx Go.RowKit Go.ChangeShapes Go.WideShapes Go.ChangeAt Go.Joins

set_option maxHeartbeats 4000000 in
set_option maxRecDepth 100000 in
theorem Eb (v : Os) (i : v.Started) (H : Type) (h : TypeId × Value → H) :
    ReturnsInHanded {} Tryz.pinned.checked v 3 .any (λw b => (Rows.containmentTellsSpec.pre h Tryz.prog Tryz.f3 [] false w b ∧ laidMetH Tryz.prog [("math/bits.deBruijn32tab", Rows.laid_math_bits_deBruijn32tab)] w) ∧ sizedMet h Tryz.prog Tryz.f3 (OpenSpec.ofChange Rows.containmentTellsSpec) false w b) (Rows.containmentTellsSpec.post h Tryz.prog Tryz.f3 false Rows.containmentTellsRow.fresh false false) := by
  refine Rp [("math/bits.deBruijn32tab", Rows.laid_math_bits_deBruijn32tab)] Z i Tryz.func3 (by kernel_rfl) (by kernel_rfl) Z Z ?_
    (ChangeSpec.witness_shaped (enc := h) (C := Tryz.pinned.checked) (os := v) (X := λw _ => laidMetH Tryz.prog [("math/bits.deBruijn32tab", Rows.laid_math_bits_deBruijn32tab)] w) false (World.laidAll Tryz.prog v [("math/bits.deBruijn32tab", Rows.laid_math_bits_deBruijn32tab)]) #[.agg #[.int .i64 0, .slice none 0 0, .slice none 0 0, .slice none 0 0, .bool false, .bool false], .slice none 0 0, .int .i64 0, .slice none 0 0, .int .u32 0, .bool false] 8 (World.laidAll_os _ _ _)
      (World.shaped_of_ZipB (by kernel_rfl) (by kernel_rfl)) (by kernel_rfl) (by kernel_rfl) (by kernel_rfl)
      (by rw [MakeChecks.laidMetH_plain _ _ _ (by rfl)]; exact laidMet_laidAll _ (by kernel_rfl) (by kernel_rfl))) ?_
  · intro Q u
    match Q, u with
    | [d1, d2, d3, d4, d5, d6], _ => rfl
  · intro W P b Q p I a R;have hL : laidMetH Tryz.prog [("math/bits.deBruijn32tab", .agg (Au.map λx => .lit (.int .u8 x)))] W := I;rw [Tryz.params3] at R a;obtain ⟨K, ag, d0, aa, p0, q0, A, rfl, rfl, h0, r0⟩ := trodAll_cons R;obtain ⟨L, ah, d1, ab, p1, q1, B, rfl, rfl, h1, r1⟩ := trodAll_cons r0;obtain ⟨T, ai, d2, ac, p2, q2, D, rfl, rfl, h2, r2⟩ := trodAll_cons r1;obtain ⟨U, aj, d3, ad, p3, q3, E, rfl, rfl, h3, r3⟩ := trodAll_cons r2;obtain ⟨V, ak, d4, ae, p4, q4, F, rfl, rfl, h4, r4⟩ := trodAll_cons r3;obtain ⟨Y, al, d5, af, p5, q5, G, rfl, rfl, h5, r5⟩ := trodAll_cons r4;obtain ⟨rfl, rfl, rfl⟩ := trodAll_nil r5;obtain rfl : b = #[K, L, T, U, V, Y] := by cases b; simp_all
    obtain ⟨c, Y0, n0, E0, m⟩ := ZR Tryz.underlying24 (by kernel_rfl) (by kernel_rfl) (a 0 24 K Z Z) h0;obtain ⟨d, n⟩ := Zy Tryz.underlying3 (m 0 _ Z);obtain ⟨j, r⟩ := CQ (fU.int .i64) Tryz.underlying22 (by kernel_rfl) (LC Tryz.underlying3) (m 1 _ Z);obtain ⟨k, s⟩ := CQ (fU.int .i64) Tryz.underlying22 (by kernel_rfl) (LC Tryz.underlying3) (m 2 _ Z);obtain ⟨l, t⟩ := CQ (fU.int .i64) Tryz.underlying22 (by kernel_rfl) (LC Tryz.underlying3) (m 3 _ Z);obtain ⟨e, o⟩ := Oe Tryz.underlying4 (m 4 _ Z);obtain ⟨f, q⟩ := Oe Tryz.underlying4 (m 5 _ Z);obtain rfl : K = .agg #[.int .i64 d, c 1, c 2, c 3, .bool e, .bool f] := by
      rw [E0];show Value.agg #[c 0, c 1, c 2, c 3, c 4, c 5] = _;rw [n, o, q]
    obtain ⟨y, f1⟩ := PI (a 1 22 L Z Z) h1;obtain ⟨M, rfl, rfl, rfl, w2⟩ := open_int Tryz.underlying3 (a 2 3 T Z Z) h2;obtain ⟨u3, l3, k3, rfl⟩ := okWide_slice Tryz.underlying25 (a 3 25 U Z Z);obtain ⟨n3, J⟩ := h3;obtain ⟨z, f3⟩ := CQ (fU.int .u32) Tryz.underlying25 (by kernel_rfl) (LC Tryz.underlying26) (by simpa [Value.cells] using J);obtain ⟨N, rfl, rfl, rfl, w4⟩ := open_int Tryz.underlying26 (a 4 26 V Z Z) h4;obtain ⟨O, rfl, rfl, rfl⟩ := open_bool Tryz.underlying4 (a 5 4 Y Z Z) h5;exact Ly (DR (p0 := (d, j, k, l, e, f)) (p1 := y) (p2 := M) (p3 := z) (p4 := N) (p5 := O) 1000 (c 1) (c 2) (c 3) L _ true (Up (d, j, k, l, e, f) y M z N O (aaM w4).1 (aaM w4).2)) (λg S => by
      simp only [zAl, List.not_mem_nil, or_false] at S;rcases S with rfl | rfl | rfl | rfl | rfl | rfl
      · exact r
      · exact s
      · exact t
      · exact f1
      · exact f3
      · exact TM (WX hL) (by kernel_rfl) (by kernel_rfl) Tryz.underlying118 Tryz.underlying5 (by kernel_rfl) (by kernel_rfl) (by decide)
 )

theorem FU : Rows.ContainmentTellsSaid :=
  OpenClaim.holds_of_wide 3 Tryz.f3 Z Z Z Z Z Z Z ⟨rfl, rfl, rfl, rfl, rfl⟩ Z Z Z Z Z (by kernel_rfl) Tryz.func3 (by kernel_rfl)
    (zBf (by kernel_rfl)) (by unfold Func.isWrapper; first | (rw [if_pos (by decide +kernel)]; kernel_rfl) | (rw [if_neg (by decide +kernel)]; exact ⟨rfl, rfl⟩))
    (λc a H b _ => Eb c a H b)

theorem containmentTells_holds : Rows.ContainmentTellsCardSaid :=
  Claim7.holds_tied_plain_at .later [] [.data] true (true, "2586e35087845dc8ae544c79dd001266548ade16680e2267fb2e4a974e8d23e0") true FU (λ_ h => by cases h) (by kernel_rfl) (λ_ h => by cases h) containmentTells_row_tie Z ⟨rfl, rfl⟩ (by kernel_rfl) Z
    (λf d e b => by
      obtain rfl : f = 3 := Option.some.inj ((show Tryz.prog.funcNamed "selfstab/selfstablaw40.ContainmentTells" = some 3 by kernel_rfl).symm.trans e) |>.symm;obtain rfl : d = Tryz.f3 := (Option.some.inj (Tryz.func3.symm.trans b)).symm;exact ⟨by kernel_rfl, λj t c => by
        rw [Tryz.params3] at c;have g : t ∈ [24, 22, 3, 25, 26, 4] := by simpa using Array.mem_of_getElem? c
        have a : ([24, 22, 3, 25, 26, 4].all λu => !Tryz.prog.wantsStandIn u) = true := by kernel_rfl
        exact (show Tryz.prog.wantsStandIn t = false by simpa using zA4.1 a t g)⟩)
    (by kernel_rfl)
end Go.Proofs.YtahgemjmgopleaaGreatDoor
