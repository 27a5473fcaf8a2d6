/- TopMessagesAgree returns true for every input, and leaves its arguments as they were; with what its row lists tied to the program's text. Conditions: none. -/
import Derived.Test.YtgciopekomcbfaaGreatDoorZTMA1
import Derived.Test.YtgciopekomcbfaaGreatDoorZTMA2
import Derived.Test.YtgciopekomcbfaaGreatDoorZTMA3
import Derived.Test.YtgciopekomcbfaaGreatDoorZTMA4
import Derived.Test.YtgciopekomcbfaaGreatDoorZTMA5
import Derived.Test.YtgciopekomcbfaaGreatDoorZTMA6
import Derived.Test.YtgciopekomcbfaaGreatDoorZTMA7
import Derived.Test.YtgciopekomcbfaaGreatDoorZTMA8
import Derived.Test.YtgciopekomcbfaaGreatDoorZTMA9
import Derived.Test.YtgciopekomcbfaaGreatDoorZTMA10
import Derived.Test.YtgciopekomcbfaaGreatDoorZTMA11
import Derived.Test.YtgciopekomcbfaaGreatDoorZTMA12
import Derived.Test.YtgciopekomcbfaaGreatDoorZTMA13
import Derived.Test.YtgciopekomcbfaaGreatDoorTie
import Derived.Test.YtgciopekomcbfaaGreatDoorCards
import Derived.SevenTiedAt
namespace Go.Proofs.YtgciopekomcbfaaGreatDoor
open Go.Sx Go.RowKit Go.ChangeShapes Go.WideShapes Go.ChangeAt Go.Joins

set_option maxHeartbeats 4000000 in
set_option maxRecDepth 100000 in
theorem Eb (v : Os) (i : v.Started) (H : Type) (h : TypeId × Value → H) :
    ReturnsInHanded {} Tryz.pinned.checked v 3 .any (λw b => (Rows.topMessagesAgreeSpec.pre h Tryz.prog Tryz.f3 [] false w b /\ laidMetH Tryz.prog [("math/bits.deBruijn32tab", Rows.laid_math_bits_deBruijn32tab)] w) /\ sizedMet h Tryz.prog Tryz.f3 (OpenSpec.ofChange Rows.topMessagesAgreeSpec) false w b) (Rows.topMessagesAgreeSpec.post h Tryz.prog Tryz.f3 false Rows.topMessagesAgreeRow.fresh false false) := by
  refine SJ [("math/bits.deBruijn32tab", Rows.laid_math_bits_deBruijn32tab)] Z i Tryz.func3 (by kernel_rfl) (by kernel_rfl) Z Z ?_
    (ChangeSpec.witness_shaped (enc := h) (C := Tryz.pinned.checked) (os := v) (X := λw _ => laidMetH Tryz.prog [("math/bits.deBruijn32tab", Rows.laid_math_bits_deBruijn32tab)] w) false (World.laidAll Tryz.prog v [("math/bits.deBruijn32tab", Rows.laid_math_bits_deBruijn32tab)]) #[.int .i64 0, .agg #[.int .i64 0, .slice none 0 0, .slice none 0 0, .slice none 0 0, .bool false, .bool false], .slice none 0 0, .slice none 0 0, .int .i64 0] 8 (World.laidAll_os _ _ _)
      (World.shaped_of_ZipB (by kernel_rfl) (by kernel_rfl)) (by kernel_rfl) (by kernel_rfl) (by kernel_rfl)
      (by rw [MakeChecks.laidMetH_plain _ _ _ (by rfl)]; exact laidMet_laidAll _ (by kernel_rfl) (by kernel_rfl))) ?_
  · intro O u
    match O, u with
    | [U, V, Y, d4, d5], _ => rfl
  · intro W N b O p G a P;have hL : laidMetH Tryz.prog [("math/bits.deBruijn32tab", .agg (sS.map λx => .lit (.int .u8 x)))] W := G;rw [Tryz.params3] at P a;obtain ⟨R, af, d0, aa, p0, q0, A, rfl, rfl, h0, r0⟩ := trodAll_cons P;obtain ⟨I, ag, U, ab, p1, q1, B, rfl, rfl, h1, r1⟩ := trodAll_cons r0;obtain ⟨J, ah, V, ac, p2, q2, D, rfl, rfl, h2, r2⟩ := trodAll_cons r1;obtain ⟨K, ai, Y, ad, p3, q3, E, rfl, rfl, h3, r3⟩ := trodAll_cons r2;obtain ⟨S, aj, d4, ae, p4, q4, F, rfl, rfl, h4, r4⟩ := trodAll_cons r3;obtain ⟨rfl, rfl, rfl⟩ := trodAll_nil r4;obtain rfl : b = #[R, I, J, K, S] := by cases b; simp_all
    obtain ⟨L, rfl, rfl, rfl, w0⟩ := open_int Tryz.underlying3 (a 0 3 R Z Z) h0;obtain ⟨c, Y1, n1, T, m⟩ := abR Tryz.underlying24 (by kernel_rfl) (by kernel_rfl) (a 1 24 I Z Z) h1;obtain ⟨d, n⟩ := abq Tryz.underlying3 (m 0 _ Z);obtain ⟨j, r⟩ := EF (eD.int .i64) Tryz.underlying22 (by kernel_rfl) (PT Tryz.underlying3) (m 1 _ Z);obtain ⟨k, s⟩ := EF (eD.int .i64) Tryz.underlying22 (by kernel_rfl) (PT Tryz.underlying3) (m 2 _ Z);obtain ⟨l, t⟩ := EF (eD.int .i64) Tryz.underlying22 (by kernel_rfl) (PT Tryz.underlying3) (m 3 _ Z);obtain ⟨e, o⟩ := Oy Tryz.underlying4 (m 4 _ Z);obtain ⟨f, q⟩ := Oy Tryz.underlying4 (m 5 _ Z);obtain rfl : I = .agg #[.int .i64 d, c 1, c 2, c 3, .bool e, .bool f] := by
      rw [T];show Value.agg #[c 0, c 1, c 2, c 3, c 4, c 5] = _;rw [n, o, q]
    obtain ⟨y, f2⟩ := IB (a 2 22 J Z Z) h2;obtain ⟨z, f3⟩ := IB (a 3 22 K Z Z) h3;obtain ⟨M, rfl, rfl, rfl, w4⟩ := open_int Tryz.underlying3 (a 4 3 S Z Z) h4;exact Mf (EI (p0 := L) (p1 := (d, j, k, l, e, f)) (p2 := y) (p3 := z) (p4 := M) 1000 (c 1) (c 2) (c 3) J K true (Qv L (d, j, k, l, e, f) y z M)) (λg Q => by
      simp only [zAo, zB8, or_false] at Q;rcases Q with rfl | rfl | rfl | rfl | rfl | rfl
      · exact r
      · exact s
      · exact t
      · exact f2
      · exact f3
      · exact UT (Yz hL) (by kernel_rfl) (by kernel_rfl) Tryz.underlying249 Tryz.underlying5 (by kernel_rfl) (by kernel_rfl) (by decide)
 )

theorem Gc : Rows.TopMessagesAgreeSaid :=
  OpenClaim.holds_of_wide 3 Tryz.f3 Z Z Z Z Z Z Z ⟨rfl, rfl, rfl, rfl, rfl⟩ Z Z Z Z Z (by kernel_rfl) Tryz.func3 (by kernel_rfl)
    (zB5 (by kernel_rfl)) (by unfold Func.isWrapper; first | (rw [if_pos (by decide +kernel)]; kernel_rfl) | (rw [if_neg (by decide +kernel)]; exact ⟨rfl, rfl⟩))
    (λc a H b _ => Eb c a H b)

theorem topMessagesAgree_holds : Rows.TopMessagesAgreeCardSaid :=
  Claim7.holds_tied_plain_at .later [] [.data] true (true, "a8a1e3c0b25ca784b6f0d735386e0ee28751c6b2550d0945d8ff65fb6668dfbe") true Gc (λ_ h => by cases h) (by kernel_rfl) (λ_ h => by cases h) topMessagesAgree_row_tie Z ⟨rfl, rfl⟩ (by kernel_rfl) Z
    (λf d e b => by
      obtain rfl : f = 3 := Option.some.inj ((show Tryz.prog.funcNamed "selfstab/selfstabtop.TopMessagesAgree" = some 3 by kernel_rfl).symm.trans e) |>.symm;obtain rfl : d = Tryz.f3 := (Option.some.inj (Tryz.func3.symm.trans b)).symm;exact ⟨by kernel_rfl, λj t c => by
        rw [Tryz.params3] at c;have g : t ∈ [3, 24, 22, 22, 3] := by simpa using Array.mem_of_getElem? c
        have a : ([3, 24, 22, 22, 3].all λu => !Tryz.prog.wantsStandIn u) = true := by kernel_rfl
        exact (show Tryz.prog.wantsStandIn t = false by simpa using zA7.1 a t g)⟩)
    (by kernel_rfl)
end Go.Proofs.YtgciopekomcbfaaGreatDoor
