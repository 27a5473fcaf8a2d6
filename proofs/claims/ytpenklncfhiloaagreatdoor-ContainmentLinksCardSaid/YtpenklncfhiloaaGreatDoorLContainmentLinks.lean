/- ContainmentLinks returns true for every input, and leaves its arguments as they were; with what its row lists tied to the program's text. Conditions: none. -/
import Derived.Test.YtpenklncfhiloaaGreatDoorZCLi1
import Derived.Test.YtpenklncfhiloaaGreatDoorZCLi2
import Derived.Test.YtpenklncfhiloaaGreatDoorZCLi3
import Derived.Test.YtpenklncfhiloaaGreatDoorZCLi4
import Derived.Test.YtpenklncfhiloaaGreatDoorZCLi5
import Derived.Test.YtpenklncfhiloaaGreatDoorZCLi6
import Derived.Test.YtpenklncfhiloaaGreatDoorZCLi7
import Derived.Test.YtpenklncfhiloaaGreatDoorZCLi8
import Derived.Test.YtpenklncfhiloaaGreatDoorZCLi9
import Derived.Test.YtpenklncfhiloaaGreatDoorTie
import Derived.Test.YtpenklncfhiloaaGreatDoorCards
import Derived.SevenTiedAt
namespace Go.Proofs.YtpenklncfhiloaaGreatDoor
open Go.Sx Go.RowKit Go.ChangeShapes Go.WideShapes Go.ChangeAt Go.Joins

set_option maxHeartbeats 4000000 in
set_option maxRecDepth 100000 in
theorem Ak (os : Os) (f : os.Started) (H : Type) (enc : TypeId × Value → H) :
    ReturnsInHanded {} Tryz.pinned.checked os 3 .any (fun w args => (Rows.containmentLinksSpec.pre enc Tryz.prog Tryz.f3 [] false w args ∧ laidMetH Tryz.prog [("math/bits.deBruijn32tab", Rows.laid_math_bits_deBruijn32tab)] w) ∧ sizedMet enc Tryz.prog Tryz.f3 (OpenSpec.ofChange Rows.containmentLinksSpec) false w args) (Rows.containmentLinksSpec.post enc Tryz.prog Tryz.f3 false Rows.containmentLinksRow.fresh false false) := by
  refine L_ [("math/bits.deBruijn32tab", Rows.laid_math_bits_deBruijn32tab)] rfl f Tryz.func3 (by kernel_rfl) (by kernel_rfl) rfl rfl ?_
    (ChangeSpec.witness_shaped (enc := enc) (C := Tryz.pinned.checked) (os := os) (X := fun w _ => laidMetH Tryz.prog [("math/bits.deBruijn32tab", Rows.laid_math_bits_deBruijn32tab)] w) false (World.laidAll Tryz.prog os [("math/bits.deBruijn32tab", Rows.laid_math_bits_deBruijn32tab)]) #[.agg #[.int .i64 0, .slice none 0 0, .slice none 0 0, .slice none 0 0, .bool false, .bool false], .slice none 0 0, .int .i64 0, .int .i64 0, .slice none 0 0] 8 (World.laidAll_os _ _ _)
      (World.shaped_of_ZipB (by kernel_rfl) (by kernel_rfl)) (by kernel_rfl) (by kernel_rfl) (by kernel_rfl)
      (by rw [MakeChecks.laidMetH_plain _ _ _ (by rfl)]; exact laidMet_laidAll _ (by kernel_rfl) (by kernel_rfl))) ?_
  · intro K s
    match K, s with
    | [R, S, T, U, d5], _ => rfl
  · intro W base args K p D a L
    have hL : laidMetH Tryz.prog [("math/bits.deBruijn32tab", .agg (uB.map fun x => .lit (.int .u8 x)))] W := D
    rw [Tryz.params3] at L a
    obtain ⟨F, ac, d0, V, p0, q0, v, rfl, rfl, h0, r0⟩ := trodAll_cons L
    obtain ⟨G, ad, R, Y, p1, q1, y, rfl, rfl, h1, r1⟩ := trodAll_cons r0
    obtain ⟨N, ae, S, Z, p2, q2, z, rfl, rfl, h2, r2⟩ := trodAll_cons r1
    obtain ⟨O, af, T, aa, p3, q3, A, rfl, rfl, h3, r3⟩ := trodAll_cons r2
    obtain ⟨P, ag, U, ab, p4, q4, B, rfl, rfl, h4, r4⟩ := trodAll_cons r3
    obtain ⟨rfl, rfl, rfl⟩ := trodAll_nil r4
    obtain rfl : args = #[F, G, N, O, P] := by cases args; simp_all
    obtain ⟨b, Y0, n0, Q, k⟩ := Ud Tryz.underlying24 (by kernel_rfl) (by kernel_rfl) (a 0 24 F rfl rfl) h0
    obtain ⟨c, l⟩ := TL Tryz.underlying3 (k 0 _ rfl)
    obtain ⟨h, o⟩ := yP (eH.int .i64) Tryz.underlying22 (by kernel_rfl) (Hw Tryz.underlying3) (k 1 _ rfl)
    obtain ⟨i, q⟩ := yP (eH.int .i64) Tryz.underlying22 (by kernel_rfl) (Hw Tryz.underlying3) (k 2 _ rfl)
    obtain ⟨j, r⟩ := yP (eH.int .i64) Tryz.underlying22 (by kernel_rfl) (Hw Tryz.underlying3) (k 3 _ rfl)
    obtain ⟨d, m⟩ := Jk Tryz.underlying4 (k 4 _ rfl)
    obtain ⟨e, n⟩ := Jk Tryz.underlying4 (k 5 _ rfl)
    obtain rfl : F = .agg #[.int .i64 c, b 1, b 2, b 3, .bool d, .bool e] := by
      rw [Q]
      show Value.agg #[b 0, b 1, b 2, b 3, b 4, b 5] = _
      rw [l, m, n]
    obtain ⟨t, f1⟩ := Kw (a 1 22 G rfl rfl) h1
    obtain ⟨I, rfl, rfl, rfl, w2⟩ := open_int Tryz.underlying3 (a 2 3 N rfl rfl) h2
    obtain ⟨J, rfl, rfl, rfl, w3⟩ := open_int Tryz.underlying3 (a 3 3 O rfl rfl) h3
    obtain ⟨u4, l4, k4, rfl⟩ := okWide_slice Tryz.underlying25 (a 4 25 P rfl rfl)
    obtain ⟨n4, E⟩ := h4
    obtain ⟨u, f4⟩ := yP (eH.int .u32) Tryz.underlying25 (by kernel_rfl) (Hw Tryz.underlying50) (by simpa [Value.cells] using E)
    exact Hp (Aa (p0 := (c, h, i, j, d, e)) (p1 := t) (p2 := I) (p3 := J) (p4 := u) 1000 (b 1) (b 2) (b 3) G _ true (NZ (c, h, i, j, d, e) t I J u)) (fun g M => by
      simp only [List.mem_cons, List.not_mem_nil, or_false] at M
      rcases M with rfl | rfl | rfl | rfl | rfl | rfl
      · exact o
      · exact q
      · exact r
      · exact f1
      · exact f4
      · exact NN (QU hL) (by kernel_rfl) (by kernel_rfl) Tryz.underlying228 Tryz.underlying5 (by kernel_rfl) (by kernel_rfl) (by decide)
 )

theorem BG : Rows.ContainmentLinksSaid :=
  OpenClaim.holds_of_wide 3 Tryz.f3 rfl rfl rfl rfl rfl rfl rfl ⟨rfl, rfl, rfl, rfl, rfl⟩ rfl rfl rfl rfl rfl (by kernel_rfl) Tryz.func3 (by kernel_rfl)
    (of_decide_eq_true (by kernel_rfl)) (by unfold Func.isWrapper; first | (rw [if_pos (by decide +kernel)]; kernel_rfl) | (rw [if_neg (by decide +kernel)]; exact ⟨rfl, rfl⟩))
    (fun os a H enc _ => Ak os a H enc)

theorem containmentLinks_holds : Rows.ContainmentLinksCardSaid :=
  Claim7.holds_tied_plain_at .later [] [.data] true (true, "f6f7e3e434886da1853b404fb336445b7eaef7675689ebcc4799d2af507c1207") true BG (fun _ h => by cases h) (by kernel_rfl) (fun _ h => by cases h) containmentLinks_row_tie rfl ⟨rfl, rfl⟩ (by kernel_rfl) rfl
    (fun f fn d b => by
      obtain rfl : f = 3 := Option.some.inj ((show Tryz.prog.funcNamed "selfstab/selfstablaw40.ContainmentLinks" = some 3 by kernel_rfl).symm.trans d) |>.symm
      obtain rfl : fn = Tryz.f3 := (Option.some.inj (Tryz.func3.symm.trans b)).symm
      exact ⟨by kernel_rfl, fun j t c => by
        rw [Tryz.params3] at c
        have e : t ∈ [24, 22, 3, 3, 25] := by simpa using Array.mem_of_getElem? c
        have a : ([24, 22, 3, 3, 25].all fun u => !Tryz.prog.wantsStandIn u) = true := by kernel_rfl
        exact (show Tryz.prog.wantsStandIn t = false by simpa using List.all_eq_true.1 a t e)⟩)
    (by kernel_rfl)
end Go.Proofs.YtpenklncfhiloaaGreatDoor
