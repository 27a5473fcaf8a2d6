/- TopCompiledProgramsMove returns true for every input, and leaves its arguments as they were; with what its row lists tied to the program's text. Conditions: none. -/
import Derived.Test.YtemmagadjnlajaaGreatDoorZCPr12
import Derived.Test.YtemmagadjnlajaaGreatDoorTie
import Derived.Test.YtemmagadjnlajaaGreatDoorCards
import Derived.SevenTiedAt
namespace Go.Proofs.YtemmagadjnlajaaGreatDoor
open Go.Sx Go.RowKit Go.ChangeShapes Go.WideShapes Go.ChangeAt Go.Joins

theorem ahf {H : Type} {enc : TypeId × Value → H} {w : World} {c : Nat} {a : Nat → Bool} {d : Bool} (n : Nat) (e : List Value) (x : DataW H × List MemPlace) (h : DataW.trod enc Tryz.prog w c a d n 98 e = some x) : ∃ y, aN.R w (λ_ => True) e y := by
  obtain ⟨V, Y, m, rfl, b⟩ := NJ Tryz.underlying98 (by kernel_rfl) (by kernel_rfl) h;obtain ⟨o, f⟩ := (Vw Tryz.underlying9) _ _ _ (b 0 _ Z);obtain ⟨p, g⟩ := (GQ Tryz.underlying3) _ _ _ (b 1 _ Z);obtain ⟨q, i⟩ := (GQ Tryz.underlying3) _ _ _ (b 2 _ Z);obtain ⟨r, j⟩ := (GQ Tryz.underlying3) _ _ _ (b 3 _ Z);obtain ⟨s, k⟩ := (GQ Tryz.underlying3) _ _ _ (b 4 _ Z);obtain ⟨t, l⟩ := (GQ Tryz.underlying3) _ _ _ (b 5 _ Z);exact ⟨(o, p, q, r, s, t), Ld f (Ld g (Ld i (Ld j (Ld k (l)))))⟩
theorem Xh {H : Type} {d : TypeId × Value → H} {w : World} {b : Nat} {a : Nat → Bool} {c : Bool} (n : Nat) (e : List Value) (x : DataW H × List MemPlace) (h : DataW.trod d Tryz.prog w b a c n 126 e = some x) : ∃ y, aS.R w (λ_ => True) e y := by
  obtain ⟨V, Y, m, rfl, f⟩ := NJ Tryz.underlying126 (by kernel_rfl) (by kernel_rfl) h;obtain ⟨j, g⟩ := (GQ Tryz.underlying3) _ _ _ (f 0 _ Z);obtain ⟨k, i⟩ := (GQ Tryz.underlying3) _ _ _ (f 1 _ Z);exact ⟨(j, k), Ld g (i)⟩
theorem ahe {H : Type} {d : TypeId × Value → H} {w : World} {b : Nat} {a : Nat → Bool} {c : Bool} (n : Nat) (e : List Value) (x : DataW H × List MemPlace) (h : DataW.trod d Tryz.prog w b a c n 51 e = some x) : ∃ y, dZ.R w (λ_ => True) e y := by
  obtain ⟨V, Y, m, rfl, f⟩ := NJ Tryz.underlying51 (by kernel_rfl) (by kernel_rfl) h;obtain ⟨j, g⟩ := (GQ Tryz.underlying3) _ _ _ (f 0 _ Z);obtain ⟨k, i⟩ := (aaz aS Tryz.underlying38 (by kernel_rfl) Xh) _ _ _ (f 1 _ Z);exact ⟨(j, k), Ld g (i)⟩
theorem ahd {H : Type} {enc : TypeId × Value → H} {w : World} {b : Nat} {a : Nat → Bool} {c : Bool} (n : Nat) (e : List Value) (x : DataW H × List MemPlace) (h : DataW.trod enc Tryz.prog w b a c n 41 e = some x) : ∃ y, aJ.R w (λ_ => True) e y := by
  obtain ⟨V, Y, m, rfl, d⟩ := NJ Tryz.underlying41 (by kernel_rfl) (by kernel_rfl) h;obtain ⟨j, f⟩ := (Vw Tryz.underlying9) _ _ _ (d 0 _ Z);obtain ⟨k, g⟩ := (aaz aS Tryz.underlying38 (by kernel_rfl) Xh) _ _ _ (d 1 _ Z);obtain ⟨l, i⟩ := (aaz dZ Tryz.underlying39 (by kernel_rfl) ahe) _ _ _ (d 2 _ Z);exact ⟨(j, k, l), Ld f (Ld g (i))⟩

set_option maxHeartbeats 4000000 in
set_option maxRecDepth 100000 in
theorem Dn (q : Os) (d : q.Started) (H : Type) (c : TypeId × Value → H) :
    ReturnsInHanded {} Tryz.pinned.checked q 3 .any (λw a => (Rows.topCompiledProgramsMoveSpec.pre c Tryz.prog Tryz.f3 [] false w a /\ laidMetH Tryz.prog [("math/bits.deBruijn32tab", Rows.laid_math_bits_deBruijn32tab)] w) /\ sizedMet c Tryz.prog Tryz.f3 (OpenSpec.ofChange Rows.topCompiledProgramsMoveSpec) false w a) (Rows.topCompiledProgramsMoveSpec.post c Tryz.prog Tryz.f3 false Rows.topCompiledProgramsMoveRow.fresh false false) := by
  refine TS [("math/bits.deBruijn32tab", Rows.laid_math_bits_deBruijn32tab)] Z d Tryz.func3 (by kernel_rfl) (by kernel_rfl) Z Z ?_
    (ChangeSpec.witness_shaped (enc := c) (C := Tryz.pinned.checked) (os := q) (X := λw _ => laidMetH Tryz.prog [("math/bits.deBruijn32tab", Rows.laid_math_bits_deBruijn32tab)] w) false (World.laidAll Tryz.prog q [("math/bits.deBruijn32tab", Rows.laid_math_bits_deBruijn32tab)]) #[.agg #[.string ⟨#[]⟩, .slice none 0 0, .slice none 0 0], .agg #[.slice none 0 0, .slice none 0 0], .slice none 0 0, .int .i64 0] 8 (World.laidAll_os _ _ _)
      (World.shaped_of_ZipB (by kernel_rfl) (by kernel_rfl)) (by kernel_rfl) (by kernel_rfl) (by kernel_rfl)
      (by rw [MakeChecks.laidMetH_plain _ _ _ (by rfl)]; exact laidMet_laidAll _ (by kernel_rfl) (by kernel_rfl))) ?_
  · intro G n
    match G, n with
    | [Q, R, S, d4], _ => rfl
  · intro W F a G p B b I;have hL : laidMetH Tryz.prog [("math/bits.deBruijn32tab", .agg (Jk.map λx => .lit (.int .u8 x)))] W := B;rw [Tryz.params3] at I b;obtain ⟨E, aa, d0, T, p0, q0, t, rfl, rfl, h0, r0⟩ := trodAll_cons I;obtain ⟨K, ab, Q, U, p1, q1, u, rfl, rfl, h1, r1⟩ := trodAll_cons r0;obtain ⟨L, ac, R, V, p2, q2, v, rfl, rfl, h2, r2⟩ := trodAll_cons r1;obtain ⟨M, ad, S, Y, p3, q3, y, rfl, rfl, h3, r3⟩ := trodAll_cons r2;obtain ⟨rfl, rfl, rfl⟩ := trodAll_nil r3;obtain rfl : a = #[E, K, L, M] := by cases a; simp_all
    obtain ⟨f, Y0, n0, N, A⟩ := abv Tryz.underlying25 (by kernel_rfl) (by kernel_rfl) (b 0 25 E Z Z) h0;obtain ⟨e, k⟩ := TU Tryz.underlying9 (A 0 _ Z);obtain ⟨i, l⟩ := Dh aN Tryz.underlying22 (by kernel_rfl) ahf (A 1 _ Z);obtain ⟨j, m⟩ := Dh aJ Tryz.underlying23 (by kernel_rfl) ahd (A 2 _ Z);obtain rfl : E = .agg #[.string e, f 1, f 2] := by
      rw [N];show Value.agg #[f 0, f 1, f 2] = _;rw [k]
    obtain ⟨P, e1, o, r, rfl, f1, g1⟩ := VW (b 1 29 K Z Z) h1;obtain ⟨u2, l2, k2, rfl⟩ := okWide_slice Tryz.underlying30 (b 2 30 L Z Z);obtain ⟨n2, D⟩ := h2;obtain ⟨s, f2⟩ := Dh (iN.sl (iN.int .i64)) Tryz.underlying30 (by kernel_rfl) (aaA (iN.int .i64) Tryz.underlying26 (by kernel_rfl) (GQ Tryz.underlying3)) (by simpa [Value.cells] using D);obtain ⟨O, rfl, rfl, rfl, w3⟩ := open_int Tryz.underlying3 (b 3 3 M Z Z) h3;have h := Sd (e, i, j) (o, r.map (λz => z.2)) (s.map (λz => z.2)) O;have ht := Ey 1000 (f 1) (f 2) P e1 r (.slice u2 l2 k2) s true h;exact Om ht (λg J => by
      simp only [zAi, List.not_mem_nil, or_false] at J;rcases J with rfl | rfl | rfl | rfl | rfl | rfl
      · exact l
      · exact m
      · exact f1
      · exact ⟨g1, rfl⟩
      · exact ⟨f2, rfl⟩
      · exact VA (YQ hL) (by kernel_rfl) (by kernel_rfl) Tryz.underlying259 Tryz.underlying5 (by kernel_rfl) (by kernel_rfl) (by decide)
 )

theorem Fe : Rows.TopCompiledProgramsMoveSaid :=
  OpenClaim.holds_of_wide 3 Tryz.f3 Z Z Z Z Z Z Z ⟨rfl, rfl, rfl, rfl, rfl⟩ Z Z Z Z Z (by kernel_rfl) Tryz.func3 (by kernel_rfl)
    (of_decide_eq_true (by kernel_rfl)) (by unfold Func.isWrapper; first | (rw [if_pos (by decide +kernel)]; kernel_rfl) | (rw [if_neg (by decide +kernel)]; exact ⟨rfl, rfl⟩))
    (λc a H b _ => Dn c a H b)

theorem topCompiledProgramsMove_holds : Rows.TopCompiledProgramsMoveCardSaid :=
  Claim7.holds_tied_plain_at .later [] [.data] true (true, "1bec00ba75584ea6c5ddf30c28285b1380c0d75c0686451b7dc3bb48af361b7c") true Fe (λ_ h => by cases h) (by kernel_rfl) (λ_ h => by cases h) topCompiledProgramsMove_row_tie Z ⟨rfl, rfl⟩ (by kernel_rfl) Z
    (λf d e b => by
      obtain rfl : f = 3 := Option.some.inj ((show Tryz.prog.funcNamed "selfstab/selfstabtop.TopCompiledProgramsMove" = some 3 by kernel_rfl).symm.trans e) |>.symm;obtain rfl : d = Tryz.f3 := (Option.some.inj (Tryz.func3.symm.trans b)).symm;exact ⟨by kernel_rfl, λj t c => by
        rw [Tryz.params3] at c;have g : t ∈ [25, 29, 30, 3] := by simpa using Array.mem_of_getElem? c
        have a : ([25, 29, 30, 3].all λu => !Tryz.prog.wantsStandIn u) = true := by kernel_rfl
        exact (show Tryz.prog.wantsStandIn t = false by simpa using zA2.1 a t g)⟩)
    (by kernel_rfl)
end Go.Proofs.YtemmagadjnlajaaGreatDoor
