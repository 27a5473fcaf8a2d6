/- SnapshotInTime returns true for every input, and leaves its arguments as they were; with what its row lists tied to the program's text. Conditions: none. -/
import Derived.Test.YtlkhndebimcbbaaGreatDoorZSInTi1
import Derived.Test.YtlkhndebimcbbaaGreatDoorZSInTi2
import Derived.Test.YtlkhndebimcbbaaGreatDoorZSInTi3
import Derived.Test.YtlkhndebimcbbaaGreatDoorZSInTi4
import Derived.Test.YtlkhndebimcbbaaGreatDoorZSInTi5
import Derived.Test.YtlkhndebimcbbaaGreatDoorZSInTi6
import Derived.Test.YtlkhndebimcbbaaGreatDoorZSInTi7
import Derived.Test.YtlkhndebimcbbaaGreatDoorZSInTi8
import Derived.Test.YtlkhndebimcbbaaGreatDoorZSInTi9
import Derived.Test.YtlkhndebimcbbaaGreatDoorZSInTi10
import Derived.Test.YtlkhndebimcbbaaGreatDoorTie
import Derived.Test.YtlkhndebimcbbaaGreatDoorCards
import Derived.SevenTiedAt
namespace Go.Proofs.YtlkhndebimcbbaaGreatDoor
open Go.Sx Go.RowKit Go.ChangeShapes Go.WideShapes Go.ChangeAt Go.Joins

set_option maxHeartbeats 4000000 in
set_option maxRecDepth 100000 in
theorem Dq (v : Os) (i : v.Started) (H : Type) (f : TypeId × Value → H) :
    ReturnsInHanded {} Tryz.pinned.checked v 4 .any (λw a => (Rows.snapshotInTimeSpec.pre f Tryz.prog Tryz.f4 [] false w a ∧ laidMetH Tryz.prog [("math/bits.deBruijn32tab", Rows.laid_math_bits_deBruijn32tab)] w) ∧ sizedMet f Tryz.prog Tryz.f4 (OpenSpec.ofChange Rows.snapshotInTimeSpec) false w a) (Rows.snapshotInTimeSpec.post f Tryz.prog Tryz.f4 false Rows.snapshotInTimeRow.fresh false false) := by
  refine Pk [("math/bits.deBruijn32tab", Rows.laid_math_bits_deBruijn32tab)] Z i Tryz.func4 (by kernel_rfl) (by kernel_rfl) Z Z ?_
    (ChangeSpec.witness_shaped (enc := f) (C := Tryz.pinned.checked) (os := v) (X := λw _ => laidMetH Tryz.prog [("math/bits.deBruijn32tab", Rows.laid_math_bits_deBruijn32tab)] w) false (World.laidAll Tryz.prog v [("math/bits.deBruijn32tab", Rows.laid_math_bits_deBruijn32tab)]) #[.agg #[.int .i64 0, .slice none 0 0, .slice none 0 0, .slice none 0 0, .bool false, .bool false], .slice none 0 0] 8 (World.laidAll_os _ _ _)
      (World.shaped_of_ZipB (by kernel_rfl) (by kernel_rfl)) (by kernel_rfl) (by kernel_rfl) (by kernel_rfl)
      (by rw [MakeChecks.laidMetH_plain _ _ _ (by rfl)]; exact laidMet_laidAll _ (by kernel_rfl) (by kernel_rfl))) ?_
  · intro G u
    match G, u with
    | [L, d2], _ => rfl
  · intro W F a G p B h I;have R : laidMetH Tryz.prog [("math/bits.deBruijn32tab", .agg (xM.map λx => .lit (.int .u8 x)))] W := B;rw [Tryz.params4] at I h;obtain ⟨D, Y, d0, M, S, q0, z, rfl, rfl, P, U⟩ := trodAll_cons I;obtain ⟨E, aa, L, N, T, q1, A, rfl, rfl, Q, V⟩ := trodAll_cons U;obtain ⟨rfl, rfl, rfl⟩ := trodAll_nil V;obtain rfl : a = #[D, E] := by cases a; simp_all
    obtain ⟨b, Y0, n0, K, m⟩ := Yx Tryz.underlying24 (by kernel_rfl) (by kernel_rfl) (h 0 24 D Z Z) P;obtain ⟨c, n⟩ := Yb Tryz.underlying3 (m 0 _ Z);obtain ⟨j, r⟩ := CV (eJ.int .i64) Tryz.underlying22 (by kernel_rfl) (Na Tryz.underlying3) (m 1 _ Z);obtain ⟨k, s⟩ := CV (eJ.int .i64) Tryz.underlying22 (by kernel_rfl) (Na Tryz.underlying3) (m 2 _ Z);obtain ⟨l, t⟩ := CV (eJ.int .i64) Tryz.underlying22 (by kernel_rfl) (Na Tryz.underlying3) (m 3 _ Z);obtain ⟨d, o⟩ := LR Tryz.underlying4 (m 4 _ Z);obtain ⟨e, q⟩ := LR Tryz.underlying4 (m 5 _ Z);obtain rfl : D = .agg #[.int .i64 c, b 1, b 2, b 3, .bool d, .bool e] := by
      rw [K];show Value.agg #[b 0, b 1, b 2, b 3, b 4, b 5] = _;rw [n, o, q]
    obtain ⟨y, O⟩ := Nw (h 1 22 E Z Z) Q;exact JD (CY (p0 := (c, j, k, l, d, e)) (p1 := y) 1000 (b 1) (b 2) (b 3) E true (Pe (c, j, k, l, d, e) y)) (λg J => by
      simp only [List.mem_cons, List.not_mem_nil, or_false] at J;rcases J with rfl | rfl | rfl | rfl | rfl
      · exact r
      · exact s
      · exact t
      · exact O
      · exact Rz (Vn R) (by kernel_rfl) (by kernel_rfl) Tryz.underlying222 Tryz.underlying5 (by kernel_rfl) (by kernel_rfl) (by decide)
 )

theorem FK : Rows.SnapshotInTimeSaid :=
  OpenClaim.holds_of_wide 4 Tryz.f4 Z Z Z Z Z Z Z ⟨rfl, rfl, rfl, rfl, rfl⟩ Z Z Z Z Z (by kernel_rfl) Tryz.func4 (by kernel_rfl)
    (of_decide_eq_true (by kernel_rfl)) (by unfold Func.isWrapper; first | (rw [if_pos (by decide +kernel)]; kernel_rfl) | (rw [if_neg (by decide +kernel)]; exact ⟨rfl, rfl⟩))
    (λc a H b _ => Dq c a H b)

theorem snapshotInTime_holds : Rows.SnapshotInTimeCardSaid :=
  Claim7.holds_tied_plain_at .later [] [.data] true (true, "8f23c64f59cab12dd593e9f26b21a739fb3c65eeb83621b94043d4e333c05f91") true FK (λ_ h => by cases h) (by kernel_rfl) (λ_ h => by cases h) snapshotInTime_row_tie Z ⟨rfl, rfl⟩ (by kernel_rfl) Z
    (λf d e b => by
      obtain rfl : f = 4 := Option.some.inj ((show Tryz.prog.funcNamed "selfstab/selfstablaw37.SnapshotInTime" = some 4 by kernel_rfl).symm.trans e) |>.symm;obtain rfl : d = Tryz.f4 := (Option.some.inj (Tryz.func4.symm.trans b)).symm;exact ⟨by kernel_rfl, λj t c => by
        rw [Tryz.params4] at c;have g : t ∈ [24, 22] := by simpa using Array.mem_of_getElem? c
        have a : ([24, 22].all λu => !Tryz.prog.wantsStandIn u) = true := by kernel_rfl
        exact (show Tryz.prog.wantsStandIn t = false by simpa using List.all_eq_true.1 a t g)⟩)
    (by kernel_rfl)
end Go.Proofs.YtlkhndebimcbbaaGreatDoor
