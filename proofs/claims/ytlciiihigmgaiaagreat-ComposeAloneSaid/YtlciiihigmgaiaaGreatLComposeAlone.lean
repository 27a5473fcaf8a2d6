/- ComposeAlone returns true for every input, and leaves its arguments as they were. Conditions: none. -/
import Derived.Test.YtlciiihigmgaiaaGreatZCAl1
import Derived.Test.YtlciiihigmgaiaaGreatZCAl2
import Derived.Test.YtlciiihigmgaiaaGreatZCAl3
import Derived.Test.YtlciiihigmgaiaaGreatZCAl4
import Derived.Test.YtlciiihigmgaiaaGreatZCAl5
import Derived.Test.YtlciiihigmgaiaaGreatZCAl6
import Derived.Test.YtlciiihigmgaiaaGreatZCAl7
import Derived.Test.YtlciiihigmgaiaaGreatZCAl8
namespace Go.Proofs.YtlciiihigmgaiaaGreat
open Go.Sx Go.RowKit Go.ChangeShapes Go.WideShapes Go.ChangeAt Go.Joins

set_option maxHeartbeats 4000000 in
set_option maxRecDepth 100000 in
theorem AA (os : Os) (started : os.Started) (H : Type) (enc : TypeId × Value → H) :
    ReturnsInHanded {} Tryz.pinned.checked os 3 .any (Rows.composeAloneSpec.pre6 enc Tryz.prog Tryz.f3 [] false) (Rows.composeAloneSpec.post enc Tryz.prog Tryz.f3 false Rows.composeAloneRow.fresh false false) := by
  refine JX started Tryz.func3 (by kernel_rfl) (by kernel_rfl) rfl rfl ?_ (ChangeSpec.witness6 (C := Tryz.pinned.checked) false ⟨#[], #[.agg #[.int .i64 0, .slice none 0 0, .slice none 0 0, .slice none 0 0, .bool false, .bool false], .int .i64 0, .slice none 0 0, .int .u32 0], []⟩ 8 (by kernel_rfl) (by kernel_rfl) (by kernel_rfl) (by kernel_rfl)) ?_
  · intro ds hlen
    match ds, hlen with
    | [d1, d2, d3, d4], _ => rfl
  · intro W base args ds p hval hA
    rw [Tryz.params3] at hA hval
    obtain ⟨v0, vs0, d0, ds0, p0, q0, hargs0, rfl, rfl, h0, r0⟩ := trodAll_cons hA
    obtain ⟨v1, vs1, d1, ds1, p1, q1, hargs1, rfl, rfl, h1, r1⟩ := trodAll_cons r0
    obtain ⟨v2, vs2, d2, ds2, p2, q2, hargs2, rfl, rfl, h2, r2⟩ := trodAll_cons r1
    obtain ⟨v3, vs3, d3, ds3, p3, q3, hargs3, rfl, rfl, h3, r3⟩ := trodAll_cons r2
    obtain ⟨rfl, rfl, rfl⟩ := trodAll_nil r3
    obtain rfl : args = #[v0, v1, v2, v3] := by cases args; simp_all
    obtain ⟨V0, Y0, n0, E0, H0⟩ := OV Tryz.underlying24 (by kernel_rfl) (by kernel_rfl) (hval 0 24 v0 rfl rfl) h0
    obtain ⟨a0_0, e0_0⟩ := Ov Tryz.underlying3 (H0 0 _ rfl)
    obtain ⟨xs0_1, f0_1⟩ := xM (eB.int .i64) Tryz.underlying22 (by kernel_rfl) (GI Tryz.underlying3) (H0 1 _ rfl)
    obtain ⟨xs0_2, f0_2⟩ := xM (eB.int .i64) Tryz.underlying22 (by kernel_rfl) (GI Tryz.underlying3) (H0 2 _ rfl)
    obtain ⟨xs0_3, f0_3⟩ := xM (eB.int .i64) Tryz.underlying22 (by kernel_rfl) (GI Tryz.underlying3) (H0 3 _ rfl)
    obtain ⟨a0_4, e0_4⟩ := FS Tryz.underlying4 (H0 4 _ rfl)
    obtain ⟨a0_5, e0_5⟩ := FS Tryz.underlying4 (H0 5 _ rfl)
    obtain rfl : v0 = .agg #[.int .i64 a0_0, V0 1, V0 2, V0 3, .bool a0_4, .bool a0_5] := by
      rw [E0]
      show Value.agg #[V0 0, V0 1, V0 2, V0 3, V0 4, V0 5] = _
      rw [e0_0, e0_4, e0_5]
    obtain ⟨a1, rfl, rfl, rfl, w1⟩ := open_int Tryz.underlying3 (hval 1 3 v1 rfl rfl) h1
    obtain ⟨xs2, f2⟩ := Hc (hval 2 22 v2 rfl rfl) h2
    obtain ⟨a3, rfl, rfl, rfl, w3⟩ := open_int Tryz.underlying25 (hval 3 25 v3 rfl rfl) h3
    exact DW (zO (p0 := (a0_0, xs0_1, xs0_2, xs0_3, a0_4, a0_5)) (p1 := a1) (p2 := xs2) (p3 := a3) 1000 (V0 1) (V0 2) (V0 3) v2 true (JE (a0_0, xs0_1, xs0_2, xs0_3, a0_4, a0_5) a1 xs2 a3 (Qh w3).1 (Qh w3).2)) (fun g hg => by
      simp only [List.mem_cons, List.not_mem_nil, or_false] at hg
      rcases hg with rfl | rfl | rfl | rfl
      · exact f0_1
      · exact f0_2
      · exact f0_3
      · exact f2
 )

theorem composeAlone_holds : Rows.ComposeAloneSaid :=
  OpenClaim.holds_of_wide 3 Tryz.f3 rfl rfl rfl rfl rfl rfl rfl ⟨rfl, rfl, rfl, rfl, rfl⟩ rfl rfl rfl rfl rfl (by kernel_rfl) Tryz.func3 (by kernel_rfl)
    (of_decide_eq_true (by kernel_rfl)) (by unfold Func.isWrapper; first | (rw [if_pos (by decide +kernel)]; kernel_rfl) | (rw [if_neg (by decide +kernel)]; exact ⟨rfl, rfl⟩))
    (fun os started H enc _ => AA os started H enc)
end Go.Proofs.YtlciiihigmgaiaaGreat
