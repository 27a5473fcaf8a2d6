/- CrashJudges returns true for every input, and leaves its arguments as they were. Conditions: none. -/
import Derived.Test.YtfimaabbclepbaaGreatZCJu7
namespace Go.Proofs.YtfimaabbclepbaaGreat
open Go.Sx Go.RowKit Go.ChangeShapes Go.WideShapes Go.ChangeAt Go.Joins

set_option maxHeartbeats 4000000 in
set_option maxRecDepth 100000 in
theorem crashJudges_lifted (os : Os) (started : os.Started) (H : Type) (enc : TypeId × Value → H) :
    ReturnsInHanded {} Tryz.pinned.checked os 3 .any (Rows.crashJudgesSpec.pre6 enc Tryz.prog Tryz.f3 [] false) (Rows.crashJudgesSpec.post enc Tryz.prog Tryz.f3 false Rows.crashJudgesRow.fresh false false) := by
  refine law_lifted started Tryz.func3 (by kernel_rfl) (by kernel_rfl) rfl rfl ?_ (ChangeSpec.witness6 (C := Tryz.pinned.checked) false ⟨#[], #[.agg #[.slice none 0 0, .slice none 0 0], .slice none 0 0, .int .u32 0], []⟩ 8 (by kernel_rfl) (by kernel_rfl) (by kernel_rfl) (by kernel_rfl)) ?_
  · intro ds hlen
    match ds, hlen with
    | [d1, d2, d3], _ => rfl
  · intro W base args ds p hval hA
    rw [Tryz.params3] at hA hval
    obtain ⟨v0, vs0, d0, ds0, p0, q0, hargs0, rfl, rfl, h0, r0⟩ := trodAll_cons hA
    obtain ⟨v1, vs1, d1, ds1, p1, q1, hargs1, rfl, rfl, h1, r1⟩ := trodAll_cons r0
    obtain ⟨v2, vs2, d2, ds2, p2, q2, hargs2, rfl, rfl, h2, r2⟩ := trodAll_cons r1
    obtain ⟨rfl, rfl, rfl⟩ := trodAll_nil r2
    obtain rfl : args = #[v0, v1, v2] := by cases args; simp_all
    obtain ⟨c0, e0, ids0, ps0, rfl, f0, g0⟩ := open_graph (hval 0 25 v0 rfl rfl) h0
    obtain ⟨u1, l1, k1, rfl⟩ := okWide_slice Tryz.underlying26 (hval 1 26 v1 rfl rfl)
    obtain ⟨n1, hf1⟩ := h1
    obtain ⟨xs1, f1⟩ := sl_of_trod (Rep.sl (Rep.int .i64)) Tryz.underlying26 (by kernel_rfl) (el_sl (Rep.int .i64) Tryz.underlying22 (by kernel_rfl) (el_int Tryz.underlying3)) (by simpa [Value.cells] using hf1)
    obtain ⟨a2, rfl, rfl, rfl, w2⟩ := open_int Tryz.underlying27 (hval 2 27 v2 rfl rfl) h2
    exact calls_of_meets (t_law44_CrashJudges (p0 := (ids0, ps0.map (fun z => z.2))) (p1 := (xs1.map (fun z => z.2))) (p2 := a2) 1000 c0 e0 ps0 _ xs1 true (judges_pure (ids0, ps0.map (fun z => z.2)) (xs1.map (fun z => z.2)) a2 (wf_u32 w2).1 (wf_u32 w2).2)) (fun g hg => by
      simp only [List.mem_cons, List.not_mem_nil, or_false] at hg
      rcases hg with rfl | rfl | rfl
      · exact f0
      · exact ⟨g0, rfl⟩
      · exact ⟨f1, rfl⟩
 )

theorem crashJudges_holds : Rows.CrashJudgesSaid :=
  OpenClaim.holds_of_wide 3 Tryz.f3 rfl rfl rfl rfl rfl rfl rfl ⟨rfl, rfl, rfl, rfl, rfl⟩ rfl rfl rfl rfl rfl (by kernel_rfl) Tryz.func3 (by kernel_rfl)
    (of_decide_eq_true (by kernel_rfl)) (by unfold Func.isWrapper; first | (rw [if_pos (by decide +kernel)]; kernel_rfl) | (rw [if_neg (by decide +kernel)]; exact ⟨rfl, rfl⟩))
    (fun os started H enc _ => crashJudges_lifted os started H enc)
end Go.Proofs.YtfimaabbclepbaaGreat
