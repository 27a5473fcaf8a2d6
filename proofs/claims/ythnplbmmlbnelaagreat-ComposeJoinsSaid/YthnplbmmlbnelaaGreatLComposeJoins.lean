/- ComposeJoins returns true for every input, and leaves its arguments as they were. Conditions: none. -/
import Derived.Test.YthnplbmmlbnelaaGreatZCJn1
import Derived.Test.YthnplbmmlbnelaaGreatZCJn2
import Derived.Test.YthnplbmmlbnelaaGreatZCJn3
import Derived.Test.YthnplbmmlbnelaaGreatZCJn4
import Derived.Test.YthnplbmmlbnelaaGreatZCJn5
import Derived.Test.YthnplbmmlbnelaaGreatZCJn6
import Derived.Test.YthnplbmmlbnelaaGreatZCJn7
import Derived.Test.YthnplbmmlbnelaaGreatZCJn8
import Derived.Test.YthnplbmmlbnelaaGreatZCJn9
import Derived.Test.YthnplbmmlbnelaaGreatZCJn10
namespace Go.Proofs.YthnplbmmlbnelaaGreat
open Go.Sx Go.RowKit Go.ChangeShapes Go.WideShapes Go.ChangeAt Go.Joins

theorem QW {H : Type} {enc : TypeId × Value → H} {w : World} {base : Nat} {spare : Nat → Bool} {held : Bool} (n : Nat) (cs : List Value) (x : DataW H × List MemPlace) (h : DataW.trod enc Tryz.prog w base spare held n 49 cs = some x) : ∃ y, aF.R w (fun _ => True) cs y := by
  obtain ⟨V, Y, m, rfl, hV⟩ := Hm Tryz.underlying49 (by kernel_rfl) (by kernel_rfl) h
  obtain ⟨y0, e0⟩ := (MS Tryz.underlying9) _ _ _ (hV 0 _ rfl)
  obtain ⟨y1, e1⟩ := (Du Tryz.underlying3) _ _ _ (hV 1 _ rfl)
  obtain ⟨y2, e2⟩ := (Du Tryz.underlying3) _ _ _ (hV 2 _ rfl)
  obtain ⟨y3, e3⟩ := (Du Tryz.underlying3) _ _ _ (hV 3 _ rfl)
  obtain ⟨y4, e4⟩ := (Du Tryz.underlying3) _ _ _ (hV 4 _ rfl)
  obtain ⟨y5, e5⟩ := (Du Tryz.underlying3) _ _ _ (hV 5 _ rfl)
  exact ⟨(y0, y1, y2, y3, y4, y5), FG e0 (FG e1 (FG e2 (FG e3 (FG e4 (e5)))))⟩
theorem QX {H : Type} {enc : TypeId × Value → H} {w : World} {base : Nat} {spare : Nat → Bool} {held : Bool} (n : Nat) (cs : List Value) (x : DataW H × List MemPlace) (h : DataW.trod enc Tryz.prog w base spare held n 84 cs = some x) : ∃ y, bF.R w (fun _ => True) cs y := by
  obtain ⟨V, Y, m, rfl, hV⟩ := Hm Tryz.underlying84 (by kernel_rfl) (by kernel_rfl) h
  obtain ⟨y0, e0⟩ := (Du Tryz.underlying3) _ _ _ (hV 0 _ rfl)
  obtain ⟨y1, e1⟩ := (Du Tryz.underlying3) _ _ _ (hV 1 _ rfl)
  exact ⟨(y0, y1), FG e0 (e1)⟩
theorem Vn {H : Type} {enc : TypeId × Value → H} {w : World} {base : Nat} {spare : Nat → Bool} {held : Bool} (n : Nat) (cs : List Value) (x : DataW H × List MemPlace) (h : DataW.trod enc Tryz.prog w base spare held n 44 cs = some x) : ∃ y, aX.R w (fun _ => True) cs y := by
  obtain ⟨V, Y, m, rfl, hV⟩ := Hm Tryz.underlying44 (by kernel_rfl) (by kernel_rfl) h
  obtain ⟨y0, e0⟩ := (Du Tryz.underlying3) _ _ _ (hV 0 _ rfl)
  obtain ⟨y1, e1⟩ := (QY bF Tryz.underlying39 (by kernel_rfl) QX) _ _ _ (hV 1 _ rfl)
  exact ⟨(y0, y1), FG e0 (e1)⟩
theorem QV {H : Type} {enc : TypeId × Value → H} {w : World} {base : Nat} {spare : Nat → Bool} {held : Bool} (n : Nat) (cs : List Value) (x : DataW H × List MemPlace) (h : DataW.trod enc Tryz.prog w base spare held n 42 cs = some x) : ∃ y, aD.R w (fun _ => True) cs y := by
  obtain ⟨V, Y, m, rfl, hV⟩ := Hm Tryz.underlying42 (by kernel_rfl) (by kernel_rfl) h
  obtain ⟨y0, e0⟩ := (MS Tryz.underlying9) _ _ _ (hV 0 _ rfl)
  obtain ⟨y1, e1⟩ := (QY bF Tryz.underlying39 (by kernel_rfl) QX) _ _ _ (hV 1 _ rfl)
  obtain ⟨y2, e2⟩ := (QY aX Tryz.underlying40 (by kernel_rfl) Vn) _ _ _ (hV 2 _ rfl)
  exact ⟨(y0, y1, y2), FG e0 (FG e1 (e2))⟩

set_option maxHeartbeats 4000000 in
set_option maxRecDepth 100000 in
theorem Em (os : Os) (started : os.Started) (H : Type) (enc : TypeId × Value → H) :
    ReturnsInHanded {} Tryz.pinned.checked os 4 .any (Rows.composeJoinsSpec.pre6 enc Tryz.prog Tryz.f4 [] false) (Rows.composeJoinsSpec.post enc Tryz.prog Tryz.f4 false Rows.composeJoinsRow.fresh false false) := by
  refine Nf started Tryz.func4 (by kernel_rfl) (by kernel_rfl) rfl rfl ?_ (ChangeSpec.witness6 (C := Tryz.pinned.checked) false ⟨#[], #[.agg #[.string ⟨#[]⟩, .slice none 0 0, .slice none 0 0], .agg #[.string ⟨#[]⟩, .slice none 0 0, .slice none 0 0]], []⟩ 8 (by kernel_rfl) (by kernel_rfl) (by kernel_rfl) (by kernel_rfl)) ?_
  · intro ds hlen
    match ds, hlen with
    | [d1, d2], _ => rfl
  · intro W base args ds p hval hA
    rw [Tryz.params4] at hA hval
    obtain ⟨v0, vs0, d0, ds0, p0, q0, hargs0, rfl, rfl, h0, r0⟩ := trodAll_cons hA
    obtain ⟨v1, vs1, d1, ds1, p1, q1, hargs1, rfl, rfl, h1, r1⟩ := trodAll_cons r0
    obtain ⟨rfl, rfl, rfl⟩ := trodAll_nil r1
    obtain rfl : args = #[v0, v1] := by cases args; simp_all
    obtain ⟨V0, Y0, n0, E0, H0⟩ := LD Tryz.underlying25 (by kernel_rfl) (by kernel_rfl) (hval 0 25 v0 rfl rfl) h0
    obtain ⟨a0_0, e0_0⟩ := GU Tryz.underlying9 (H0 0 _ rfl)
    obtain ⟨xs0_1, f0_1⟩ := Bl aF Tryz.underlying22 (by kernel_rfl) QW (H0 1 _ rfl)
    obtain ⟨xs0_2, f0_2⟩ := Bl aD Tryz.underlying23 (by kernel_rfl) QV (H0 2 _ rfl)
    obtain rfl : v0 = .agg #[.string a0_0, V0 1, V0 2] := by
      rw [E0]
      show Value.agg #[V0 0, V0 1, V0 2] = _
      rw [e0_0]
    obtain ⟨V1, Y1, n1, E1, H1⟩ := LD Tryz.underlying25 (by kernel_rfl) (by kernel_rfl) (hval 1 25 v1 rfl rfl) h1
    obtain ⟨a1_0, e1_0⟩ := GU Tryz.underlying9 (H1 0 _ rfl)
    obtain ⟨xs1_1, f1_1⟩ := Bl aF Tryz.underlying22 (by kernel_rfl) QW (H1 1 _ rfl)
    obtain ⟨xs1_2, f1_2⟩ := Bl aD Tryz.underlying23 (by kernel_rfl) QV (H1 2 _ rfl)
    obtain rfl : v1 = .agg #[.string a1_0, V1 1, V1 2] := by
      rw [E1]
      show Value.agg #[V1 0, V1 1, V1 2] = _
      rw [e1_0]
    have hpure := Ft (a0_0, xs0_1, xs0_2) (a1_0, xs1_1, xs1_2)
    have ht := DG 1000 (V0 1) (V0 2) (V1 1) (V1 2) true hpure
    exact HK ht (fun g hg => by
      simp only [List.mem_cons, List.not_mem_nil, or_false] at hg
      rcases hg with rfl | rfl | rfl | rfl
      · exact f0_1
      · exact f0_2
      · exact f1_1
      · exact f1_2
 )

theorem composeJoins_holds : Rows.ComposeJoinsSaid :=
  OpenClaim.holds_of_wide 4 Tryz.f4 rfl rfl rfl rfl rfl rfl rfl ⟨rfl, rfl, rfl, rfl, rfl⟩ rfl rfl rfl rfl rfl (by kernel_rfl) Tryz.func4 (by kernel_rfl)
    (of_decide_eq_true (by kernel_rfl)) (by unfold Func.isWrapper; first | (rw [if_pos (by decide +kernel)]; kernel_rfl) | (rw [if_neg (by decide +kernel)]; exact ⟨rfl, rfl⟩))
    (fun os started H enc _ => Em os started H enc)
end Go.Proofs.YthnplbmmlbnelaaGreat
