/- ComposeLayers returns true for every input, and leaves its arguments as they were. Conditions: none. -/
import Derived.Test.YthnplbmmlbnelaaGreatZCLy1
import Derived.Test.YthnplbmmlbnelaaGreatZCLy2
import Derived.Test.YthnplbmmlbnelaaGreatZCLy3
import Derived.Test.YthnplbmmlbnelaaGreatZCLy4
import Derived.Test.YthnplbmmlbnelaaGreatZCLy5
import Derived.Test.YthnplbmmlbnelaaGreatZCLy6
import Derived.Test.YthnplbmmlbnelaaGreatZCLy7
namespace Go.Proofs.YthnplbmmlbnelaaGreat
open Go.Sx Go.RowKit Go.ChangeShapes Go.WideShapes Go.ChangeAt Go.Joins

theorem el_T49 {H : Type} {enc : TypeId × Value → H} {w : World} {base : Nat} {spare : Nat → Bool} {held : Bool} (n : Nat) (cs : List Value) (x : DataW H × List MemPlace) (h : DataW.trod enc Tryz.prog w base spare held n 49 cs = some x) : ∃ y, aQ.R w (fun _ => True) cs y := by
  obtain ⟨V, Y, m, rfl, hV⟩ := Wb Tryz.underlying49 (by kernel_rfl) (by kernel_rfl) h
  obtain ⟨y0, e0⟩ := (Tz Tryz.underlying9) _ _ _ (hV 0 _ rfl)
  obtain ⟨y1, e1⟩ := (Tx Tryz.underlying3) _ _ _ (hV 1 _ rfl)
  obtain ⟨y2, e2⟩ := (Tx Tryz.underlying3) _ _ _ (hV 2 _ rfl)
  obtain ⟨y3, e3⟩ := (Tx Tryz.underlying3) _ _ _ (hV 3 _ rfl)
  obtain ⟨y4, e4⟩ := (Tx Tryz.underlying3) _ _ _ (hV 4 _ rfl)
  obtain ⟨y5, e5⟩ := (Tx Tryz.underlying3) _ _ _ (hV 5 _ rfl)
  exact ⟨(y0, y1, y2, y3, y4, y5), YO e0 (YO e1 (YO e2 (YO e3 (YO e4 (e5)))))⟩
theorem el_T84 {H : Type} {enc : TypeId × Value → H} {w : World} {base : Nat} {spare : Nat → Bool} {held : Bool} (n : Nat) (cs : List Value) (x : DataW H × List MemPlace) (h : DataW.trod enc Tryz.prog w base spare held n 84 cs = some x) : ∃ y, aY.R w (fun _ => True) cs y := by
  obtain ⟨V, Y, m, rfl, hV⟩ := Wb Tryz.underlying84 (by kernel_rfl) (by kernel_rfl) h
  obtain ⟨y0, e0⟩ := (Tx Tryz.underlying3) _ _ _ (hV 0 _ rfl)
  obtain ⟨y1, e1⟩ := (Tx Tryz.underlying3) _ _ _ (hV 1 _ rfl)
  exact ⟨(y0, y1), YO e0 (e1)⟩
theorem el_T44 {H : Type} {enc : TypeId × Value → H} {w : World} {base : Nat} {spare : Nat → Bool} {held : Bool} (n : Nat) (cs : List Value) (x : DataW H × List MemPlace) (h : DataW.trod enc Tryz.prog w base spare held n 44 cs = some x) : ∃ y, bA.R w (fun _ => True) cs y := by
  obtain ⟨V, Y, m, rfl, hV⟩ := Wb Tryz.underlying44 (by kernel_rfl) (by kernel_rfl) h
  obtain ⟨y0, e0⟩ := (Tx Tryz.underlying3) _ _ _ (hV 0 _ rfl)
  obtain ⟨y1, e1⟩ := (YL aY Tryz.underlying39 (by kernel_rfl) el_T84) _ _ _ (hV 1 _ rfl)
  exact ⟨(y0, y1), YO e0 (e1)⟩
theorem el_T42 {H : Type} {enc : TypeId × Value → H} {w : World} {base : Nat} {spare : Nat → Bool} {held : Bool} (n : Nat) (cs : List Value) (x : DataW H × List MemPlace) (h : DataW.trod enc Tryz.prog w base spare held n 42 cs = some x) : ∃ y, aK.R w (fun _ => True) cs y := by
  obtain ⟨V, Y, m, rfl, hV⟩ := Wb Tryz.underlying42 (by kernel_rfl) (by kernel_rfl) h
  obtain ⟨y0, e0⟩ := (Tz Tryz.underlying9) _ _ _ (hV 0 _ rfl)
  obtain ⟨y1, e1⟩ := (YL aY Tryz.underlying39 (by kernel_rfl) el_T84) _ _ _ (hV 1 _ rfl)
  obtain ⟨y2, e2⟩ := (YL bA Tryz.underlying40 (by kernel_rfl) el_T44) _ _ _ (hV 2 _ rfl)
  exact ⟨(y0, y1, y2), YO e0 (YO e1 (e2))⟩

set_option maxHeartbeats 4000000 in
set_option maxRecDepth 100000 in
theorem Bd (os : Os) (started : os.Started) (H : Type) (enc : TypeId × Value → H) :
    ReturnsInHanded {} Tryz.pinned.checked os 3 .any (Rows.composeLayersSpec.pre6 enc Tryz.prog Tryz.f3 [] false) (Rows.composeLayersSpec.post enc Tryz.prog Tryz.f3 false Rows.composeLayersRow.fresh false false) := by
  refine KM started Tryz.func3 (by kernel_rfl) (by kernel_rfl) rfl rfl ?_ (ChangeSpec.witness6 (C := Tryz.pinned.checked) false ⟨#[], #[.agg #[.string ⟨#[]⟩, .slice none 0 0, .slice none 0 0], .int .u32 0, .slice none 0 0], []⟩ 8 (by kernel_rfl) (by kernel_rfl) (by kernel_rfl) (by kernel_rfl)) ?_
  · intro ds hlen
    match ds, hlen with
    | [d1, d2, d3], _ => rfl
  · intro W base args ds p hval hA
    rw [Tryz.params3] at hA hval
    obtain ⟨v0, vs0, d0, ds0, p0, q0, hargs0, rfl, rfl, h0, r0⟩ := trodAll_cons hA
    obtain ⟨v1, vs1, d1, ds1, p1, q1, hargs1, rfl, rfl, h1, r1⟩ := trodAll_cons r0
    obtain ⟨v2, vs2, d2, ds2, p2, q2, hargs2, rfl, rfl, h2, r2⟩ := trodAll_cons r1
    obtain ⟨rfl, rfl, rfl⟩ := trodAll_nil r2
    obtain rfl : args = #[v0, v1, v2] := by cases args; simp_all
    obtain ⟨V0, Y0, n0, E0, H0⟩ := Pj Tryz.underlying25 (by kernel_rfl) (by kernel_rfl) (hval 0 25 v0 rfl rfl) h0
    obtain ⟨a0_0, e0_0⟩ := Jl Tryz.underlying9 (H0 0 _ rfl)
    obtain ⟨xs0_1, f0_1⟩ := As aQ Tryz.underlying22 (by kernel_rfl) el_T49 (H0 1 _ rfl)
    obtain ⟨xs0_2, f0_2⟩ := As aK Tryz.underlying23 (by kernel_rfl) el_T42 (H0 2 _ rfl)
    obtain rfl : v0 = .agg #[.string a0_0, V0 1, V0 2] := by
      rw [E0]
      show Value.agg #[V0 0, V0 1, V0 2] = _
      rw [e0_0]
    obtain ⟨a1, rfl, rfl, rfl, w1⟩ := open_int Tryz.underlying26 (hval 1 26 v1 rfl rfl) h1
    obtain ⟨u2, l2, k2, rfl⟩ := okWide_slice Tryz.underlying27 (hval 2 27 v2 rfl rfl)
    obtain ⟨n2, hf2⟩ := h2
    obtain ⟨xs2, f2⟩ := As (iO.sl (iO.int .i64)) Tryz.underlying27 (by kernel_rfl) (Sc (iO.int .i64) Tryz.underlying47 (by kernel_rfl) (Tx Tryz.underlying3)) (by simpa [Value.cells] using hf2)
    have hpure := Ce (a0_0, xs0_1, xs0_2) a1 (xs2.map (fun z => z.2)) (Qd w1).1 (Qd w1).2
    have ht := AL 1000 (V0 1) (V0 2) (.slice u2 l2 k2) xs2 true hpure
    exact Fj ht (fun g hg => by
      simp only [List.mem_cons, List.not_mem_nil, or_false] at hg
      rcases hg with rfl | rfl | rfl
      · exact f0_1
      · exact f0_2
      · exact ⟨f2, rfl⟩
 )

theorem composeLayers_holds : Rows.ComposeLayersSaid :=
  OpenClaim.holds_of_wide 3 Tryz.f3 rfl rfl rfl rfl rfl rfl rfl ⟨rfl, rfl, rfl, rfl, rfl⟩ rfl rfl rfl rfl rfl (by kernel_rfl) Tryz.func3 (by kernel_rfl)
    (of_decide_eq_true (by kernel_rfl)) (by unfold Func.isWrapper; first | (rw [if_pos (by decide +kernel)]; kernel_rfl) | (rw [if_neg (by decide +kernel)]; exact ⟨rfl, rfl⟩))
    (fun os started H enc _ => Bd os started H enc)
end Go.Proofs.YthnplbmmlbnelaaGreat
