/- The layer Sx, part 24: arguments that are structs of one-cell fields, or slices of pairs, opened. Conditions: none of its own. -/
import Derived.Test.YtmajgimhmfeliaaSxl
import Derived.OpenShut
set_option linter.unusedVariables false
set_option linter.unusedSimpArgs false
namespace Go.Sx
open Go.RowKit Go.ChangeShapes Go.WideShapes Go.ChangeAt Go.Proofs Go.Joins Go.Deep

section
variable {H : Type} {enc : TypeId × Value → H} {P : Program} {w : World} {base : Nat} {spare : Nat → Bool} {held : Bool}

theorem list_by_index {α : Type} (l : List α) (d : α) : l = (List.range l.length).map fun i => l.getD i d := by
  apply List.ext_getElem?
  intro i
  by_cases h : i < l.length
  · simp [h]
  · simp [h]

/-- a struct of one-cell fields that came in -/
theorem open_agg {r : Reach} {b0 : Nat} {t : TypeId} {fs : Array Field} {v : Value} {d : DataW H} {p : List MemPlace} (hs : P.underlying t = some (.struct fs)) (hone : oneCellFields P fs = true) (hC : P.cellsOf t = fs.size)
    (hv : Value.okWide P w r b0 t v) (h : DataW.Trod enc P w base spare held t v d p) :
    ∃ (V : Nat → Value) (Y : Nat → DataW H × List MemPlace) (n : Nat), v = .agg ((List.range fs.size).map V).toArray ∧ ∀ (i : Nat) (f : Field), fs[i]? = some f → DataW.trod enc P w base spare held n f.type [V i] = some (Y i) := by
  obtain ⟨cs, rfl, hsz⟩ := okWide_struct hs hv
  obtain ⟨fuel, hf⟩ := h
  obtain ⟨xs, n, _, _, _, hlen, hg⟩ := DataW.trod_struct hs hf
  refine ⟨fun i => cs.toList.getD i undef, fun i => xs.getD i (.nil, []), n, ?_, fun i f hi => ?_⟩
  · congr 1
    apply Array.toList_inj.1
    show cs.toList = (List.range fs.size).map fun i => cs.toList.getD i undef
    have h2 : fs.size = cs.toList.length := by rw [← hC, ← hsz]; rfl
    rw [h2]
    exact list_by_index cs.toList undef
  · have hlt : i < fs.size := (Array.getElem?_eq_some_iff.1 hi).1
    obtain ⟨o, k⟩ := hone_of hone i f hi
    have g := hg i f hi
    have hcl : (Value.cells (.agg cs)).toList = cs.toList := rfl
    have hl : i < cs.toList.length := by rw [Array.length_toList]; omega
    rw [o, k, hcl, take1_drop _ _ undef hl] at g
    rw [g]
    have hx : i < xs.length := by omega
    simp [hx]

theorem leaf_int {k : IntKind} {e : TypeId} (he : P.underlying e = some (.int k)) {n : Nat} {v : Value} {x : DataW H × List MemPlace} (h : DataW.trod enc P w base spare held n e [v] = some x) : ∃ y : Int, v = .int k y := by
  obtain ⟨y, hy, _, _⟩ := DataW.trod_int he h
  exact ⟨y, by simpa using hy⟩
theorem leaf_bool {e : TypeId} (he : P.underlying e = some .bool) {n : Nat} {v : Value} {x : DataW H × List MemPlace} (h : DataW.trod enc P w base spare held n e [v] = some x) : ∃ y : Bool, v = .bool y := by
  obtain ⟨y, hy, _⟩ := DataW.trod_bool he h
  exact ⟨y, by simpa using hy⟩

/-- an array of two integers among a slice's cells -/
theorem el_two {k : IntKind} {t e : TypeId} (ht : P.underlying t = some (.array 2 e)) (he : P.underlying e = some (.int k)) (hc : P.cellsOf t = 2) (hce : P.cellsOf e = 1) (n : Nat) (cs : List Value) (x : DataW H × List MemPlace) (h : DataW.trod enc P w base spare held n t cs = some x) :
    ∃ y : Int × Int, ((Rep.int k).pair (Rep.int k)).R w (fun _ => True) cs y := by
  obtain ⟨xs, m, _, _, hl, hxl, hi⟩ := DataW.trod_array ht h
  have g0 := hi 0 (by omega)
  have g1 := hi 1 (by omega)
  rw [List.getElem?_eq_getElem (by omega)] at g0 g1
  obtain ⟨a, ha, _, _⟩ := DataW.trod_int he g0
  obtain ⟨b, hb, _, _⟩ := DataW.trod_int he g1
  rw [hc] at hl
  simp only [hce] at ha hb
  refine ⟨(a, b), [.int k a], [.int k b], ?_, rfl, rfl⟩
  match cs, hl with
  | [c0, c1], _ =>
    simp at ha hb
    rw [ha, hb]; rfl
end
end Go.Sx
