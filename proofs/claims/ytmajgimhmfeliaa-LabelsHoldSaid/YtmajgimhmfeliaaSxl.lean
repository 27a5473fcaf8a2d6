/- The layer Sx, part 12: from a contract to a given statement: the arguments' readings opened, the row closed. Conditions: none of its own. -/
import Derived.Test.YtmajgimhmfeliaaSxk
import Derived.Test.YtmajgimhmfeliaaRows
import Derived.ProofKit
import Derived.Deep.Slices
import Derived.Lib.SmallJoins
set_option linter.unusedVariables false
set_option linter.unusedSimpArgs false
namespace Go.Sx
open Go.RowKit Go.ChangeShapes Go.WideShapes Go.ChangeAt Go.Proofs Go.Joins

theorem own0 : ownKnob Try.prog.godebug = none := by kernel_rfl
theorem laid0 : laidOutB Try.prog = true := by kernel_rfl

section
variable {H : Type} {enc : TypeId × Value → H} {P : Program}

theorem trodAll_below (hl : laidOutB P = true) {W W' : World} (hb : Ext W W') : ∀ (ts : List TypeId) (vs : List Value) (ds : List (DataW H)) (p : List MemPlace), (ts.all fun t => P.readableRec t && decide (t < P.types.size)) = true →
    DataW.TrodAll enc P W 0 (fun _ => true) true ts vs ds p → (∀ x ∈ p, x.block < W.heap.size) → DataW.TrodAll enc P W' 0 (fun b => decide (b < W.heap.size)) true ts vs ds p
  | [], [], [], _, _, h, _ => h
  | t :: ts, v :: vs, d :: ds, ps, hr, h, hlt => by
    obtain ⟨p, q, h1, h2, rfl⟩ := h
    simp only [List.all_cons, Bool.and_eq_true, decide_eq_true_eq] at hr
    exact ⟨p, q, Below.trod hl hr.1.1 hr.1.2 h1 hb (fun x hx => hlt x (List.mem_append_left _ hx)), trodAll_below hl hb ts vs ds q (by simpa using hr.2) h2 (fun x hx => hlt x (List.mem_append_right _ hx)), rfl⟩
  | [], [], _ :: _, _, _, h, _ => h.elim
  | [], _ :: _, _, _, _, h, _ => h.elim
  | _ :: _, [], _, _, _, h, _ => h.elim
  | _ :: _, _ :: _, [], _, _, h, _ => h.elim

/-- a law: it returns true, and its arguments read as they did -/
theorem law_lifted {os : Os} (started : os.Started) {f : FuncId} {fn : Func} {s : ChangeSpec} {r : Bool} (hfn : Try.prog.funcs[f]? = some fn) (noInit : Try.prog.inits.idxOf? f = none)
    (hread : (fn.params.toList.all fun t => Try.prog.readableRec t && decide (t < Try.prog.types.size)) = true) (hres : fn.resultTypes = #[4]) (hvars : s.vars = [])
    (hspec : ∀ ds : List (DataW H), ds.length = fn.params.toList.length → s.fn H ds = { results := [.lit (.bool true)], args := ds })
    (witness : ∃ (w : World) (tape : Tape) (i : Input), w.os = os ∧ (w.forCall tape i).Shaped Try.prog ∧ i.vars = [] ∧ Input.okWide Try.prog (w.forCall tape i) .any w.heap.size f i ∧
      s.pre6 enc Try.prog fn [] false (w.forCall tape i).memory i.args ∧ ({} : Assume).holds Try.prog (lone (Frame.enter Try.prog f i.args .normal) [] (w.forCall tape i)))
    (main : ∀ (W : World) (base : Nat) (args : Array Value) (ds : List (DataW H)) (p : List MemPlace), (∀ (j : Nat) t v, fn.params[j]? = some t → args[j]? = some v → Value.okWide Try.prog W .any base t v) →
      DataW.TrodAll enc Try.prog W 0 (fun _ => true) true fn.params.toList args.toList ds p → Calls Try.prog f args W fun e W' => e = .returned (.bool true) ∧ Ext W W') :
    ReturnsInHanded {} Go.Proofs.Ytmajgimhmfeliaa.Try.pinned.checked os f .any (s.pre6 enc Try.prog fn [] false) (s.post enc Try.prog fn false r false false) := by
  refine returnsInHanded_of_change (C := Go.Proofs.Ytmajgimhmfeliaa.Try.pinned.checked) own0 started noInit hfn witness ?_
  intro W base args ds gs before hval hW _ _
  have hlt := hW.lt
  have hW' := hW
  obtain ⟨p, q, hA, hV, rfl, _, _⟩ := hW
  rw [hvars] at hV
  obtain ⟨rfl, rfl⟩ := trodVars_none hV
  refine (main W base args ds p hval hA).mono ?_
  rintro e W' ⟨rfl, hb⟩
  refine ⟨_, rfl, ?_⟩
  have hlen : ds.length = fn.params.toList.length := by
    have : ∀ (ts : List TypeId) (vs : List Value) (ds : List (DataW H)) (p : List MemPlace), DataW.TrodAll enc Try.prog W 0 (fun _ => true) true ts vs ds p → ds.length = ts.length := by
      intro ts
      induction ts with
      | nil => intro vs ds p h; cases vs <;> cases ds <;> first | rfl | exact h.elim
      | cons t ts ih =>
        intro vs ds p h
        cases vs with
        | nil => exact h.elim
        | cons v vs =>
          cases ds with
          | nil => exact h.elim
          | cons d ds => obtain ⟨_, _, _, h2, _⟩ := h; simp [ih vs ds _ h2]
    exact this _ _ _ _ hA
  have hs : s.fn H (ds ++ []) = { results := [.lit (.bool true)], args := ds } := by rw [List.append_nil]; exact hspec ds hlen
  refine ⟨ds, [], p ++ [], [], p, [], hW', ?_, ?_, ?_, hb.frame _, fun h => by cases h⟩
  · rw [hs, hres]
    exact trodAll_mk1 (shut_bool Try.underlying4 true)
  · rw [hs]
    exact trodAll_below laid0 hb _ _ _ _ hread hA (fun x hx => hlt x (List.mem_append_left _ hx))
  · rw [hs, hvars]; exact rfl

/-- out of a contract -/
theorem calls_of_meets {f : FuncId} {args : Array Value} {L : List Fact} {W : World} (h : Meets Try.prog f args L (fun _ : Unit => .bool true) (fun _ l => l) (fun _ l => l)) (hL : ∀ g ∈ L, g.p W (fun _ => True)) :
    Calls Try.prog f args W fun e W' => e = .returned (.bool true) ∧ Ext W W' :=
  (h W (fun _ => True) hL).mono fun _ _ ⟨_, he, ht⟩ => ⟨he, ht.old.ext⟩

/-! ## The arguments -/
variable {w : World} {base : Nat} {spare : Nat → Bool} {held : Bool}

theorem cells_get {A : Addr} {k : Nat} {cs : List Value} (h : w.cells? base A k = some cs) : cs.length = k ∧ ∀ (j : Nat) (u : Value), cs[j]? = some u → w.cell? (A.add j) = some u := by
  obtain ⟨_, h1, h2⟩ := World.cells?_some h
  refine ⟨h1, fun j u hu => ?_⟩
  have hj := getElem?_lt hu
  rw [h2 j (by omega)]; exact hu

theorem sl_of_trod {α : Type} (r : Rep α) {t e : TypeId} (ht : P.underlying t = some (.slice e)) (hc : P.cellsOf e = r.sz)
    (hel : ∀ (n : Nat) (cs : List Value) (x : DataW H × List MemPlace), DataW.trod enc P w base spare held n e cs = some x → ∃ y : α, r.R w (fun _ => True) cs y)
    {fuel : Nat} {v : Value} {x : DataW H × List MemPlace} (h : DataW.trod enc P w base spare held fuel t [v] = some x) : ∃ xs : List α, SlR r w (fun _ => True) v xs := by
  rcases Deep.open_slice ht h with ⟨hv, _⟩ | ⟨a, len, cap, m, n, D, Pl, hv, hb, hl, hm, hmm, _, hx⟩
  · cases hv
    exact ⟨[], none, 0, rfl, by simp, .inl rfl⟩
  · cases hv
    have hle : len ≤ m := by rw [hmm]; split <;> omega
    by_cases h0 : len = 0
    · subst h0
      exact ⟨[], some a, cap, rfl, by simp, .inl rfl⟩
    · -- the elements, chosen one by one
      have key : ∀ k, k ≤ len → ∃ xs : List α, xs.length = k ∧ ∀ i y, xs[i]? = some y → ∃ es, (∀ (j : Nat) (u : Value), es[j]? = some u → w.cell? ((a.add (i * P.cellsOf e)).add j) = some u) ∧ r.R w (fun _ => True) es y := by
        intro k
        induction k with
        | zero => exact fun _ => ⟨[], rfl, fun i y hy => by simp at hy⟩
        | succ k ih =>
          intro hk
          obtain ⟨xs, h1, h2⟩ := ih (by omega)
          obtain ⟨cs', hcs, htr⟩ := hx k (by omega)
          obtain ⟨y, hy⟩ := hel n cs' _ htr
          refine ⟨xs ++ [y], by simp [h1], fun i y' hi => ?_⟩
          by_cases e' : i < xs.length
          · rw [List.getElem?_append_left e'] at hi; exact h2 i y' hi
          · have hik : i = k := by
              have := getElem?_lt hi
              simp at this; omega
            subst hik
            rw [List.getElem?_append_right (by omega), h1, Nat.sub_self] at hi
            simp at hi; subst hi
            exact ⟨cs', (cells_get hcs).2, hy⟩
      obtain ⟨xs, h1, h2⟩ := key len (Nat.le_refl _)
      have hspot : a.spot = none := by
        obtain ⟨es, he, hr⟩ := h2 0 (xs[0]'(by omega)) (List.getElem?_eq_getElem _)
        have hlen := r.len hr
        have hpos := r.pos
        have := he 0 (es[0]'(by omega)) (List.getElem?_eq_getElem _)
        rw [Nat.zero_mul] at this
        have e0 : (a.add 0).add 0 = a := rfl
        rw [e0] at this
        unfold World.cell? at this
        split at this
        · split at this
          · cases this
          · rename_i h'; simpa using h'
        · cases this
      obtain ⟨b, off, sp⟩ := a
      simp only at hspot
      subst hspot
      refine ⟨xs, some ⟨b, off, none⟩, cap, by rw [h1], ?_, .inr ⟨b, off, rfl, trivial, fun i y hy => ?_⟩⟩
      · have : maxLen = 9223372036854775807 := rfl
        exact ⟨by omega, by omega⟩
      · obtain ⟨es, he, hr⟩ := h2 i y hy
        refine ⟨es, fun j u hu => ?_, hr⟩
        have := he j u hu
        rw [add_none, add_none, hc] at this
        rwa [Nat.add_assoc] at this

theorem el_int {k : IntKind} {e : TypeId} (he : P.underlying e = some (.int k)) (n : Nat) (cs : List Value) (x : DataW H × List MemPlace) (h : DataW.trod enc P w base spare held n e cs = some x) : ∃ y : Int, (Rep.int k).R w (fun _ => True) cs y := by
  obtain ⟨y, hy, _, _⟩ := DataW.trod_int he h
  exact ⟨y, hy⟩

theorem el_sl {α : Type} (r : Rep α) {t e : TypeId} (ht : P.underlying t = some (.slice e)) (hc : P.cellsOf e = r.sz)
    (hel : ∀ (n : Nat) (cs : List Value) (x : DataW H × List MemPlace), DataW.trod enc P w base spare held n e cs = some x → ∃ y : α, r.R w (fun _ => True) cs y)
    (n : Nat) (cs : List Value) (x : DataW H × List MemPlace) (h : DataW.trod enc P w base spare held n t cs = some x) : ∃ y : Value × List α, (Rep.sl r).R w (fun _ => True) cs y := by
  have : ∃ v, cs = [v] := by
    rcases Deep.open_slice ht h with ⟨hv, _⟩ | ⟨a, len, cap, m, n, D, Pl, hv, _⟩
    · exact ⟨_, hv⟩
    · exact ⟨_, hv⟩
  obtain ⟨v, rfl⟩ := this
  obtain ⟨xs, hxs⟩ := sl_of_trod r ht hc hel h
  exact ⟨(v, xs), rfl, hxs⟩

theorem el_link (n : Nat) (cs : List Value) (x : DataW H × List MemPlace) (h : DataW.trod enc Try.prog w base spare held n 40 cs = some x) : ∃ y : Int × Int, linkRep.R w (fun _ => True) cs y := by
  obtain ⟨y0, y1, m, _, hl, h0, h1⟩ := trod_struct2 Try.underlying40 h
  obtain ⟨a, ha, _, _⟩ := DataW.trod_int Try.underlying3 h0
  obtain ⟨b, hb, _, _⟩ := DataW.trod_int Try.underlying3 h1
  have e1 : Try.prog.cellsOf 3 = 1 := by kernel_rfl
  have e2 : Try.prog.cellsOf 40 = 2 := by kernel_rfl
  simp only [e1] at ha hb
  refine ⟨(a, b), [.int .i64 a], [.int .i64 b], ?_, rfl, rfl⟩
  rw [e2] at hl
  match cs, hl with
  | [c0, c1], _ =>
    simp at ha hb
    rw [ha, hb]; rfl

theorem cells_int : Try.prog.cellsOf 3 = 1 := by kernel_rfl
theorem cells_link : Try.prog.cellsOf 40 = 2 := by kernel_rfl
theorem cells_links : Try.prog.cellsOf 41 = 1 := by kernel_rfl
theorem cells_graph : Try.prog.cellsOf 29 = 2 := by kernel_rfl

/-- a list of integers that came in -/
theorem open_intList {b0 : Nat} {v : Value} {d : DataW H} {p : List MemPlace} (hv : Value.okWide Try.prog w .any b0 22 v) (h : DataW.Trod enc Try.prog w base spare held 22 v d p) : ∃ xs : List Int, (Sl (Rep.int .i64) v xs).p w (fun _ => True) := by
  obtain ⟨a0, len, cap, rfl⟩ := okWide_slice Try.underlying22 hv
  obtain ⟨fuel, hf⟩ := h
  exact sl_of_trod (Rep.int .i64) Try.underlying22 cells_int (el_int Try.underlying3) (by simpa [Value.cells] using hf)

/-- a graph that came in -/
theorem open_graph {b0 : Nat} {v : Value} {d : DataW H} {p : List MemPlace} (hv : Value.okWide Try.prog w .any b0 29 v) (h : DataW.Trod enc Try.prog w base spare held 29 v d p) :
    ∃ (c0 c1 : Value) (ids : List Int) (ps : List (Value × List (Int × Int))), v = .agg #[c0, c1] ∧ (Sl (Rep.int .i64) c0 ids).p w (fun _ => True) ∧ (Sl (Rep.sl linkRep) c1 ps).p w (fun _ => True) := by
  obtain ⟨c0, c1, y0, y1, m, rfl, _, _, h0, h1⟩ := open_agg2 Try.underlying29 (by kernel_rfl) cells_graph hv h
  obtain ⟨ids, hids⟩ := sl_of_trod (Rep.int .i64) Try.underlying22 cells_int (el_int Try.underlying3) h0
  obtain ⟨ps, hps⟩ := sl_of_trod (Rep.sl linkRep) Try.underlying27 cells_links (el_sl linkRep Try.underlying41 cells_link el_link) h1
  exact ⟨c0, c1, ids, ps, rfl, hids, hps⟩
end
end Go.Sx
