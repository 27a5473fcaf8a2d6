/- The layer Sx, part 8: slices of the call's own: make, literals, append, stores, handing over. Conditions: a table of types that is right for the program; bounds on lengths where a slice grows. -/
import Derived.Test.YtmajgimhmfeliaaSxg
import Derived.Deep.AppendSrc
set_option linter.unusedVariables false
set_option linter.unusedSimpArgs false
namespace Go.Sx
open Go.RowKit

/-! ## Encodings of elements by cells -/
structure Enc (α : Type) where
  sz : Nat
  pos : 0 < sz
  enc : α → List Value
  len : ∀ x, (enc x).length = sz

def Enc.int (k : IntKind) : Enc Int := ⟨1, Nat.one_pos, fun x => [.int k x], fun _ => rfl⟩
def Enc.bool : Enc Bool := ⟨1, Nat.one_pos, fun x => [.bool x], fun _ => rfl⟩
def Enc.raw : Enc Value := ⟨1, Nat.one_pos, fun x => [x], fun _ => rfl⟩
def Enc.link : Enc (Int × Int) := ⟨2, by decide, fun x => [.int .i64 x.1, .int .i64 x.2], fun _ => rfl⟩

def cellsOf {α : Type} (e : Enc α) (xs : List α) : List Value := xs.flatMap e.enc

theorem cellsOf_length {α : Type} (e : Enc α) (xs : List α) : (cellsOf e xs).length = xs.length * e.sz := by
  induction xs with
  | nil => simp [cellsOf]
  | cons x xs ih => simp only [cellsOf, List.flatMap_cons, List.length_append, e.len, List.length_cons, Nat.add_mul] at *; omega

theorem cellsOf_get {α : Type} (e : Enc α) (xs : List α) : ∀ (i : Nat) (x : α), xs[i]? = some x → ∀ j u, (e.enc x)[j]? = some u → (cellsOf e xs)[i * e.sz + j]? = some u := by
  induction xs with
  | nil => intro i x h; simp at h
  | cons y xs ih =>
    intro i x h j u hj
    simp only [cellsOf, List.flatMap_cons]
    cases i with
    | zero =>
      simp at h; subst h
      rw [List.getElem?_append_left (by have := getElem?_lt hj; omega)]
      simpa using hj
    | succ i =>
      simp only [List.getElem?_cons_succ] at h
      rw [List.getElem?_append_right (by rw [e.len, Nat.add_mul]; omega), e.len]
      have : (i + 1) * e.sz + j - e.sz = i * e.sz + j := by rw [Nat.add_mul]; omega
      rw [this]
      exact ih i x h j u hj

theorem cellsOf_append {α : Type} (e : Enc α) (xs ys : List α) : cellsOf e (xs ++ ys) = cellsOf e xs ++ cellsOf e ys := by simp [cellsOf]

/-! ## A slice of the call's own -/
def ArR {α : Type} (e : Enc α) (w : World) (F : Nat → Prop) (v : Value) (xs : List α) : Prop :=
  xs.length ≤ 140737488355328 ∧ (cellsOf e xs).all one = true ∧ ((v = .slice none 0 0 ∧ xs = []) ∨ ∃ b off cap T, ∃ cur : Array Value, v = .slice (some ⟨b, off, none⟩) xs.length cap ∧ F b ∧ w.heap[b]? = some (.cells cur T (0, 0)) ∧
    xs.length ≤ cap ∧ off + cap * e.sz ≤ cur.size ∧ (cur.toList.drop off).take (xs.length * e.sz) = cellsOf e xs)

def Ar {α : Type} (e : Enc α) (v : Value) (xs : List α) : Fact where
  p w F := ArR e w F v xs
  mono := fun ⟨h0, h1, h⟩ hs => ⟨h0, h1, by
    rcases h with h | ⟨b, off, cap, T, cur, hv, hF, hb, r⟩
    · exact .inl h
    · obtain ⟨h3, h4⟩ := hs b hF (Array.getElem?_eq_some_iff.1 hb).1
      exact .inr ⟨b, off, cap, T, cur, hv, h3, by rw [h4]; exact hb, r⟩⟩

section
variable {α : Type} {e : Enc α} {w : World} {F : Nat → Prop} {v : Value} {xs : List α}

theorem ArR.cell (h : ArR e w F v xs) {i : Nat} {x : α} (hx : xs[i]? = some x) {j : Nat} {u : Value} (hu : (e.enc x)[j]? = some u) : w.cell? (elA v (i * e.sz + j)) = some u := by
  obtain ⟨_, _, h⟩ := h
  rcases h with ⟨_, h⟩ | ⟨b, off, cap, T, cur, hv, _, hb, hk, hc, ht⟩
  · subst h; simp at hx
  · have hg := cellsOf_get e xs i x hx j u hu
    rw [← ht, List.getElem?_take] at hg
    split at hg
    · rw [List.getElem?_drop] at hg
      subst hv
      simp only [elA, add_none]
      simp [World.cell?, hb]
      simpa using hg
    · cases hg

theorem ArR.free (h : ArR e w F v xs) (hx : xs ≠ []) (o : Nat) : w.frozen? (elA v o) = false := by
  obtain ⟨_, _, h⟩ := h
  rcases h with ⟨_, h⟩ | ⟨b, off, cap, T, cur, hv, _, hb, _⟩
  · exact absurd h hx
  · subst hv; simp only [elA, add_none]; simp [World.frozen?, hb]
end

section
variable {P : Program} {rd : Option Nat} {c : Ctx} {n : Sz} {σ : Fr} {M L : List Fact} {Q : Exit → Act → World → Prop} {ops : Array Oper} {rest : List Oper}
variable {d : Option Tmp} {D : Nat} {ty : TypeId} {pos : String} {aft : Array Edge} {g : Option (Nat × Bool)}
variable {α : Type} {e : Enc α}

theorem Y.lenA [Tab P] (i : Nat) {T E : TypeId} {s1 s2 : Nat} {z : Value} {x : Operand} {v : Value} {xs : List α} (hx : ev σ x = some v) (hf : M[i]? = some (Ar e v xs))
    (hT : Tab.tab P T = some ⟨.slice E, s1, s2, z⟩) : Y P c n σ M L ⟨d, .call ⟨.builtin .len, #[x], #[T]⟩, ty, pos, aft, g⟩ (.int .i64 xs.length) := fun a w s t => by
  obtain ⟨S, _, _, h⟩ := t.res hf
  rcases h with ⟨rfl, rfl⟩ | ⟨b, off, cap, T', cur, rfl, _⟩
  · have := run_len w (Tab.ok hT) rfl none 0 0 ty
    simp [execOp, resolve, invoke, builtin, s.eval hx, this]
  · simp [execOp, resolve, invoke, builtin, s.eval hx, run_len w (Tab.ok hT) rfl]

theorem Y.indexA [Tab P] (j : Nat) {T E : TypeId} {s1 s2 s3 s4 : Nat} {z z' : Value} {dE : TypeDesc} {x y : Operand} {v : Value} {i : Int} {xs : List α} (hx : ev σ x = some v) (hy : ev σ y = some (.int .i64 i)) (hf : M[j]? = some (Ar e v xs))
    (hT : Tab.tab P T = some ⟨.slice E, s1, s2, z⟩) (hE : Tab.tab P E = some ⟨dE, s3, s4, z'⟩) (h0 : 0 ≤ i) (h1 : i < xs.length) :
    Y P c n σ M L ⟨d, .indexAddr T x y, ty, pos, aft, g⟩ (elq v (i.toNat * s3)) := fun a w s t => by
  obtain ⟨S, _, _, h⟩ := t.res hf
  rcases h with ⟨rfl, rfl⟩ | ⟨b, off, cap, T', cur, rfl, _⟩
  · simp at h1; omega
  · simp [execOp, s.eval hx, s.eval hy, run_index w (Tab.ok hT) rfl (Tab.ok hE) b off _ cap i h0 h1]

theorem Y.loadA [Tab P] [Inhabited α] (j : Nat) {T : TypeId} {s2 q o : Nat} {z : Value} {dT : TypeDesc} {x : Operand} {v : Value} {i : Int} {xs : List α} {u : Value} (hx : ev σ x = some (elq v (i.toNat * q + o))) (hf : M[j]? = some (Ar e v xs))
    (hT : Tab.tab P T = some ⟨dT, 1, s2, z⟩) (hd : aggD dT = false) (hq : e.sz = q) (hu : (e.enc (at' xs i))[o]? = some u) (h0 : 0 ≤ i) (h1 : i < xs.length) :
    Y P c n σ M L ⟨d, .load T x, ty, pos, aft, g⟩ u := fun a w s t => by
  obtain ⟨S, h⟩ := t.res hf
  have := ArR.cell h (at'_some h0 h1) hu
  rw [hq] at this
  simp [execOp, s.eval hx, elq, run_load1 (Tab.ok hT) hd this]

theorem Y.loadA0 [Tab P] [Inhabited α] (j : Nat) {T : TypeId} {s2 : Nat} {z : Value} {dT : TypeDesc} {x : Operand} {v : Value} {i : Int} {xs : List α} {u : Value} (hx : ev σ x = some (elq v (i.toNat * 1))) (hf : M[j]? = some (Ar e v xs))
    (hT : Tab.tab P T = some ⟨dT, 1, s2, z⟩) (hd : aggD dT = false) (hq : e.sz = 1) (hu : (e.enc (at' xs i))[0]? = some u) (h0 : 0 ≤ i) (h1 : i < xs.length) :
    Y P c n σ M L ⟨d, .load T x, ty, pos, aft, g⟩ u := Y.loadA j (q := 1) (o := 0) hx hf hT hd hq hu h0 h1

theorem cellsOf_set1 {xs : List α} (hq : e.sz = 1) {i : Nat} {y : α} {u : Value} (hu : e.enc y = [u]) : cellsOf e (xs.set i y) = (cellsOf e xs).set i u := by
  induction xs generalizing i with
  | nil => simp [cellsOf]
  | cons x xs ih =>
    obtain ⟨p, hp⟩ : ∃ p, e.enc x = [p] := by
      have := e.len x
      rw [hq] at this
      exact List.length_eq_one_iff.1 this
    cases i with
    | zero => simp [cellsOf, hp, hu]
    | succ i => simp only [List.set_cons_succ, cellsOf, List.flatMap_cons, hp, List.singleton_append] at *; rw [ih]

theorem take_set {β : Type} (l : List β) (k i : Nat) (u : β) : (l.set i u).take k = (l.take k).set i u := by
  rw [List.take_set]

/-- a store into an element of one cell -/
theorem J.storeA [Tab P] (j : Nat) {T : TypeId} {s2 : Nat} {z : Value} {dT : TypeDesc} {x y : Operand} {v u : Value} {i : Int} {xs : List α} (yv : α) (hx : ev σ x = some (elq v (i.toNat * 1))) (hy : ev σ y = some u) (hu : e.enc yv = [u]) (h1u : one u = true)
    (hf : M[j]? = some (Ar e v xs)) (hT : Tab.tab P T = some ⟨dT, 1, s2, z⟩) (hq : e.sz = 1) (h0 : 0 ≤ i) (h1 : i < xs.length)
    (h : J c n σ (M.set j (Ar e v (xs.set i.toNat yv))) L (wpList P ops Q rest)) :
    J c n σ M L (wpList P ops Q (⟨none, .store T x y, ty, pos, aft, none⟩ :: rest)) := fun a w s t => by
  refine wpList_take rfl ?_
  obtain ⟨F, hF⟩ := t.res hf
  have hi : i.toNat < xs.length := by omega
  have hget : xs[i.toNat]? = some xs[i.toNat] := List.getElem?_eq_getElem hi
  have hne : xs ≠ [] := by intro e; subst e; simp at hi
  obtain ⟨p, hp⟩ : ∃ p, e.enc xs[i.toNat] = [p] := List.length_eq_one_iff.1 ((e.len _).trans hq)
  have hcell := ArR.cell hF hget (j := 0) (u := p) (by rw [hp]; rfl)
  rw [hq, Nat.add_zero, Nat.mul_one] at hcell
  rw [Nat.mul_one] at hx
  have hfree := ArR.free hF hne i.toNat
  have hrun : (execOp a.eval ⟨none, .store T x y, ty, pos, aft, none⟩).run P w = .ok .skip (w.setCell (elA v i.toNat) u) := by
    simp only [execOp, s.eval hx, s.eval hy, elq]
    simp [run_store1 (Tab.ok hT) rfl h1u hcell hfree]
  simp only [Oper.wp, hrun, Oper.upon]
  refine h _ _ s (t.upd hf rfl rfl rfl (by simp [World.setCell]) fun F hF _ => ?_)
  obtain ⟨hl, h1, hh⟩ := hF
  rcases hh with ⟨_, hh⟩ | ⟨b, off, cap, T', cur, hv, hFb, hb, hk, hc, ht⟩
  · exact absurd hh hne
  · subst hv
    have ha : elA (.slice (some ⟨b, off, none⟩) xs.length cap) i.toNat = ⟨b, off + i.toNat, none⟩ := by simp [elA, add_none]
    rw [ha]
    refine ⟨fun k _ hk' => Below.heap_setCell _ _ _ _ (fun e => hk' (by simp only at e; subst e; exact hFb)), F, ⟨by simpa using hl, ?_, .inr ⟨b, off, cap, T', cur.setIfInBounds (off + i.toNat) u, by simp, hFb, ?_, by simpa using hk, by simpa using hc, ?_⟩⟩, fun _ h => .inl h⟩
    · rw [cellsOf_set1 hq hu, List.all_eq_true]
      intro q hq'
      rcases List.mem_or_eq_of_mem_set hq' with h' | h'
      · exact List.all_eq_true.1 h1 q h'
      · rw [h']; exact h1u
    · simp [World.setCell, Array.getElem?_modify, hb]
    · rw [cellsOf_set1 hq hu, ← ht, Array.toList_setIfInBounds, List.length_set, ← take_set]
      congr 1
      rw [List.drop_set, if_neg (by omega), Nat.add_sub_cancel_left]

/-! ## New slices -/
theorem St.allocAr {w : World} (t : St c M L w) (cs : List Value) (T : TypeId) {xs : List α} {k : Nat} (hk : xs.length = k) (hl : xs.length ≤ 140737488355328) (hc : cs = cellsOf e xs) (h1 : (cellsOf e xs).all one = true) :
    St c (Ar e (.slice (some ⟨w.heap.size, 0, none⟩) k k) xs :: M) L (w.alloc (.cells cs.toArray T)) := by
  have t' := t.alloc cs T
  obtain ⟨ho, F, hF, hL⟩ := t'
  refine ⟨ho, F, ⟨fun i m hm => ?_, hF.rng, hF.dis⟩, hL⟩
  cases i with
  | zero =>
    simp at hm; subst hm
    have hb := hF.res 0 _ rfl
    refine ⟨hl, h1, .inr ⟨w.heap.size, 0, k, T, cs.toArray, by rw [hk], hb.1, hb.2, by omega, ?_, ?_⟩⟩
    · simp only [Nat.zero_add, List.size_toArray, hc, cellsOf_length, hk]; exact Nat.le_refl _
    · simp only [List.drop_zero, hc]
      rw [List.take_of_length_le (by rw [cellsOf_length]; exact Nat.le_refl _)]
  | succ i => exact hF.res (i + 1) m (by simpa using hm)

theorem Loud.buildSlice [Tab P] {T E : TypeId} {k s1 s2 s3 s4 : Nat} {z z' : Value} {dE : TypeDesc} {ps : List (Nat × Operand)} {vs : List (Nat × Value)} (xs : List α)
    (hT : Tab.tab P T = some ⟨.slice E, s1, s2, z⟩) (hE : Tab.tab P E = some ⟨dE, s3, s4, z'⟩) (hs : Nat.ble (k * s3) 16777216 = true) (hv : ps.map (fun p => (p.1, ev σ p.2)) = vs.map (fun p => (p.1, some p.2)))
    (hfill : ∀ init : Array Value, init.size = k * s3 → Instr.fill (fun i => some (i * s3, s3)) init vs = some (cellsOf e xs).toArray)
    (hk : xs.length = k) (hl : Nat.ble xs.length 140737488355328 = true) (h1 : (cellsOf e xs).all one = true) :
    Loud P c n σ M L ⟨d, .buildSlice T k ps.toArray, ty, pos, aft, g⟩ (fun b : Nat => .slice (some ⟨b, 0, none⟩) k k) (fun b => Ar e (.slice (some ⟨b, 0, none⟩) k k) xs :: M) (fun _ => L) := fun a w s t => by
  have hps : ps.map (fun p => (p.1, a.eval p.2)) = vs := by
    clear hfill
    induction ps generalizing vs with
    | nil => cases vs <;> simp_all
    | cons p ps ih =>
      cases vs with
      | nil => simp at hv
      | cons q vs =>
        simp only [List.map_cons, List.cons.injEq, Prod.mk.injEq] at hv
        simp only [List.map_cons, s.eval hv.1.2, hv.1.1, ih hv.2]
  have hsz : ¬ (16777216 < k * s3) := by have : k * s3 ≤ 16777216 := by simpa using hs
                                         omega
  have hrun : (execOp a.eval ⟨d, .buildSlice T k ps.toArray, ty, pos, aft, g⟩).run P w = .ok (.value (.slice (some ⟨w.heap.size, 0, none⟩) k k)) (w.alloc (.cells (cellsOf e xs).toArray E)) := by
    simp only [execOp, List.map_toArray, hps, Instr.buildSlice]
    by_cases h0 : k * s3 = 0
    · have hf := hfill ((Array.range (k * s3)).map ((#[] : Array Value)[· % (#[] : Array Value).size]!)) (by simp)
      simp [(Tab.ok hT).run_und w, (Tab.ok hE).run_size w, h0] at hf ⊢
      simp [hf, newRow]
    · have hf := hfill ((Array.range (k * s3)).map (z'.cells[· % z'.cells.size]!)) (by simp)
      simp [(Tab.ok hT).run_und w, (Tab.ok hE).run_size w, (Tab.ok hE).run_zero w, h0, hsz, hf, newRow]
  simp only [Oper.wp, hrun, Oper.upon]
  exact ⟨w.heap.size, rfl, t.allocAr (cellsOf e xs) E hk (by simpa using hl) rfl h1⟩

theorem fill1 {u : Value} (hu : one u = true) (init : Array Value) (h : init.size = 1 * 1) : Instr.fill (fun i => some (i * 1, 1)) init [(0, u)] = some [u].toArray := by
  obtain ⟨l⟩ := init
  match l, h with
  | [z], _ => simp [Instr.fill, one_cells hu]
theorem fill2 {u v : Value} (hu : one u = true) (hv : one v = true) (init : Array Value) (h : init.size = 2 * 1) : Instr.fill (fun i => some (i * 1, 1)) init [(0, u), (1, v)] = some [u, v].toArray := by
  obtain ⟨l⟩ := init
  match l, h with
  | [z, y], _ => simp [Instr.fill, one_cells hu, one_cells hv]
theorem fill1L (a b : Value) (init : Array Value) (h : init.size = 1 * 2) : Instr.fill (fun i => some (i * 2, 2)) init [(0, .agg #[a, b])] = some [a, b].toArray := by
  obtain ⟨l⟩ := init
  match l, h with
  | [z, y], _ => simp [Instr.fill, Value.cells]
theorem fill2L (a b a' b' : Value) (init : Array Value) (h : init.size = 2 * 2) : Instr.fill (fun i => some (i * 2, 2)) init [(0, .agg #[a, b]), (1, .agg #[a', b'])] = some [a, b, a', b'].toArray := by
  obtain ⟨l⟩ := init
  match l, h with
  | [z, y, x, q], _ => simp [Instr.fill, Value.cells]

theorem Loud.makeSlice [Tab P] {T E : TypeId} {s1 s2 s3 s4 : Nat} {z z' : Value} {dE : TypeDesc} {x : Operand} {k : Int} (xs : List α)
    (hT : Tab.tab P T = some ⟨.slice E, s1, s2, z⟩) (hE : Tab.tab P E = some ⟨dE, s3, s4, z'⟩) (hx : ev σ x = some (.int .i64 k)) (h0 : 0 ≤ k) (hb : (s4 : Int) * k ≤ 281474976710656) (h63 : k ≤ 140737488355328)
    (hk : xs.length = k.toNat) (hz : (madeCells z'.cells (k.toNat * s3)).toList = cellsOf e xs) (h1 : (cellsOf e xs).all one = true) :
    Loud P c n σ M L ⟨d, .makeSlice T x x, ty, pos, aft, g⟩ (fun b : Nat => .slice (some ⟨b, 0, none⟩) k.toNat k.toNat) (fun b => Ar e (.slice (some ⟨b, 0, none⟩) k.toNat k.toNat) xs :: M) (fun _ => L) := fun a w s t => by
  obtain ⟨iE, hiE, hs, hby, hze⟩ := (Tab.ok hE).info
  simp only at hs hby hze
  have hr := run_make (P := P) w T E iE z' (Tab.ok hT).und hiE hze .i64 .i64 k k h0 (Int.le_refl _) (by rw [hby]; exact hb) (by omega)
  have hrun : (execOp a.eval ⟨d, .makeSlice T x x, ty, pos, aft, g⟩).run P w = .ok (.value (.slice (some ⟨w.heap.size, 0, none⟩) k.toNat k.toNat)) (w.alloc (.cells (cellsOf e xs).toArray E)) := by
    simp only [execOp, s.eval hx]
    have : madeCells z'.cells (k.toNat * iE.size) = (cellsOf e xs).toArray := by rw [← hz, hs]
    simp [hr, this]
  simp only [Oper.wp, hrun, Oper.upon]
  exact ⟨w.heap.size, rfl, t.allocAr (cellsOf e xs) E hk (by omega) rfl h1⟩

theorem madeCells_one (u : Value) (k : Nat) : (madeCells #[u] (k * 1)).toList = List.replicate k u := by
  simp [madeCells]
  apply List.ext_getElem
  · simp
  · intro i h1 h2; simp [Nat.mod_one]

theorem cellsOf_replicate {u : Value} {x : α} (h : e.enc x = [u]) (k : Nat) : cellsOf e (List.replicate k x) = List.replicate k u := by
  induction k with
  | zero => simp [cellsOf]
  | succ k ih => simp only [List.replicate_succ, cellsOf, List.flatMap_cons, h, List.singleton_append] at *; rw [ih]

/-! ## append -/
theorem run_room {T ty E : TypeId} {dT dE : Ty} {w : World} (hT : TyOk P T dT) (hd : dT.desc = .slice E) (hE : TyOk P E dE) {b off k cap : Nat} {cur : Array Value} {T' : TypeId} (hb : w.heap[b]? = some (.cells cur T' (0, 0))) {m : Nat} {x : Value} {ns : List Value} (hs : Src P dE.size T x m ns w)
    (hroom : k + m ≤ cap) (hc : off + cap * dE.size ≤ cur.size) :
    (Builtin.append_ #[T, T] ty #[.slice (some ⟨b, off, none⟩) k cap, x]).run P w = .ok (.slice (some ⟨b, off, none⟩) (k + m) cap) (w.setRow b (cur.toList.take (off + k * dE.size) ++ ns ++ cur.toList.drop (off + k * dE.size + ns.length)).toArray) := by
  have hfit : off + k * dE.size + 0 + ns.length ≤ cur.size := by
    rw [hs.newsLen]
    have := Nat.mul_le_mul_right dE.size hroom
    rw [Nat.add_mul] at this
    omega
  have hst := run_storeCells_at P b (off + k * dE.size) T' ns 0 cur w hb hfit hs.one
  simp only [Nat.add_zero] at hst
  have hu := hT.run_und w
  rw [hd] at hu
  simp [Builtin.append_, hu, hE.run_size w, hs.len, hroom, hs.cells, add_none, hst]

theorem run_grow {T ty E : TypeId} {dT dE : Ty} {w : World} (hT : TyOk P T dT) (hd : dT.desc = .slice E) (hE : TyOk P E dE) {base : Option Addr} {k cap : Nat} {olds : List Value}
    (hold : (Builtin.firstCells dE.size k (.slice base k cap)).run P w.drew = .ok olds.toArray w.drew) {m : Nat} {x : Value} {ns : List Value} (hs : Src P dE.size T x m ns w) (hg : cap < k + m) (hb : (k + m) * dE.bytes ≤ 140737488355328) (h63 : k + m ≤ 140737488355328) :
    (Builtin.append_ #[T, T] ty #[.slice base k cap, x]).run P w = .ok (.slice (some ⟨w.heap.size, 0, none⟩) (k + m) (grownCap w (k + m) cap E))
      (w.drew.alloc (.cells ((olds ++ ns).toArray ++ Builtin.zeroCells dE.zero.cells (grownCap w (k + m) cap E - (k + m))) E)) := by
  obtain ⟨iE, hiE, hsz, hby, hz⟩ := hE.info
  have hfit := growslice_fits (need := k + m) (old := cap) (bytes := dE.bytes) hg hb
  exact run_append_grow_src w T T ty E iE dE.zero (by rw [hT.und, hd]) hiE hz base k cap olds (by rw [hsz]; exact hold) x m ns (by rw [hsz]; exact hs) hg (by omega) (by rw [hby]; exact hfit)

theorem ArR.src [Tab P] {w : World} {F : Nat → Prop} {v : Value} {xs : List α} {T E : TypeId} {s1 s2 : Nat} {z : Value} (h : ArR e w F v xs) (hT : Tab.tab P T = some ⟨.slice E, s1, s2, z⟩) : Src P e.sz T v xs.length (cellsOf e xs) w := by
  obtain ⟨_, h1, h⟩ := h
  have hone : ∀ u ∈ cellsOf e xs, u.oneCell' = true := fun u hu => one_oneCell (List.all_eq_true.1 h1 u hu)
  rcases h with ⟨rfl, rfl⟩ | ⟨b, off, cap, T', cur, rfl, _, hb, hk, hc, ht⟩
  · exact Src.ofNil w (Tab.ok hT).und 0
  · refine Src.ofSlice w (Tab.ok hT).und _ _ _ _ (cellsOf_length e xs) (fun j u hu => ?_) hone
    rw [← ht, List.getElem?_take] at hu
    split at hu
    · rw [List.getElem?_drop] at hu
      rw [add_none]
      simp [World.cell?, hb]
      simpa using hu
    · cases hu

theorem ArR.old [Tab P] {w : World} {F : Nat → Prop} {v : Value} {xs : List α} (h : ArR e w F v xs) : ∃ base cap, v = .slice base xs.length cap ∧ (Builtin.firstCells e.sz xs.length v).run P w.drew = .ok (cellsOf e xs).toArray w.drew := by
  obtain ⟨_, h1, h⟩ := h
  rcases h with ⟨rfl, rfl⟩ | ⟨b, off, cap, T', cur, rfl, _, hb, hk, hc, ht⟩
  · exact ⟨none, 0, rfl, run_firstCells_none w.drew e.sz 0 0 0⟩
  · refine ⟨_, cap, rfl, run_firstCells_some w.drew e.sz xs.length _ _ _ _ (cellsOf_length e xs) (fun j u hu => ?_)⟩
    rw [← ht, List.getElem?_take] at hu
    split at hu
    · rw [List.getElem?_drop] at hu
      rw [add_none]
      have hb' : w.drew.heap[b]? = some (.cells cur T' (0, 0)) := hb
      simp [World.cell?, hb']
      simpa using hu
    · cases hu

theorem drop_room (cur : List Value) (off len : Nat) (ns : List Value) (h : off + len + ns.length ≤ cur.length) :
    ((cur.take (off + len) ++ ns ++ cur.drop (off + len + ns.length)).drop off).take (len + ns.length) = (cur.drop off).take len ++ ns := by
  have e1 : off + len - off = len := by omega
  have e2 : ((cur.drop off).take len).length = len := by simp; omega
  rw [List.append_assoc, List.drop_append_of_le_length (by simp; omega), List.drop_take, e1, List.take_append, e2, List.take_of_length_le (by omega)]
  have e3 : len + ns.length - len = ns.length := by omega
  rw [e3, List.take_append_of_le_length (Nat.le_refl _), List.take_of_length_le (Nat.le_refl _)]

/-- what append does to a slice of the call's own -/
structure Grown (w w' : World) (F F' : Nat → Prop) : Prop where
  os : w'.os = w.os
  tape : w'.tape = w.tape
  out : w'.output = w.output
  size : w.heap.size ≤ w'.heap.size
  same : ∀ k, k < w.heap.size → ¬ F k → w'.heap[k]? = w.heap[k]?
  sub : ∀ k, F' k → F k ∨ (w.heap.size ≤ k ∧ k < w'.heap.size)

theorem ArR.append [Tab P] {w : World} {F : Nat → Prop} {v x : Value} {xs ys : List α} {T E ty : TypeId} {s1 s2 s4 : Nat} {z z' : Value} {dE : TypeDesc} (hF0 : ArR e w F v xs) (hs : Src P e.sz T x ys.length (cellsOf e ys) w) (h1y : (cellsOf e ys).all one = true)
    (hT : Tab.tab P T = some ⟨.slice E, s1, s2, z⟩) (hE : Tab.tab P E = some ⟨dE, e.sz, s4, z'⟩) (hb : (xs.length + ys.length) * s4 ≤ 140737488355328) (hl : xs.length + ys.length ≤ 140737488355328) (hz : z'.cells.size = e.sz) :
    ∃ v' w' F', (Builtin.append_ #[T, T] ty #[v, x]).run P w = .ok v' w' ∧ ArR e w' F' v' (xs ++ ys) ∧ Grown w w' F F' := by
  have hall : (cellsOf e (xs ++ ys)).all one = true := by
    rw [cellsOf_append, List.all_append, hF0.2.1, h1y]; rfl
  obtain ⟨base, cap, rfl, hold⟩ := ArR.old (P := P) hF0
  by_cases hroom : xs.length + ys.length ≤ cap
  · have hF1 := hF0
    obtain ⟨_, _, hh⟩ := hF0
    rcases hh with ⟨hv, rfl⟩ | ⟨b, off, cap', T', cur, hv, hFb, hbk, hk, hc, ht⟩
    · cases hv
      have hy : ys = [] := List.eq_nil_of_length_eq_zero (by simpa using hroom)
      subst hy
      refine ⟨.slice none 0 0, w, F, ?_, hF1, ⟨rfl, rfl, rfl, Nat.le_refl _, fun _ _ _ => rfl, fun _ h => .inl h⟩⟩
      have hu := (Tab.ok hT).run_und w
      have hlen := hs.len w
      have hcl := hs.cells
      simp only [List.length_nil] at hlen hcl
      have hcc : cellsOf e ([] : List α) = [] := rfl
      rw [hcc] at hcl
      simp [Builtin.append_, hu, (Tab.ok hE).run_size w, hlen, hcl]
    · cases hv
      have hr := run_room (P := P) (ty := ty) (Tab.ok hT) rfl (Tab.ok hE) hbk hs hroom hc
      have hfit : off + xs.length * e.sz + (cellsOf e ys).length ≤ cur.toList.length := by
        rw [cellsOf_length]
        have := Nat.mul_le_mul_right e.sz hroom
        rw [Nat.add_mul] at this
        simp; omega
      refine ⟨_, _, F, hr, ⟨by simpa using hl, hall, .inr ⟨b, off, cap, T', _, by simp, hFb, setRow_heap w b _ _ T' _ hbk, by simpa using hroom, ?_, ?_⟩⟩, ⟨rfl, rfl, rfl, by simp, fun k _ hk' => setRow_other w b k _ (fun e => hk' (by subst e; exact hFb)), fun _ h => .inl h⟩⟩
      · simp only [List.size_toArray, List.length_append, List.length_take, List.length_drop]
        have : cur.size = cur.toList.length := by simp
        omega
      · have := drop_room cur.toList off (xs.length * e.sz) (cellsOf e ys) hfit
        rw [List.length_append, Nat.add_mul, ← cellsOf_length e ys, cellsOf_append, ← ht]
        exact this
  · have hr := run_grow (P := P) (ty := ty) (Tab.ok hT) rfl (Tab.ok hE) hold hs (by omega) hb hl
    have hge := grownCap_ge w (xs.length + ys.length) cap E
    refine ⟨_, _, fun k => k = w.heap.size, hr, ⟨by simpa using hl, hall, .inr ⟨w.heap.size, 0, grownCap w (xs.length + ys.length) cap E, E, _, by simp, rfl, heap_alloc_new w.drew _, by simpa using hge, ?_, ?_⟩⟩,
      ⟨rfl, rfl, rfl, by simp, fun k hk _ => Below.heap_alloc w.drew _ k hk, fun k hk => .inr ⟨by omega, by subst hk; simp⟩⟩⟩
    · simp only [Nat.zero_add, Array.size_append, List.size_toArray, List.length_append, cellsOf_length, size_zeroCells, hz]
      rw [← Nat.add_mul, ← Nat.add_mul]
      exact Nat.mul_le_mul_right _ (by omega)
    · simp only [List.drop_zero, Array.toList_append, List.length_append]
      rw [← cellsOf_append, List.take_append_of_le_length (by rw [cellsOf_length]; simp), List.take_of_length_le (by rw [cellsOf_length]; simp)]

theorem ArR.det [Tab P] {w : World} {F1 F2 : Nat → Prop} {v : Value} {xs : List α} (h1 : ArR e w F1 v xs) (h2 : ArR e w F2 v xs) : ArR e w (fun k => F1 k ∧ F2 k) v xs := by
  obtain ⟨a1, a2, a3⟩ := h1
  obtain ⟨_, _, b3⟩ := h2
  refine ⟨a1, a2, ?_⟩
  rcases a3 with a3 | ⟨b, off, cap, T, cur, rfl, hF, r⟩
  · exact .inl a3
  · rcases b3 with ⟨b3, _⟩ | ⟨b', off', cap', T', cur', hv, hF', _⟩
    · cases b3
    · cases hv
      exact .inr ⟨b, off, cap, T, cur, rfl, ⟨hF, hF'⟩, r⟩

theorem St.append [Tab P] {w : World} (t : St c M L w) {i : Nat} {v x : Value} {xs ys : List α} {T E ty : TypeId} {s1 s2 s4 : Nat} {z z' : Value} {dE : TypeDesc} (hf : M[i]? = some (Ar e v xs)) (hs : Src P e.sz T x ys.length (cellsOf e ys) w) (h1y : (cellsOf e ys).all one = true)
    (hT : Tab.tab P T = some ⟨.slice E, s1, s2, z⟩) (hE : Tab.tab P E = some ⟨dE, e.sz, s4, z'⟩) (hb : (xs.length + ys.length) * s4 ≤ 140737488355328) (hl : xs.length + ys.length ≤ 140737488355328) (hz : z'.cells.size = e.sz) :
    ∃ v' w', (Builtin.append_ #[T, T] ty #[v, x]).run P w = .ok v' w' ∧ St c (M.set i (Ar e v' (xs ++ ys))) L w' := by
  have t0 := t
  obtain ⟨ho, FF, hO, hLL⟩ := t0
  obtain ⟨v', w', F', hr, hA, hG⟩ := ArR.append (ty := ty) (hO.res i _ hf) hs h1y hT hE hb hl hz
  refine ⟨v', w', hr, ?_⟩
  exact St.updF ho hO hLL hf hG.os hG.tape hG.out hG.size hG.same hA hG.sub
end
end Go.Sx
