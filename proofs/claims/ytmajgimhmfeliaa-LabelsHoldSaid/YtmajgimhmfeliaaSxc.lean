/- The layer Sx, part 3: memory: blocks of the call's own, slices that are read, and what operations on them yield. Conditions: a table of types that is right for the program. -/
import Derived.Test.YtmajgimhmfeliaaSxb
set_option linter.unusedVariables false
set_option linter.unusedSimpArgs false
namespace Go.Sx
open Go.RowKit

/-! ## Lists by an integer -/
def at' {α : Type} [Inhabited α] (xs : List α) (i : Int) : α := xs.getD i.toNat default

theorem at'_some {α : Type} [Inhabited α] {xs : List α} {i : Int} (h0 : 0 ≤ i) (h : i < xs.length) : xs[i.toNat]? = some (at' xs i) := by
  unfold at'
  rw [List.getD_eq_getElem?_getD, List.getElem?_eq_getElem (by omega)]
  rfl

theorem at'_nat {α : Type} [Inhabited α] (xs : List α) (i : Nat) : at' xs (i : Int) = xs.getD i default := by simp [at']

/-! ## Addresses inside a slice -/
def elA (v : Value) (o : Nat) : Addr := match v with
  | .slice (some a) _ _ => a.add o
  | _ => ⟨0, o, none⟩

def elq (v : Value) (o : Nat) : Value := .pointer (some (elA v o))

theorem Addr.add_add (a : Addr) (o p : Nat) : (a.add o).add p = a.add (o + p) := by
  unfold Addr.add
  by_cases h1 : o = 0 <;> by_cases h2 : p = 0 <;> simp [h1, h2, Nat.add_assoc]

theorem elA_add (v : Value) (o p : Nat) : (elA v o).add p = elA v (o + p) := by
  unfold elA
  split
  · exact Addr.add_add _ _ _
  · unfold Addr.add; split <;> simp_all

theorem add_none (b off o : Nat) : (⟨b, off, none⟩ : Addr).add o = ⟨b, off + o, none⟩ := by
  unfold Addr.add; split <;> simp_all

/-! ## A block of the call's own -/
def Blk (b : Nat) (cs : List Value) (T : TypeId) : Fact where
  p w F := F b ∧ w.heap[b]? = some (.cells cs.toArray T (0, 0))
  mono := fun ⟨h1, h2⟩ h => by
    obtain ⟨h3, h4⟩ := h b h1 (Array.getElem?_eq_some_iff.1 h2).1
    exact ⟨h3, by rw [h4]; exact h2⟩

theorem Blk.cell {b : Nat} {cs : List Value} {T : TypeId} {w : World} {F : Nat → Prop} (h : (Blk b cs T).p w F) {o : Nat} {v : Value} (hv : cs[o]? = some v) : w.cell? ⟨b, o, none⟩ = some v := by
  simp [World.cell?, h.2, hv]

theorem Blk.free {b : Nat} {cs : List Value} {T : TypeId} {w : World} {F : Nat → Prop} (h : (Blk b cs T).p w F) (o : Nat) : w.frozen? ⟨b, o, none⟩ = false := by
  simp [World.frozen?, h.2]

theorem St.res {c : Ctx} {M L : List Fact} {w : World} (t : St c M L w) {i : Nat} {m : Fact} (h : M[i]? = some m) : ∃ F, m.p w F := by
  obtain ⟨_, F, hF, _⟩ := t
  exact ⟨_, hF.res i m h⟩

theorem St.fact {c : Ctx} {M L : List Fact} {w : World} (t : St c M L w) {f : Fact} (h : f ∈ L) : ∃ S, f.p w S := by
  obtain ⟨_, F, _, hL⟩ := t
  exact ⟨_, hL f h⟩

/-! ## How cells represent data -/
structure Rep (α : Type) where
  sz : Nat
  pos : 0 < sz
  R : World → (Nat → Prop) → List Value → α → Prop
  len : ∀ {w S cs x}, R w S cs x → cs.length = sz
  mono : ∀ {w w' : World} {S S' : Nat → Prop} {cs x}, R w S cs x → (∀ k, S k → k < w.heap.size → S' k ∧ w'.heap[k]? = w.heap[k]?) → R w' S' cs x

def SlR {α : Type} (r : Rep α) (w : World) (S : Nat → Prop) (v : Value) (xs : List α) : Prop :=
  ∃ a cap, v = .slice a xs.length cap ∧ (xs.length ≤ 9223372036854775807 ∧ xs.length ≤ cap) ∧ (xs = [] ∨ ∃ b off, a = some ⟨b, off, none⟩ ∧ S b ∧
    ∀ i x, xs[i]? = some x → ∃ es, (∀ j e, es[j]? = some e → w.cell? ⟨b, off + (i * r.sz + j), none⟩ = some e) ∧ r.R w S es x)

theorem cell_same {w w' : World} {b o : Nat} {e : Value} (h : w.cell? ⟨b, o, none⟩ = some e) (hs : w'.heap[b]? = w.heap[b]?) : w'.cell? ⟨b, o, none⟩ = some e := by
  rw [← h]; exact World.cell?_of_block hs

theorem lt_of_cell {w : World} {b o : Nat} {e : Value} (h : w.cell? ⟨b, o, none⟩ = some e) : b < w.heap.size := World.block_lt_of_cell? w _ h

theorem SlR.mono {α : Type} {r : Rep α} {w w' : World} {S S' : Nat → Prop} {v : Value} {xs : List α} (h : SlR r w S v xs)
    (e : ∀ k, S k → k < w.heap.size → S' k ∧ w'.heap[k]? = w.heap[k]?) : SlR r w' S' v xs := by
  obtain ⟨a, cap, hv, hb, h⟩ := h
  refine ⟨a, cap, hv, hb, ?_⟩
  rcases h with h | ⟨b, off, ha, hS, h⟩
  · exact .inl h
  · cases xs with
    | nil => exact .inl rfl
    | cons x0 xs =>
      obtain ⟨es, hes, hr⟩ := h 0 x0 rfl
      have hl := r.len hr
      have hsz := r.pos
      have h0 : es[0]? = some (es[0]'(by omega)) := List.getElem?_eq_getElem _
      have hlt := lt_of_cell (hes 0 _ h0)
      obtain ⟨hS', hw⟩ := e b hS hlt
      refine .inr ⟨b, off, ha, hS', fun i x hx => ?_⟩
      obtain ⟨es, hes, hr⟩ := h i x hx
      exact ⟨es, fun j u hu => cell_same (hes j u hu) hw, r.mono hr e⟩

def Sl {α : Type} (r : Rep α) (v : Value) (xs : List α) : Fact where
  p w S := SlR r w S v xs
  mono := fun h e => h.mono e

def Rep.int (k : IntKind) : Rep Int where
  sz := 1
  pos := Nat.one_pos
  R _ _ cs x := cs = [.int k x]
  len h := by simp [h]
  mono h _ := h

def Rep.bool : Rep Bool where
  sz := 1
  pos := Nat.one_pos
  R _ _ cs x := cs = [.bool x]
  len h := by simp [h]
  mono h _ := h

/-- a slice as an element: its value beside its data -/
def Rep.sl {α : Type} (r : Rep α) : Rep (Value × List α) where
  sz := 1
  pos := Nat.one_pos
  R w S cs x := cs = [x.1] ∧ SlR r w S x.1 x.2
  len h := by simp [h.1]
  mono h e := ⟨h.1, h.2.mono e⟩

def Rep.pair {α β : Type} (r : Rep α) (s : Rep β) : Rep (α × β) where
  sz := r.sz + s.sz
  pos := Nat.lt_of_lt_of_le r.pos (Nat.le_add_right _ _)
  R w S cs x := ∃ c1 c2, cs = c1 ++ c2 ∧ r.R w S c1 x.1 ∧ s.R w S c2 x.2
  len h := by obtain ⟨c1, c2, hc, h1, h2⟩ := h; simp [hc, r.len h1, s.len h2]
  mono h e := by obtain ⟨c1, c2, hc, h1, h2⟩ := h; exact ⟨c1, c2, hc, r.mono h1 e, s.mono h2 e⟩

/-- cell j of a datum that r represents -/
def Rep.Cell {α : Type} (r : Rep α) (j : Nat) (f : α → Value) : Prop := ∀ {w S es x}, r.R w S es x → es[j]? = some (f x)

theorem Rep.int_cell (k : IntKind) : (Rep.int k).Cell 0 (fun x => .int k x) := fun h => by simp [show _ = [_] from h]
theorem Rep.sl_cell {α : Type} (r : Rep α) : (Rep.sl r).Cell 0 (fun x => x.1) := fun h => by simp [h.1]
theorem Rep.pair_cell1 {α β : Type} {r : Rep α} {s : Rep β} {j : Nat} {f : α → Value} (h : r.Cell j f) : (r.pair s).Cell j (fun x => f x.1) := by
  rintro w S es x ⟨c1, c2, rfl, h1, _⟩
  have := h h1
  rw [List.getElem?_append_left (by
    rcases Nat.lt_or_ge j c1.length with h' | h'
    · exact h'
    · rw [List.getElem?_eq_none h'] at this; cases this)]
  exact this
theorem Rep.pair_cell2 {α β : Type} {r : Rep α} {s : Rep β} {j : Nat} {f : β → Value} (h : s.Cell j f) : (r.pair s).Cell (r.sz + j) (fun x => f x.2) := by
  rintro w S es x ⟨c1, c2, rfl, h1, h2⟩
  rw [List.getElem?_append_right (by rw [r.len h1]; omega), r.len h1, Nat.add_sub_cancel_left]
  exact h h2

/-! ## Operations on slices that are read -/
section
variable {P : Program} {rd : Option Nat} {c : Ctx} {n : Sz} {σ : Fr} {M L : List Fact}
variable {d : Option Tmp} {ty : TypeId} {pos : String} {aft : Array Edge} {g : Option (Nat × Bool)}
variable {α : Type} {r : Rep α}

theorem run_len {T : TypeId} {dT : Ty} {E : TypeId} (w : World) (hT : TyOk P T dT) (hd : dT.desc = .slice E) (a : Option Addr) (k cap : Nat) (ty : TypeId) :
    (Builtin.len_ #[T] ty #[.slice a k cap]).run P w = .ok (.int .i64 k) w := by
  simp [Builtin.len_, hT.run_und w, hd, goInt]

theorem Y.len [Tab P] {T E : TypeId} {s1 s2 : Nat} {z : Value} {x : Operand} {v : Value} {xs : List α} (hx : ev σ x = some v) (hf : Sl r v xs ∈ L)
    (hT : Tab.tab P T = some ⟨.slice E, s1, s2, z⟩) : Y P c n σ M L ⟨d, .call ⟨.builtin .len, #[x], #[T]⟩, ty, pos, aft, g⟩ (.int .i64 xs.length) := fun a w s t => by
  obtain ⟨S, a', cap, hv, _, _⟩ := t.fact hf
  subst hv
  simp [execOp, resolve, invoke, builtin, s.eval hx, run_len w (Tab.ok hT) rfl]

theorem run_index {T : TypeId} {E : TypeId} {dT dE : Ty} (w : World) (hT : TyOk P T dT) (hd : dT.desc = .slice E) (hE : TyOk P E dE) (b off k cap : Nat) (i : Int) (h0 : 0 ≤ i) (h1 : i < k) :
    (Instr.indexAt T (.slice (some ⟨b, off, none⟩) k cap) (.int .i64 i)).run P w = .ok (elq (.slice (some ⟨b, off, none⟩) k cap) (i.toNat * dE.size)) w := by
  simp [Instr.indexAt, asIntOf, hT.run_und w, hd, hE.run_size w, h0, h1, elq, elA]

theorem Y.index [Tab P] {T E : TypeId} {s1 s2 s3 s4 : Nat} {z z' : Value} {dE : TypeDesc} {x y : Operand} {v : Value} {i : Int} {xs : List α} (hx : ev σ x = some v) (hy : ev σ y = some (.int .i64 i)) (hf : Sl r v xs ∈ L)
    (hT : Tab.tab P T = some ⟨.slice E, s1, s2, z⟩) (hE : Tab.tab P E = some ⟨dE, s3, s4, z'⟩) (h0 : 0 ≤ i) (h1 : i < xs.length) :
    Y P c n σ M L ⟨d, .indexAddr T x y, ty, pos, aft, g⟩ (elq v (i.toNat * s3)) := fun a w s t => by
  obtain ⟨S, a', cap, hv, _, h⟩ := t.fact hf
  rcases h with h | ⟨b, off, rfl, _, _⟩
  · subst h; simp at h1; omega
  · subst hv
    simp [execOp, s.eval hx, s.eval hy, run_index w (Tab.ok hT) rfl (Tab.ok hE) b off _ cap i h0 h1]

theorem Y.fieldEl [Tab P] {T : TypeId} {s1 s2 s3 s4 : Nat} {z z' : Value} {fs : Array Field} {nm tg pk : String} {em : Bool} {ft off bo : Nat} {dF : TypeDesc} {x : Operand} {v : Value} {o f : Nat} (hx : ev σ x = some (elq v o))
    (hT : Tab.tab P T = some ⟨.struct fs, s1, s2, z⟩) (hf : fs[f]? = some ⟨nm, ft, off, em, tg, pk, bo⟩) (hF : Tab.tab P ft = some ⟨dF, s3, s4, z'⟩) (h3 : (s3 == 0) = false) :
    Y P c n σ M L ⟨d, .fieldAddr T x f, ty, pos, aft, g⟩ (elq v (o + off)) := fun a w s t => by
  have hne : s3 ≠ 0 := by simpa using h3
  simp [execOp, s.eval hx, Instr.fieldAt, (Tab.ok hT).run_und w, hf, Instr.sureAddr, elq, fieldPlace, (Tab.ok hF).run_size w, hne, elA_add]

theorem run_load1 {T : TypeId} {dT : Ty} {w : World} (hT : TyOk P T dT) (hd : aggD dT.desc = false) {A : Addr} {e : Value} (h : w.cell? A = some e) :
    (Instr.loadAt T (.pointer (some A))).run P w = .ok e w := by
  simp [Instr.loadAt, Instr.sureAddr, loadVar, hT.run_agg w, hd, load, Sem.run, h]

theorem sl_cell {w : World} {S : Nat → Prop} {v : Value} {xs : List α} (h : SlR r w S v xs) {i : Nat} {x : α} (hx : xs[i]? = some x) :
    ∃ es, r.R w S es x ∧ ∀ j e, es[j]? = some e → w.cell? (elA v (i * r.sz + j)) = some e := by
  obtain ⟨a', cap, hv, _, h⟩ := h
  rcases h with h | ⟨b, off, rfl, _, h⟩
  · subst h; simp at hx
  · obtain ⟨es, hes, hr⟩ := h i x hx
    refine ⟨es, hr, fun j e he => ?_⟩
    subst hv
    simp only [elA, add_none]
    exact hes j e he

theorem Y.loadEl [Tab P] [Inhabited α] {T : TypeId} {s1 s2 : Nat} {z : Value} {dT : TypeDesc} {x : Operand} {v : Value} {i : Int} {xs : List α} {f : α → Value} (hx : ev σ x = some (elq v (i.toNat * s1))) (hf : Sl r v xs ∈ L)
    (hT : Tab.tab P T = some ⟨dT, s1, s2, z⟩) (hd : aggD dT = false) (hs : r.sz = s1) (hc : r.Cell 0 f) (h0 : 0 ≤ i) (h1 : i < xs.length) :
    Y P c n σ M L ⟨d, .load T x, ty, pos, aft, g⟩ (f (at' xs i)) := fun a w s t => by
  obtain ⟨S, h⟩ := t.fact hf
  obtain ⟨es, hr, hes⟩ := sl_cell h (at'_some h0 h1)
  have := hes 0 _ (hc hr)
  rw [hs, Nat.add_zero] at this
  simp [execOp, s.eval hx, elq, run_load1 (Tab.ok hT) hd this]

theorem Y.loadFd [Tab P] [Inhabited α] {T : TypeId} {s1 s2 q o : Nat} {z : Value} {dT : TypeDesc} {x : Operand} {v : Value} {i : Int} {xs : List α} {f : α → Value} (hx : ev σ x = some (elq v (i.toNat * q + o))) (hf : Sl r v xs ∈ L)
    (hT : Tab.tab P T = some ⟨dT, s1, s2, z⟩) (hd : aggD dT = false) (hs : r.sz = q) (hc : r.Cell o f) (h0 : 0 ≤ i) (h1 : i < xs.length) :
    Y P c n σ M L ⟨d, .load T x, ty, pos, aft, g⟩ (f (at' xs i)) := fun a w s t => by
  obtain ⟨S, h⟩ := t.fact hf
  obtain ⟨es, hr, hes⟩ := sl_cell h (at'_some h0 h1)
  have := hes o _ (hc hr)
  rw [hs] at this
  simp [execOp, s.eval hx, elq, run_load1 (Tab.ok hT) hd this]

/-- a slice that is an element of a slice -/
theorem J.el [Inhabited α] {v : Value} {i : Int} {xs : List (Value × List α)} {G : Act → World → Prop} (hf : Sl (Rep.sl r) v xs ∈ L) (h0 : 0 ≤ i) (h1 : i < xs.length)
    (h : J c n σ M (Sl r (at' xs i).1 (at' xs i).2 :: L) G) : J c n σ M L G := fun a w s t => h a w s (by
  obtain ⟨ho, F, hF, hL⟩ := t
  refine ⟨ho, F, hF, fun f hf' => ?_⟩
  rcases List.mem_cons.1 hf' with rfl | hf'
  · obtain ⟨es, hr, _⟩ := sl_cell (hL _ hf) (at'_some h0 h1)
    exact hr.2
  · exact hL f hf')

/-- the bound of a length -/
theorem J.lenLe {v : Value} {xs : List α} {G : Act → World → Prop} (hf : Sl r v xs ∈ L) (h : xs.length ≤ 9223372036854775807 → J c n σ M L G) : J c n σ M L G := fun a w s t => h (by
  obtain ⟨S, a', cap, _, h, _⟩ := t.fact hf
  exact h.1) a w s t
end

/-! ## Blocks of the call's own -/
section
variable {P : Program} {rd : Option Nat} {c : Ctx} {n : Sz} {σ : Fr} {M L : List Fact} {Q : Exit → Act → World → Prop} {ops : Array Oper} {rest : List Oper}
variable {d : Option Tmp} {D : Nat} {ty : TypeId} {pos : String} {aft : Array Edge} {g : Option (Nat × Bool)}

theorem Y.fieldB [Tab P] {T : TypeId} {s1 s2 s3 s4 : Nat} {z z' : Value} {fs : Array Field} {nm tg pk : String} {em : Bool} {ft off bo : Nat} {dF : TypeDesc} {x : Operand} {b o f : Nat} (hx : ev σ x = some (.pointer (some ⟨b, o, none⟩)))
    (hT : Tab.tab P T = some ⟨.struct fs, s1, s2, z⟩) (hf : fs[f]? = some ⟨nm, ft, off, em, tg, pk, bo⟩) (hF : Tab.tab P ft = some ⟨dF, s3, s4, z'⟩) (h3 : (s3 == 0) = false) :
    Y P c n σ M L ⟨d, .fieldAddr T x f, ty, pos, aft, g⟩ (.pointer (some ⟨b, o + off, none⟩)) := fun a w s t => by
  have hne : s3 ≠ 0 := by simpa using h3
  simp [execOp, s.eval hx, Instr.fieldAt, (Tab.ok hT).run_und w, hf, Instr.sureAddr, fieldPlace, (Tab.ok hF).run_size w, hne, add_none]

theorem Y.loadB [Tab P] (i : Nat) {T T' : TypeId} {s1 s2 : Nat} {z : Value} {dT : TypeDesc} {x : Operand} {b o : Nat} {cs : List Value} {v : Value} (hx : ev σ x = some (.pointer (some ⟨b, o, none⟩)))
    (hM : M[i]? = some (Blk b cs T')) (hT : Tab.tab P T = some ⟨dT, s1, s2, z⟩) (hd : aggD dT = false) (hv : cs[o]? = some v) :
    Y P c n σ M L ⟨d, .load T x, ty, pos, aft, g⟩ v := fun a w s t => by
  obtain ⟨F, hF⟩ := t.res hM
  simp [execOp, s.eval hx, run_load1 (Tab.ok hT) hd (Blk.cell hF hv)]

theorem run_loadAll {T : TypeId} {dT : Ty} {w : World} (hT : TyOk P T dT) (hd : aggD dT.desc = true) {A : Addr} {cs : List Value} (hl : cs.length = dT.size) (h : ∀ j v, cs[j]? = some v → w.cell? (A.add j) = some v) :
    (Instr.loadAt T (.pointer (some A))).run P w = .ok (.agg cs.toArray) w := by
  have := run_loadCells_list (P := P) w A cs h
  simp [Instr.loadAt, Instr.sureAddr, loadVar, hT.run_agg w, hd, hT.run_size w, ← hl, this]

theorem Y.loadBAll [Tab P] (i : Nat) {T T' : TypeId} {s2 : Nat} {z : Value} {dT : TypeDesc} {x : Operand} {b : Nat} {cs : List Value} (hx : ev σ x = some (.pointer (some ⟨b, 0, none⟩)))
    (hM : M[i]? = some (Blk b cs T')) (hT : Tab.tab P T = some ⟨dT, cs.length, s2, z⟩) (hd : aggD dT = true) :
    Y P c n σ M L ⟨d, .load T x, ty, pos, aft, g⟩ (.agg cs.toArray) := fun a w s t => by
  obtain ⟨F, hF⟩ := t.res hM
  have := run_loadAll (w := w) (A := ⟨b, 0, none⟩) (cs := cs) (Tab.ok hT) hd rfl (fun j v hv => by rw [add_none, Nat.zero_add]; exact Blk.cell hF hv)
  simp [execOp, s.eval hx, this]

/-- a new block -/
theorem St.alloc {w : World} (t : St c M L w) (cs : List Value) (T : TypeId) : St c (Blk w.heap.size cs T :: M) L (w.alloc (.cells cs.toArray T)) := by
  have e : Ext w (w.alloc (.cells cs.toArray T)) := (Below.refl _ _).alloc (Nat.le_refl _) _
  obtain ⟨ho, F, hF, hL⟩ := t
  have hb : ∀ k, k < w.heap.size → (w.alloc (.cells cs.toArray T)).heap[k]? = w.heap[k]? := e.block
  refine ⟨ho.trans e, fun i k => match i with | 0 => k = w.heap.size | i + 1 => F i k, ⟨?_, ?_, ?_⟩, fun f hf => ?_⟩
  · intro i m hm
    cases i with
    | zero =>
      simp at hm; subst hm
      exact ⟨rfl, heap_alloc_new w _⟩
    | succ i => exact Fact.same (hF.res i m (by simpa using hm)) (fun _ h => h) (fun k _ hl => hb k hl)
  · intro i k hk
    cases i with
    | zero => subst hk; exact ⟨.inl ho.size, by simp⟩
    | succ i => exact ⟨(hF.rng i k hk).1, Nat.lt_of_lt_of_le (hF.rng i k hk).2 e.size⟩
  · intro i j k hi hj
    cases i with
    | zero =>
      cases j with
      | zero => rfl
      | succ j => have := (hF.rng j k hj).2; simp only at hi; omega
    | succ i =>
      cases j with
      | zero => have := (hF.rng i k hi).2; simp only at hj; omega
      | succ j => exact congrArg (· + 1) (hF.dis i j k hi hj)
  · exact f.mono (hL f hf) fun k hk hl => ⟨⟨hk.1, fun i hi => by
      cases i with
      | zero => simp only at hi; omega
      | succ i => exact hk.2 i hi⟩, hb k hl⟩

theorem run_alloc {T : TypeId} {dT : Ty} (w : World) (hT : TyOk P T dT) : (Instr.alloc T true (.tuple #[])).run P w = .ok (.pointer (some ⟨w.heap.size, 0, none⟩)) (w.alloc (.cells dT.zero.cells T)) := by
  simp [Instr.alloc, hT.run_zero w, newVar, newRow]

theorem J.alloc [Tab P] {T : TypeId} {dT : Ty} {cs : List Value} (hT : Tab.tab P T = some dT) (hz : dT.zero.cells = cs.toArray) (hD : Nat.blt D n.sz = true)
    (h : ∀ b, J c n ((D, .pointer (some ⟨b, 0, none⟩)) :: σ) (Blk b cs T :: M) L (wpList P ops Q rest)) :
    J c n σ M L (wpList P ops Q (⟨some D, .alloc T, ty, pos, aft, none⟩ :: rest)) := fun a w s t => by
  refine wpList_take rfl ?_
  have hrun : (execOp a.eval ⟨some D, .alloc T, ty, pos, aft, none⟩).run P w = .ok (.value (.pointer (some ⟨w.heap.size, 0, none⟩))) (w.alloc (.cells cs.toArray T)) := by
    simp [execOp, run_alloc w (Tab.ok hT), hz]
  simp only [Oper.wp, hrun, Oper.upon]
  exact h _ _ _ (s.put D _ hD) (t.alloc cs T)

theorem J.box {T : TypeId} {x : Operand} {v : Value} {cs : List Value} (hx : ev σ x = some v) (hz : v.cells = cs.toArray) (hD : Nat.blt D n.sz = true)
    (h : ∀ b, J c n ((D, .pointer (some ⟨b, 0, none⟩)) :: σ) (Blk b cs T :: M) L (wpList P ops Q rest)) :
    J c n σ M L (wpList P ops Q (⟨some D, .box T x, ty, pos, aft, none⟩ :: rest)) := fun a w s t => by
  refine wpList_take rfl ?_
  have hrun : (execOp a.eval ⟨some D, .box T x, ty, pos, aft, none⟩).run P w = .ok (.value (.pointer (some ⟨w.heap.size, 0, none⟩))) (w.alloc (.cells cs.toArray T)) := by
    simp [execOp, s.eval hx, Instr.box, newVar, newRow, hz]
  simp only [Oper.wp, hrun, Oper.upon]
  exact h _ _ _ (s.put D _ hD) (t.alloc cs T)

/-- one resource is changed, in its own blocks alone -/
theorem St.updF {w w' : World} {F : Nat → Nat → Prop} (ho : Kept c.O c.w0 w) (hF : Own c w M F) (hL : ∀ f ∈ L, f.p w (Free c F)) {i : Nat} {m m' : Fact} (hi : M[i]? = some m) (hos : w'.os = w.os) (htp : w'.tape = w.tape) (hout : w'.output = w.output) (hsz : w.heap.size ≤ w'.heap.size)
    (hb : ∀ k, k < w.heap.size → ¬ F i k → w'.heap[k]? = w.heap[k]?) {F' : Nat → Prop} (hF' : m'.p w' F') (hsub : ∀ k, F' k → F i k ∨ (w.heap.size ≤ k ∧ k < w'.heap.size)) : St c (M.set i m') L w' := by
  refine ⟨⟨hos.trans ho.os, htp.trans ho.tape, hout.trans ho.output, Nat.le_trans ho.size hsz, fun k hk hO => (hb k (Nat.lt_of_lt_of_le hk ho.size) (fun hk' => (hF.rng i k hk').1.elim (fun h => by omega) hO)).trans (ho.block k hk hO)⟩, fun j k => (j = i ∧ F' k) ∨ (j ≠ i ∧ F j k), ⟨?_, ?_, ?_⟩, fun f hf => ?_⟩
  · intro j m2 hm
    by_cases e : j = i
    · subst e
      have hlt : j < M.length := by
        rcases Nat.lt_or_ge j M.length with h' | h'
        · exact h'
        · rw [List.getElem?_eq_none h'] at hi; cases hi
      rw [List.getElem?_set_self hlt] at hm
      cases hm
      exact Fact.same hF' (fun k hk => .inl ⟨rfl, hk⟩) (fun _ _ _ => rfl)
    · rw [List.getElem?_set_ne (Ne.symm e)] at hm
      exact Fact.same (hF.res j m2 hm) (fun k hk => .inr ⟨e, hk⟩) (fun k hk hl => hb k hl (fun hi' => e (hF.dis j i k hk hi')))
  · rintro j k (⟨_, hk⟩ | ⟨_, hk⟩)
    · rcases hsub k hk with hk | ⟨h1, h2⟩
      · exact ⟨(hF.rng i k hk).1, Nat.lt_of_lt_of_le (hF.rng i k hk).2 hsz⟩
      · exact ⟨.inl (Nat.le_trans ho.size h1), h2⟩
    · exact ⟨(hF.rng j k hk).1, Nat.lt_of_lt_of_le (hF.rng j k hk).2 hsz⟩
  · rintro j1 j2 k (⟨e1, h1⟩ | ⟨e1, h1⟩) (⟨e2, h2⟩ | ⟨e2, h2⟩)
    · rw [e1, e2]
    · rcases hsub k h1 with h1 | ⟨h1, _⟩
      · exact absurd (hF.dis _ _ k h2 h1) e2
      · have := (hF.rng _ k h2).2; omega
    · rcases hsub k h2 with h2 | ⟨h2, _⟩
      · exact absurd (hF.dis _ _ k h1 h2) e1
      · have := (hF.rng _ k h1).2; omega
    · exact hF.dis _ _ k h1 h2
  · exact f.mono (hL f hf) fun k hk hl => ⟨⟨hk.1, by
      rintro j (⟨_, h'⟩ | ⟨_, h'⟩)
      · rcases hsub k h' with h' | ⟨h', _⟩
        · exact hk.2 _ h'
        · omega
      · exact hk.2 _ h'⟩, hb k hl (hk.2 i)⟩

theorem St.upd {w w' : World} (t : St c M L w) {i : Nat} {m m' : Fact} (hi : M[i]? = some m) (hos : w'.os = w.os) (htp : w'.tape = w.tape) (hout : w'.output = w.output) (hsz : w.heap.size ≤ w'.heap.size)
    (h : ∀ F, m.p w F → (∀ k, F k → c.mine k ∧ k < w.heap.size) → (∀ k, k < w.heap.size → ¬ F k → w'.heap[k]? = w.heap[k]?) ∧ ∃ F', m'.p w' F' ∧ ∀ k, F' k → F k ∨ (w.heap.size ≤ k ∧ k < w'.heap.size)) :
    St c (M.set i m') L w' := by
  obtain ⟨ho, F, hF, hL⟩ := t
  obtain ⟨hb, F', hF', hsub⟩ := h (F i) (hF.res i m hi) (hF.rng i)
  exact St.updF ho hF hL hi hos htp hout hsz hb hF' hsub
end
end Go.Sx
