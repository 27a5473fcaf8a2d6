/- The layer Sx, part 1: frames, facts, states, judgements; the rules for straight code, branches, loops, calls and returns. Conditions: none; it speaks of any program. -/
import Derived.Test.YtmajgimhmfeliaaSx0
set_option linter.unusedVariables false
set_option linter.unusedSimpArgs false
namespace Go.Sx
open Go.RowKit

/-! ## Frames -/
abbrev Fr := List (Nat × Value)

def lk : Fr → Nat → Option Value
  | [], _ => none
  | (k, v) :: r, t => bif Nat.beq t k then some v else lk r t

def ev (σ : Fr) : Operand → Option Value
  | .tmp t => lk σ t
  | .const v => some v
  | .global g => some (.pointer (some ⟨g, 0, none⟩))
  | .func f => some (.func (.func f) #[] #[])

/-- the size of a frame, and the calls that it has deferred -/
structure Sz where
  sz : Nat
  ds : List Deferred

structure Sub (n : Sz) (σ : Fr) (a : Act) : Prop where
  defers : a.defers = n.ds
  size : a.tmps.size = n.sz
  slot : ∀ t v, lk σ t = some v → a.tmps[t]? = some v

theorem Sub.eval {n : Sz} {σ : Fr} {a : Act} (h : Sub n σ a) {x : Operand} {v : Value} (hx : ev σ x = some v) : a.eval x = v := by
  cases x with
  | tmp t => simp only [ev] at hx; have := h.slot t v hx; simp [Act.eval, this]
  | const u => simpa [ev, Act.eval] using hx
  | global g => simpa [ev, Act.eval] using hx
  | func f => simpa [ev, Act.eval] using hx

theorem beq_ne {t d : Nat} (e : t ≠ d) : Nat.beq t d = false := by
  cases h : Nat.beq t d with
  | false => rfl
  | true => exact absurd (Nat.eq_of_beq_eq_true h) e

theorem Sub.put {n : Sz} {σ : Fr} {a : Act} (h : Sub n σ a) (d : Nat) (v : Value) (hd : Nat.blt d n.sz = true) : Sub n ((d, v) :: σ) (a.put (some d) v) := by
  have hd' : d < n.sz := by simpa [Nat.blt_eq] using hd
  refine ⟨h.defers, by simp [Act.put, h.size], fun t u ht => ?_⟩
  simp only [lk] at ht
  by_cases e : t = d
  · subst e
    simp at ht
    subst ht
    simp [Act.put, h.size, hd']
  · rw [beq_ne e] at ht
    simp only [cond_false] at ht
    simp only [Act.put]
    rw [Array.getElem?_setIfInBounds_ne (Ne.symm e)]
    exact h.slot t u ht

def SubF (σ σ' : Fr) : Prop := ∀ t v, lk σ' t = some v → lk σ t = some v

theorem SubF.nil {σ : Fr} : SubF σ [] := fun _ _ h => by simp [lk] at h

theorem SubF.refl (σ : Fr) : SubF σ σ := fun _ _ h => h
theorem SubF.cons {σ σ' : Fr} {t : Nat} {v : Value} (h : lk σ t = some v) (r : SubF σ σ') : SubF σ ((t, v) :: σ') := by
  intro u x hx
  simp only [lk] at hx
  by_cases e : u = t
  · subst e; simp at hx; subst hx; exact h
  · rw [beq_ne e] at hx; exact r u x hx

theorem Sub.weak {n : Sz} {σ σ' : Fr} {a : Act} (h : Sub n σ a) (hs : SubF σ σ') : Sub n σ' a :=
  ⟨h.defers, h.size, fun t v hv => h.slot t v (hs t v hv)⟩

/-- the slots ts of σ, in normal form -/
def Keep (σ : Fr) (ts : List Nat) (σ' : Fr) : Prop := SubF σ σ' ∧ ts = σ'.map (·.1)
theorem Keep.nil {σ : Fr} : Keep σ [] [] := ⟨SubF.nil, rfl⟩
theorem Keep.cons {σ σ' : Fr} {t : Nat} {ts : List Nat} {v : Value} (h : lk σ t = some v) (r : Keep σ ts σ') : Keep σ (t :: ts) ((t, v) :: σ') :=
  ⟨SubF.cons h r.1, by simp [r.2]⟩

/-! ## Facts and states -/
structure Fact where
  p : World → (Nat → Prop) → Prop
  mono : ∀ {w w' : World} {S S' : Nat → Prop}, p w S → (∀ k, S k → k < w.heap.size → S' k ∧ w'.heap[k]? = w.heap[k]?) → p w' S'

/-- a call's view: the world at its beginning, what it may read of it, what it may change of it -/
structure Ctx where
  w0 : World
  S0 : Nat → Prop
  O : Nat → Prop := fun _ => False

/-- a block that the call may change: a new one, or one that was handed over -/
def Ctx.mine (c : Ctx) (k : Nat) : Prop := c.w0.heap.size ≤ k ∨ c.O k

def Ctx.all (c : Ctx) (k : Nat) : Prop := c.S0 k ∨ c.mine k

abbrev Ext (w w' : World) : Prop := Below w.heap.size w w'

theorem Ext.trans {a b c : World} (h : Ext a b) (k : Ext b c) : Ext a c := Below.trans h (k.mono h.size)

/-- outside of the blocks O nothing has changed -/
structure Kept (O : Nat → Prop) (w w' : World) : Prop where
  os : w'.os = w.os
  tape : w'.tape = w.tape
  output : w'.output = w.output
  size : w.heap.size ≤ w'.heap.size
  block : ∀ k, k < w.heap.size → ¬ O k → w'.heap[k]? = w.heap[k]?

theorem Kept.refl {O : Nat → Prop} (w : World) : Kept O w w := ⟨rfl, rfl, rfl, Nat.le_refl _, fun _ _ _ => rfl⟩
theorem Kept.trans {O : Nat → Prop} {a b c : World} (h : Kept O a b) (k : Ext b c) : Kept O a c :=
  ⟨k.os.trans h.os, k.tape.trans h.tape, k.output.trans h.output, Nat.le_trans h.size k.size, fun i hi ho => (k.block i (Nat.lt_of_lt_of_le hi h.size)).trans (h.block i hi ho)⟩
theorem Kept.ext {w w' : World} (h : Kept (fun _ => False) w w') : Ext w w' := ⟨h.os, h.tape, h.output, h.size, fun k hk => h.block k hk id⟩

structure Own (c : Ctx) (w : World) (M : List Fact) (F : Nat → Nat → Prop) : Prop where
  res : ∀ (i : Nat) (m : Fact), M[i]? = some m → m.p w (F i)
  rng : ∀ i k, F i k → c.mine k ∧ k < w.heap.size
  dis : ∀ i j k, F i k → F j k → i = j

def Free (c : Ctx) (F : Nat → Nat → Prop) (k : Nat) : Prop := c.all k ∧ ∀ i, ¬ F i k

structure St (c : Ctx) (M L : List Fact) (w : World) : Prop where
  old : Kept c.O c.w0 w
  own : ∃ F : Nat → Nat → Prop, Own c w M F ∧ ∀ f ∈ L, f.p w (Free c F)

theorem Fact.same {f : Fact} {w w' : World} {S S' : Nat → Prop} (h : f.p w S) (hS : ∀ k, S k → S' k) (e : ∀ k, S k → k < w.heap.size → w'.heap[k]? = w.heap[k]?) : f.p w' S' :=
  f.mono h fun k hk hl => ⟨hS k hk, e k hk hl⟩

/-- a state stands in every later world -/
theorem St.ext {c : Ctx} {M L : List Fact} {w w' : World} (h : St c M L w) (e : Ext w w') : St c M L w' := by
  obtain ⟨ho, F, hF, hL⟩ := h
  refine ⟨ho.trans e, F, ⟨fun i m hm => Fact.same (hF.res i m hm) (fun _ h => h) (fun k _ hl => e.block k hl), fun i k hk => ⟨(hF.rng i k hk).1, Nat.lt_of_lt_of_le (hF.rng i k hk).2 e.size⟩, hF.dis⟩,
    fun f hf => Fact.same (hL f hf) (fun _ h => h) (fun k _ hl => e.block k hl)⟩

/-! weaker states -/
/-- M' is made of resources of M, each taken once -/
def SubM (M M' : List Fact) : Prop := ∃ g : Nat → Nat, (∀ i j, i < M'.length → j < M'.length → g i = g j → i = j) ∧ ∀ (i : Nat) (m : Fact), M'[i]? = some m → M[g i]? = some m

theorem SubM.refl (M : List Fact) : SubM M M := ⟨id, fun _ _ _ _ h => h, fun _ _ h => h⟩
theorem SubM.nil {M : List Fact} : SubM M [] := ⟨id, fun _ _ h => by simp at h, fun _ _ h => by simp at h⟩
theorem SubM.cons {M M' : List Fact} (i : Nat) {m : Fact} (h : M[i]? = some m) (r : SubM (M.eraseIdx i) M') : SubM M (m :: M') := by
  obtain ⟨g, hg, hm⟩ := r
  let g' : Nat → Nat := fun j => match j with | 0 => i | j + 1 => if g j < i then g j else g j + 1
  have hi : i < M.length := by
    rcases Nat.lt_or_ge i M.length with h' | h'
    · exact h'
    · rw [List.getElem?_eq_none h'] at h; cases h
  refine ⟨g', ?_, ?_⟩
  · intro a b ha hb hab
    cases a with
    | zero =>
      cases b with
      | zero => rfl
      | succ b => simp only [g'] at hab; split at hab <;> omega
    | succ a =>
      cases b with
      | zero => simp only [g'] at hab; split at hab <;> omega
      | succ b =>
        simp only [List.length_cons] at ha hb
        have : g a = g b := by simp only [g'] at hab; split at hab <;> split at hab <;> omega
        have := hg a b (by omega) (by omega) this
        omega
  · intro j m' hj
    cases j with
    | zero => simp at hj; subst hj; exact h
    | succ j =>
      simp only [List.getElem?_cons_succ] at hj
      have := hm j m' hj
      rw [List.getElem?_eraseIdx] at this
      simp only [g']
      split
      · rename_i hlt; rwa [if_pos hlt] at this
      · rename_i hlt; rwa [if_neg hlt] at this

theorem St.weak {c : Ctx} {M L M' L' : List Fact} {w : World} (h : St c M L w) (hM : SubM M M') (hL : ∀ f ∈ L', f ∈ L) : St c M' L' w := by
  obtain ⟨ho, F, hF, hf⟩ := h
  obtain ⟨g, hg, hm⟩ := hM
  refine ⟨ho, fun i k => i < M'.length ∧ F (g i) k, ⟨fun i m hi => ?_, fun i k hk => hF.rng _ k hk.2, fun i j k hi hj => hg i j hi.1 hj.1 (hF.dis _ _ k hi.2 hj.2)⟩, fun f hfl => ?_⟩
  · have hlt : i < M'.length := by
      rcases Nat.lt_or_ge i M'.length with h' | h'
      · exact h'
      · rw [List.getElem?_eq_none h'] at hi; cases hi
    exact Fact.same (hF.res _ m (hm i m hi)) (fun k hk => ⟨hlt, hk⟩) (fun _ _ _ => rfl)
  · exact Fact.same (hf f (hL f hfl)) (fun k hk => ⟨hk.1, fun i hi => hk.2 _ hi.2⟩) (fun _ _ _ => rfl)

def SubL (L L' : List Fact) : Prop := ∀ f ∈ L', f ∈ L
theorem SubL.nil {L : List Fact} : SubL L [] := fun _ h => by simp at h
theorem SubL.cons {L L' : List Fact} {f : Fact} (h : f ∈ L) (r : SubL L L') : SubL L (f :: L') := fun g hg => by
  rcases List.mem_cons.1 hg with rfl | hg
  · exact h
  · exact r g hg
theorem SubL.refl (L : List Fact) : SubL L L := fun _ h => h

/-! ## The judgement -/
def J (c : Ctx) (n : Sz) (σ : Fr) (M L : List Fact) (G : Act → World → Prop) : Prop := ∀ a w, Sub n σ a → St c M L w → G a w

section rules
variable {P : Program} {rd : Option Nat} {c : Ctx} {n : Sz} {σ σ' : Fr} {M M' L L' : List Fact} {G G' : Act → World → Prop} {Q : Exit → Act → World → Prop}

theorem J.mono (h : J c n σ M L G) (g : ∀ a w, G a w → G' a w) : J c n σ M L G' := fun a w s t => g a w (h a w s t)

theorem J.weak (h : J c n σ' M' L' G) (hs : SubF σ σ') (hM : SubM M M') (hL : ∀ f ∈ L', f ∈ L) : J c n σ M L G :=
  fun a w s t => h a w (s.weak hs) (t.weak hM hL)

theorem J.keep (ts : List Nat) (hs : Keep σ ts σ') (h : J c n σ' M L G) : J c n σ M L G := fun a w s t => h a w (s.weak hs.1) t

theorem J.seq {x y : Code} (h : J c n σ M L (x.wpr rd P (Exit.then (y.wpr rd P Q) Q))) : J c n σ M L ((Code.seq x y).wpr rd P Q) := fun a w s t => wpr_seq (h a w s t)
theorem J.block {id : Nat} {x : Code} (h : J c n σ M L (x.wpr rd P (Exit.inBlock id Q))) : J c n σ M L ((Code.block id x).wpr rd P Q) := fun a w s t => wpr_block (h a w s t)
theorem J.skip (h : J c n σ M L (Q .normal)) : J c n σ M L (Code.skip.wpr rd P Q) := fun a w s t => wpr_skip (h a w s t)
theorem J.exit {id : Nat} (h : J c n σ M L (Q (.exit id))) : J c n σ M L ((Code.exit id).wpr rd P Q) := fun a w s t => wpr_exit (h a w s t)
theorem J.ret (h : J c n σ M L (Q .ret)) : J c n σ M L (Code.ret.wpr rd P Q) := fun a w s t => wpr_ret (h a w s t)
theorem J.cond {x : Operand} {th el : Code} {b : Bool} (hx : ev σ x = some (.bool b)) (ht : b = true → J c n σ M L (th.wpr rd P Q)) (hf : b = false → J c n σ M L (el.wpr rd P Q)) :
    J c n σ M L ((Code.cond x th el).wpr rd P Q) := fun a w s t => wpr_cond_split (s.eval hx) (fun h => ht h a w s t) (fun h => hf h a w s t)
theorem J.condT {x : Operand} {th el : Code} (hx : ev σ x = some (.bool true)) (h : J c n σ M L (th.wpr rd P Q)) : J c n σ M L ((Code.cond x th el).wpr rd P Q) := J.cond hx (fun _ => h) (fun h => by cases h)
theorem J.condF {x : Operand} {th el : Code} (hx : ev σ x = some (.bool false)) (h : J c n σ M L (el.wpr rd P Q)) : J c n σ M L ((Code.cond x th el).wpr rd P Q) := J.cond hx (fun h => by cases h) (fun _ => h)
theorem J.region {id : Nat} {l : List Oper} (h : J c n σ M L (wpList P l.toArray Q l)) (hd : l.all noDefer = true := by rfl) : J c n σ M L ((Code.region id l.toArray false).wpr rd P Q) := fun a w s t => wpr_region_lit hd (h a w s t)
theorem J.done {ops : Array Oper} (h : J c n σ M L (Q .normal)) : J c n σ M L (wpList P ops Q []) := h

/-! the exits -/
variable {K : Act → World → Prop}
theorem J.thenN (h : J c n σ M L K) : J c n σ M L (Exit.then K Q .normal) := h
theorem J.thenX {id : Nat} (h : J c n σ M L (Q (.exit id))) : J c n σ M L (Exit.then K Q (.exit id)) := h
theorem J.thenR (h : J c n σ M L (Q .ret)) : J c n σ M L (Exit.then K Q .ret) := h
theorem J.inN {id : Nat} (h : J c n σ M L (Q .normal)) : J c n σ M L (Exit.inBlock id Q .normal) := h
theorem J.inR {id : Nat} (h : J c n σ M L (Q .ret)) : J c n σ M L (Exit.inBlock id Q .ret) := h
theorem J.inX {id : Nat} (h : J c n σ M L (Q .normal)) : J c n σ M L (Exit.inBlock id Q (.exit id)) := fun a w s t => by
  simp only [Exit.inBlock, if_true]; exact h a w s t
theorem J.inXne {id id' : Nat} (e : Nat.beq id' id = false) (h : J c n σ M L (Q (.exit id'))) : J c n σ M L (Exit.inBlock id Q (.exit id')) := fun a w s t => by
  have : id' ≠ id := fun h => by subst h; simp at e
  simp only [Exit.inBlock, if_neg this]; exact h a w s t

/-! loops -/
def Inv {X : Type} (c : Ctx) (n : Sz) (C : X → Prop) (σI : X → Fr) (MI LI : X → List Fact) (μ : X → Nat) (m : Nat) (a : Act) (w : World) : Prop :=
  ∃ x, C x ∧ μ x < m ∧ Sub n (σI x) a ∧ St c (MI x) (LI x) w

theorem J.loop {X : Type} {body : Code} (C : X → Prop) (σI : X → Fr) (MI LI : X → List Fact) (μ : X → Nat) (x0 : X) (h0 : C x0)
    (hs : SubF σ (σI x0)) (hM : SubM M (MI x0)) (hL : ∀ f ∈ LI x0, f ∈ L)
    (round : ∀ x, C x → J c n (σI x) (MI x) (LI x) (body.wpr rd P (Exit.then (Inv c n C σI MI LI μ (μ x)) Q))) : J c n σ M L ((Code.loop body).wpr rd P Q) := by
  intro a w s t b k cs hro hb hr
  have key : ∀ m x a w, μ x = m → C x → Sub n (σI x) a → St c (MI x) (LI x) w →
      ∃ e a' w', Q e a' w' ∧ ArrivesIn (Machine.fenced P (FR rd)) P (lone (b.atR a (.code body :: .inLoop body :: k)) cs w) b k cs e a' w' := by
    intro m
    induction m using Nat.strongRecOn with
    | _ m ih =>
      intro x a w hm hC hs ht
      obtain ⟨e, a₁, w₁, hq, harr⟩ := round x hC a w hs ht b (.inLoop body :: k) cs hro hb hr
      cases e with
      | normal =>
        obtain ⟨y, hCy, hlt, hsy, hty⟩ := hq
        obtain ⟨e₂, a₂, w₂, hq₂, harr₂⟩ := ih (μ y) (hm ▸ hlt) y a₁ w₁ rfl hCy hsy hty
        exact ⟨e₂, a₂, w₂, hq₂, .of_steps (StepsIn.trans harr (.one (fenced_calm hb hr rfl) stepR_inLoop)) harr₂⟩
      | exit id => exact ⟨_, a₁, w₁, hq, .pass (x := .inLoop body) rfl (fun _ _ => .inl (by simp)) harr⟩
      | goto l => exact ⟨_, a₁, w₁, hq, .pass (x := .inLoop body) rfl (fun _ _ => .inl (by simp)) harr⟩
      | ret => exact ⟨_, a₁, w₁, hq, .pass (x := .inLoop body) rfl (fun _ _ => .inl (by simp)) harr⟩
      | panic ch => exact ⟨_, a₁, w₁, hq, .pass (x := .inLoop body) rfl (fun _ _ => .inl (by simp)) harr⟩
      | outgrown => exact ⟨_, a₁, w₁, hq, .pass (x := .inLoop body) rfl (fun _ _ => .inl (by simp)) harr⟩
  obtain ⟨e, a', w', hq, harr⟩ := key _ x0 a w rfl h0 (s.weak hs) (t.weak hM hL)
  exact ⟨e, a', w', hq, .of_steps (.one (fenced_calm hb hr rfl) stepR_loop) harr⟩

theorem J.again {X : Type} {C : X → Prop} {σI : X → Fr} {MI LI : X → List Fact} {μ : X → Nat} {m : Nat} (x : X) (hC : C x) (hμ : μ x < m)
    (hs : SubF σ (σI x)) (hM : SubM M (MI x)) (hL : ∀ f ∈ LI x, f ∈ L) : J c n σ M L (Inv c n C σI MI LI μ m) :=
  fun _ _ s t => ⟨x, hC, hμ, s.weak hs, t.weak hM hL⟩

/-! ways that meet again -/
def Mid {X : Type} (c : Ctx) (n : Sz) (C : X → Prop) (σI : X → Fr) (MI LI : X → List Fact) (a : Act) (w : World) : Prop := ∃ x, C x ∧ Sub n (σI x) a ∧ St c (MI x) (LI x) w

theorem J.mid {X : Type} {x y : Code} (C : X → Prop) (σI : X → Fr) (MI LI : X → List Fact) (h1 : J c n σ M L (x.wpr rd P (Exit.then (Mid c n C σI MI LI) Q))) (h2 : ∀ z, C z → J c n (σI z) (MI z) (LI z) (y.wpr rd P Q)) :
    J c n σ M L ((Code.seq x y).wpr rd P Q) := fun a w s t => wpr_seq (wpr_mono (fun e a' w' q => by
  cases e with
  | normal => obtain ⟨z, hC, hs, ht⟩ := q; exact h2 z hC a' w' hs ht
  | exit id => exact q
  | goto l => exact q
  | ret => exact q
  | panic ch => exact q
  | outgrown => exact q) (h1 a w s t))

theorem J.meet {X : Type} {C : X → Prop} {σI : X → Fr} {MI LI : X → List Fact} (x : X) (hC : C x) (hs : SubF σ (σI x)) (hM : SubM M (MI x)) (hL : SubL L (LI x)) : J c n σ M L (Mid c n C σI MI LI) :=
  fun _ _ s t => ⟨x, hC, s.weak hs, t.weak hM hL⟩

/-! operations -/
/-- the operation o only computes: its value is v -/
def Y (P : Program) (c : Ctx) (n : Sz) (σ : Fr) (M L : List Fact) (o : Oper) (v : Value) : Prop :=
  ∀ a w, Sub n σ a → St c M L w → (execOp a.eval o).run P w = .ok (.value v) w

theorem wpList_take {ops : Array Oper} {rest : List Oper} {o : Oper} {a : Act} {w : World} (hw : Region.wanted o (yielded ops a.tmps) = true)
    (h : o.wp P a w (wpList P ops Q rest) Q) : wpList P ops Q (o :: rest) a w := by
  unfold wpList; rw [if_pos hw]; exact .inl h

theorem J.quiet {ops : Array Oper} {rest : List Oper} {d : Nat} {op : Op} {ty : TypeId} {pos : String} {aft : Array Edge} {v : Value}
    (hy : Y P c n σ M L ⟨some d, op, ty, pos, aft, none⟩ v) (hd : Nat.blt d n.sz = true) (h : J c n ((d, v) :: σ) M L (wpList P ops Q rest)) :
    J c n σ M L (wpList P ops Q (⟨some d, op, ty, pos, aft, none⟩ :: rest)) := fun a w s t =>
  wpList_take rfl (by simp only [Oper.wp, hy a w s t, Oper.upon]; exact h _ w (s.put d v hd) t)

/-- the value of the guard j -/
def gv (ops : Array Oper) (σ : Fr) (j : Nat) : Option Bool :=
  match ((ops[j]?).bind (·.dst)).bind (lk σ) with
  | some (.bool b) => some b
  | _ => none

theorem gv_yielded {ops : Array Oper} {j : Nat} {b : Bool} {a : Act} (s : Sub n σ a) (h : gv ops σ j = some b) : yielded ops a.tmps j = some b := by
  unfold gv at h
  unfold yielded
  cases hd : (ops[j]?).bind (·.dst) with
  | none => simp [hd] at h
  | some d =>
    simp only [hd, Option.bind_some] at h ⊢
    cases hl : lk σ d with
    | none => simp [hl] at h
    | some v =>
      rw [s.slot d v hl]
      rw [hl] at h
      cases v <;> first | exact h | cases h

theorem J.guardY {ops : Array Oper} {rest : List Oper} {d : Nat} {op : Op} {ty : TypeId} {pos : String} {aft : Array Edge} {j : Nat} {b : Bool} {v : Value}
    (hg : gv ops σ j = some b) (hy : Y P c n σ M L ⟨some d, op, ty, pos, aft, some (j, b)⟩ v) (hd : Nat.blt d n.sz = true) (h : J c n ((d, v) :: σ) M L (wpList P ops Q rest)) :
    J c n σ M L (wpList P ops Q (⟨some d, op, ty, pos, aft, some (j, b)⟩ :: rest)) := fun a w s t =>
  wpList_take (by simp [Region.wanted, gv_yielded s hg]) (by simp only [Oper.wp, hy a w s t, Oper.upon]; exact h _ w (s.put d v hd) t)

theorem J.guardN {ops : Array Oper} {rest : List Oper} {d : Nat} {op : Op} {ty : TypeId} {pos : String} {aft : Array Edge} {j : Nat} {b b' : Bool}
    (hg : gv ops σ j = some b') (hb : (b' == b) = false) (hd : Nat.blt d n.sz = true) (h : J c n ((d, undef) :: σ) M L (wpList P ops Q rest)) :
    J c n σ M L (wpList P ops Q (⟨some d, op, ty, pos, aft, some (j, b)⟩ :: rest)) := fun a w s t => by
  unfold wpList
  rw [if_neg (by simp [Region.wanted, gv_yielded s hg, hb])]
  exact h _ w (s.put d undef hd) t

theorem Sub.over {n : Sz} {σ : Fr} {a : Act} (h : Sub n σ a) {d : Nat} {v : Value} (hv : a.tmps[d]? = some v) : Sub n ((d, v) :: σ) a :=
  ⟨h.defers, h.size, fun t u ht => by
    simp only [lk] at ht
    by_cases e : t = d
    · subst e; simp at ht; subst ht; exact hv
    · rw [beq_ne e] at ht; exact h.slot t u ht⟩

/-- the guard is not decided: part -/
theorem J.guard {ops : Array Oper} {rest : List Oper} {d : Option Tmp} {op : Op} {ty : TypeId} {pos : String} {aft : Array Edge} {j dj : Nat} {b' b : Bool}
    (_ : (ops[j]?).bind (·.dst) = some dj) (hg : lk σ dj = some (.bool b')) (ht : b' = true → J c n ((dj, .bool true) :: σ) M L (wpList P ops Q (⟨d, op, ty, pos, aft, some (j, b)⟩ :: rest)))
    (hf : b' = false → J c n ((dj, .bool false) :: σ) M L (wpList P ops Q (⟨d, op, ty, pos, aft, some (j, b)⟩ :: rest))) :
    J c n σ M L (wpList P ops Q (⟨d, op, ty, pos, aft, some (j, b)⟩ :: rest)) := by
  cases b'
  · exact fun a w s t => hf rfl a w (s.over (s.slot _ _ hg)) t
  · exact fun a w s t => ht rfl a w (s.over (s.slot _ _ hg)) t

theorem J.guardD {ops : Array Oper} {rest : List Oper} {d : Option Tmp} {op : Op} {ty : TypeId} {pos : String} {aft : Array Edge} {j dj : Nat} {p : Prop} {_ : Decidable p} {b : Bool}
    (hd : (ops[j]?).bind (·.dst) = some dj) (hg : lk σ dj = some (.bool (decide p))) (ht : p → J c n ((dj, .bool true) :: σ) M L (wpList P ops Q (⟨d, op, ty, pos, aft, some (j, b)⟩ :: rest)))
    (hf : ¬ p → J c n ((dj, .bool false) :: σ) M L (wpList P ops Q (⟨d, op, ty, pos, aft, some (j, b)⟩ :: rest))) :
    J c n σ M L (wpList P ops Q (⟨d, op, ty, pos, aft, some (j, b)⟩ :: rest)) :=
  J.guard hd hg (fun h => ht (of_decide_eq_true h)) (fun h => hf (of_decide_eq_false h))

theorem J.condD {x : Operand} {th el : Code} {p : Prop} {_ : Decidable p} (hx : ev σ x = some (.bool (decide p))) (ht : p → J c n σ M L (th.wpr rd P Q)) (hf : ¬ p → J c n σ M L (el.wpr rd P Q)) :
    J c n σ M L ((Code.cond x th el).wpr rd P Q) := J.cond hx (fun h => ht (of_decide_eq_true h)) (fun h => hf (of_decide_eq_false h))

end rules
end Go.Sx
