/- Models of functions with their proofs, by program (gen/xt.py), and plain laws, in one text. Conditions: none. -/
import Derived.WalkKit
import Derived.RangeFuncRecord
import Derived.OrdersIn
import Derived.TacticsIn
import Derived.DefersIn
import Derived.Test.YtmajgimhmfeliaaProg
import Derived.Deep.AppendSrc
section
set_option linter.unusedVariables false
set_option linter.unusedSimpArgs false
set_option linter.unusedVariables false
set_option linter.unusedSimpArgs false
namespace Go.Sx
open Go.RowKit
/-- no fence, but the round of a range over a function -/
def FR (r : Option Nat) : Fence := { Fence.wide with round := r }
theorem FR_fenced (P : Program) (r : Option Nat) : Machine.fenced P (FR r) = Machine.fenced P Fence.wide := rfl
theorem FR_room (r : Option Nat) (n : Nat) : (FR r).room n := fun _ h => by cases h
theorem callsFR {r : Option Nat} {n : Nat} {P : Program} {f : FuncId} {args : Array Value} {w : World} {R : Ending → World → Prop} (h : Calls P f args w R) : CallsIn (FR r) n P f args w R :=
  ⟨trivial, fun cs _ => let ⟨e, w', fr, hr, s, x⟩ := h cs; ⟨e, w', fr, hr, (FR_fenced P r ▸ comesIn_wide.2 s), x⟩⟩
theorem callsFR' {r : Option Nat} {n : Nat} {P : Program} {f : FuncId} {args : Array Value} {w : World} {R : Ending → World → Prop} (h : CallsIn (FR r) n P f args w R) : Calls P f args w R :=
  fun cs => let ⟨e, w', fr, hr, s, x⟩ := h.2 cs (FR_room r _); ⟨e, w', fr, hr, ComesIn.comes s, x⟩

/-- the code's weakest precondition, in a frame of the round r -/
def _root_.Go.Code.wpr (r : Option Nat) (P : Program) (c : Code) (Q : Exit → Act → World → Prop) (a : Act) (w : World) : Prop := c.wpIn (FR r) 0 P Q a w

section
variable {r : Option Nat} {P : Program} {Q : Exit → Act → World → Prop} {a : Act} {w : World}
theorem wpr_mono {c : Code} {Q' : Exit → Act → World → Prop} (hq : ∀ e a w, Q e a w → Q' e a w) (h : c.wpr r P Q a w) : c.wpr r P Q' a w := Code.wpIn_mono hq h
theorem wpr_seq {x y : Code} (h : x.wpr r P (Exit.then (y.wpr r P Q) Q) a w) : (Code.seq x y).wpr r P Q a w := wpIn_seq h
theorem wpr_block {id : Nat} {x : Code} (h : x.wpr r P (Exit.inBlock id Q) a w) : (Code.block id x).wpr r P Q a w := wpIn_block h
theorem wpr_skip (h : Q .normal a w) : Code.skip.wpr r P Q a w := wpIn_skip h
theorem wpr_exit {id : Nat} (h : Q (.exit id) a w) : (Code.exit id).wpr r P Q a w := wpIn_exit h
theorem wpr_ret (h : Q .ret a w) : Code.ret.wpr r P Q a w := wpIn_ret h
theorem wpr_cond_split {x : Operand} {th el : Code} {b : Bool} (hc : a.eval x = .bool b) (ht : b = true → th.wpr r P Q a w) (hf : b = false → el.wpr r P Q a w) : (Code.cond x th el).wpr r P Q a w := wpIn_cond_split hc ht hf

/-! ## Operations -/
/-- a call of yield: a round -/
def _root_.Go.Oper.rnd (P : Program) (o : Oper) (a : Act) (w : World) (K : Act → World → Prop) : Prop :=
  ∃ l f tmps assign body w', (execOp a.eval o).run P w = .ok (.round l f tmps assign body) w' ∧ RoundIn (FR none) 0 P l f tmps assign body w' fun e w'' => ∃ v, e = .returned v ∧ K (a.put o.dst v) w''

theorem _root_.Go.Oper.rnd_mono {o : Oper} {K K' : Act → World → Prop} (hk : ∀ a w, K a w → K' a w) (h : o.rnd P a w K) : o.rnd P a w K' := by
  obtain ⟨l, f, tmps, assign, body, w', h1, h2⟩ := h
  exact ⟨l, f, tmps, assign, body, w', h1, h2.mono fun e w'' ⟨v, he, hv⟩ => ⟨v, he, hk _ _ hv⟩⟩

def noDefer (o : Oper) : Bool := match o.op with | .defer _ => false | _ => true

theorem semAt_no {o : Oper} (h : noDefer o = true) (r : Option Nat) (ρ : Operand → Value) : o.semAt r ρ = execOp ρ o :=
  Oper.semAt_eq r ρ o fun c hc => by unfold noDefer at h; rw [hc] at h; cases h

theorem rowsFR {n : Nat} {row : String} {args : Array Value} {R : Value → World → Prop} (h : Rows P row args w R) : RowsIn (FR r) n P row args w R := fun c cs _ =>
  let ⟨v, w', hr, s⟩ := h c cs; ⟨v, w', hr, (FR_fenced P r ▸ stepsIn_wide.2 s)⟩

theorem wp_in {o : Oper} {K : Act → World → Prop} (hd : noDefer o = true) (h : o.wp P a w K Q ∨ o.rnd P a w K) : o.wpIn (FR r) 0 P a w K Q := by
  refine ⟨fun _ _ => trivial, ?_⟩
  rw [semAt_no hd]
  rcases h with h | h
  · unfold Oper.wp at h
    cases hr : (execOp a.eval o).run P w with
    | ok x w' =>
      rw [hr] at h
      cases x with
      | value v => exact h
      | skip => exact h
      | defer d => exact h
      | enter f args =>
        refine ⟨(fun hc => by cases hc), (callsFR h).mono ?_⟩
        intro e w'' he
        cases e <;> exact he
      | row rw args => exact ⟨(fun hc => by cases hc), rowsFR h⟩
      | _ => exact h.elim
    | halt x w' =>
      rw [hr] at h
      cases x <;> first | exact h | exact h.elim
  · obtain ⟨l, f, tmps, assign, body, w', h1, h2⟩ := h
    rw [h1]
    refine ⟨(fun hc => by cases hc), ?_⟩
    exact ⟨trivial, fun c cs _ => by
      obtain ⟨e, w'', ⟨v, he, hv⟩, s⟩ := h2.2 c cs (FR_room none _)
      subst he
      exact ⟨.returned v, w'', hv, s⟩⟩
end
/-- a region's list, walked -/
def wpList (P : Program) (ops : Array Oper) (Q : Exit → Act → World → Prop) : List Oper → Act → World → Prop
  | [], a, w => Q .normal a w
  | o :: rest, a, w =>
    if Region.wanted o (yielded ops a.tmps) then o.wp P a w (wpList P ops Q rest) Q ∨ o.rnd P a w (wpList P ops Q rest) else wpList P ops Q rest (a.put o.dst undef) w

theorem wpList_in {r : Option Nat} {P : Program} {ops : Array Oper} {Q : Exit → Act → World → Prop} : ∀ (l : List Oper) (a : Act) (w : World), l.all noDefer = true → wpList P ops Q l a w → wpListIn (FR r) 0 P ops Q l a w
  | [], _, _, _, h => h
  | o :: rest, a, w, hd, h => by
    simp only [List.all_cons, Bool.and_eq_true] at hd
    unfold wpList at h
    unfold wpListIn
    by_cases hw : Region.wanted o (yielded ops a.tmps) = true
    · rw [if_pos hw] at h ⊢
      refine wp_in hd.1 ?_
      rcases h with h | h
      · exact .inl (Oper.wp_mono (fun a w h => wpList_in rest a w hd.2 h) h)
      · exact .inr (Oper.rnd_mono (fun a w h => wpList_in rest a w hd.2 h) h)
    · rw [if_neg hw] at h ⊢
      exact ⟨fun _ _ => trivial, wpList_in rest _ w hd.2 h⟩

theorem wpr_region_lit {r : Option Nat} {P : Program} {Q : Exit → Act → World → Prop} {a : Act} {w : World} {id : Nat} {l : List Oper} (hd : l.all noDefer = true) (h : wpList P l.toArray Q l a w) : (Code.region id l.toArray false).wpr r P Q a w :=
  wpIn_region_lit (wpList_in l a w hd h)

/-! ## Regions whose order is drawn -/
def wpOp (P : Program) (ops : Array Oper) (Q : Exit → Act → World → Prop) (i : Nat) (K : Act → World → Prop) (a : Act) (w : World) : Prop :=
  match ops[i]? with
  | none => K a w
  | some o => if Region.wanted o (yielded ops a.tmps) then o.wp P a w K Q ∨ o.rnd P a w K else K (a.put o.dst undef) w

def wpOps (P : Program) (ops : Array Oper) (Q : Exit → Act → World → Prop) : List Nat → Act → World → Prop
  | [], a, w => Q .normal a w
  | i :: rest, a, w => wpOp P ops Q i (wpOps P ops Q rest) a w

theorem wpOps_cons {P : Program} {ops : Array Oper} {Q : Exit → Act → World → Prop} (i : Nat) (rest : List Nat) (a : Act) (w : World) : wpOps P ops Q (i :: rest) a w = wpOp P ops Q i (wpOps P ops Q rest) a w := rfl

def wpAny (P : Program) (md : Region.Mode) (ops : Array Oper) (Q : Exit → Act → World → Prop) : Nat → Array Bool → Act → World → Prop
  | 0, listed, a, w => Region.ready md ops listed = [] ∧ Q .normal a w
  | fuel + 1, listed, a, w =>
    (Region.ready md ops listed = [] → Q .normal a w) ∧
    ∀ i ∈ Region.ready md ops listed, wpOp P ops Q i (wpAny P md ops Q fuel (listed.setIfInBounds i true)) a w

section
variable {r : Option Nat} {P : Program} {ops : Array Oper} {Q : Exit → Act → World → Prop}
theorem wpOp_in {i : Nat} {K K' : Act → World → Prop} {a : Act} {w : World} (hd : ∀ o, ops[i]? = some o → noDefer o = true) (hk : ∀ a w, K a w → K' a w) (h : wpOp P ops Q i K a w) : wpOpIn (FR r) 0 P ops Q i K' a w := by
  unfold wpOp at h
  unfold wpOpIn
  cases ho : ops[i]? with
  | none => rw [ho] at h; exact hk _ _ h
  | some o =>
    rw [ho] at h
    dsimp only at h ⊢
    by_cases hw : Region.wanted o (yielded ops a.tmps) = true
    · rw [if_pos hw] at h ⊢
      refine wp_in (hd o ho) ?_
      rcases h with h | h
      · exact .inl (Oper.wp_mono hk h)
      · exact .inr (Oper.rnd_mono hk h)
    · rw [if_neg hw] at h ⊢
      exact ⟨fun _ _ => trivial, hk _ _ h⟩

theorem wpOps_in (hd : ∀ (i : Nat) (o : Oper), ops[i]? = some o → noDefer o = true) : ∀ (s : List Nat) (a : Act) (w : World), wpOps P ops Q s a w → wpOpsIn (FR r) 0 P ops Q s a w
  | [], _, _, h => h
  | i :: rest, a, w, h => by
    rw [wpOpsIn_cons]
    exact wpOp_in (hd i) (fun a w h => wpOps_in hd rest a w h) h

theorem wpAny_in {md : Region.Mode} (hd : ∀ (i : Nat) (o : Oper), ops[i]? = some o → noDefer o = true) : ∀ (fuel : Nat) (listed : Array Bool) (a : Act) (w : World), wpAny P md ops Q fuel listed a w → wpAnyIn (FR r) 0 P md ops Q fuel listed a w
  | 0, _, _, _, h => h
  | fuel + 1, listed, a, w, h => ⟨h.1, fun i hi => wpOp_in (hd i) (fun a w h => wpAny_in hd fuel _ a w h) (h.2 i hi)⟩

theorem noDefer_all {l : List Oper} (h : l.all noDefer = true) (i : Nat) (o : Oper) (ho : l.toArray[i]? = some o) : noDefer o = true := by
  have hm : o ∈ l := by
    rw [List.getElem?_toArray] at ho
    exact List.mem_of_getElem? ho
  exact List.all_eq_true.1 h o hm

theorem wpr_region_any {id : Nat} {l : List Oper} {a : Act} {w : World} (hd : l.all noDefer = true) (hm : P.follows .mixedOrders = true)
    (h : wpAny P .any l.toArray Q l.toArray.size (Array.replicate l.toArray.size false) a { w with drawn := w.drawn + 1 }) : (Code.region id l.toArray true).wpr r P Q a w :=
  wpIn_region_any hm (wpAny_in (noDefer_all hd) _ _ _ _ h)

theorem wpr_region_draw {id : Nat} {l : List Oper} {a : Act} {w : World} (hd : l.all noDefer = true)
    (h : ∀ t, wpOps P l.toArray Q (Region.schedule (P.follows .mixedOrders) l.toArray t) a { w with drawn := w.drawn + 1 }) : (Code.region id l.toArray true).wpr r P Q a w :=
  wpIn_region_draw fun t => wpOps_in (noDefer_all hd) _ _ _ (h t)
end
/-! ## The end of a function -/
def bodyPost (P : Program) (fn : Func) (R : Ending → World → Prop) : Exit → Act → World → Prop := bodyPostM (FR none) 0 P fn R

theorem calls_of_wpr {P : Program} {f : FuncId} {fn : Func} {c : Code} {args : Array Value} {w : World} {R : Ending → World → Prop} (hf : P.funcs[f]? = some fn) (hb : fn.body = some c)
    (h : c.wpr none P (bodyPost P fn R) { tmps := args ++ Array.replicate (fn.ntmps - args.size) undef, defers := [] } w) : Calls P f args w R :=
  callsFR' (r := none) (callsIn_of_wp_marks hf hb trivial h)

theorem body_end {P : Program} {fn : Func} {R : Ending → World → Prop} {a : Act} {w : World} {v : Value} {e : Exit} (he : e = .ret ∨ e = .normal) (hd : a.defers = []) (hr : (results fn a.tmps).run P w = .ok v w) (hR : R (.returned v) w) : bodyPost P fn R e a w := by
  rcases he with rfl | rfl
  · show LeavesInM (FR none) 0 P fn a.tmps R a.defers .returning w
    rw [hd]; exact ⟨v, hr, hR⟩
  · show LeavesInM (FR none) 0 P fn a.tmps R a.defers .returning w
    rw [hd]; exact ⟨v, hr, hR⟩

/-- with the mark of a range over a function among the deferred calls -/
theorem body_endM {P : Program} {fn : Func} {R : Ending → World → Prop} {a : Act} {w : World} {e : Exit} {D : Nat} {ds : List Deferred} (he : e = .ret ∨ e = .normal) (hd : a.defers = { target := .collected D, args := #[] } :: ds) (hD : w.heap[D]? = some (.deferred (some [])))
    (h : LeavesInM (FR none) 0 P fn a.tmps R ds .returning (w.putObj D (.deferred none))) : bodyPost P fn R e a w := by
  have key : LeavesInM (FR none) 0 P fn a.tmps R a.defers .returning w := by
    rw [hd]
    exact ⟨(fun hc => by cases hc), .inl ⟨D, _, rfl, run_takeDeferred hD, h⟩⟩
  rcases he with rfl | rfl <;> exact key
end Go.Sx
end
section
set_option linter.unusedVariables false
set_option linter.unusedSimpArgs false
set_option linter.unusedVariables false
set_option linter.unusedSimpArgs false
namespace Go.Sx
open Go.RowKit
/-! ## Frames -/
abbrev Fr := List (Nat × Value)

def lk : Fr → Nat → Option Value
  | [], _ => none
  | (k, v) :: r, t => bif Nat.beq t k then some v else lk r t

def ev (σ : Fr) : Operand → Option Value
  | .tmp t => lk σ t
  | .const v => some v
  | .global g => some (.pointer (some ⟨g, 0, none⟩))
  | .func f => some (.func (.func f) #[] #[])

/-- the size of a frame, and the calls that it has deferred -/
structure Sz where
  sz : Nat
  ds : List Deferred

structure Sub (n : Sz) (σ : Fr) (a : Act) : Prop where
  defers : a.defers = n.ds
  size : a.tmps.size = n.sz
  slot : ∀ t v, lk σ t = some v → a.tmps[t]? = some v

theorem Sub.eval {n : Sz} {σ : Fr} {a : Act} (h : Sub n σ a) {x : Operand} {v : Value} (hx : ev σ x = some v) : a.eval x = v := by
  cases x with
  | tmp t => simp only [ev] at hx; have := h.slot t v hx; simp [Act.eval, this]
  | const u => simpa [ev, Act.eval] using hx
  | global g => simpa [ev, Act.eval] using hx
  | func f => simpa [ev, Act.eval] using hx

theorem beq_ne {t d : Nat} (e : t ≠ d) : Nat.beq t d = false := by
  cases h : Nat.beq t d with
  | false => rfl
  | true => exact absurd (Nat.eq_of_beq_eq_true h) e

theorem Sub.put {n : Sz} {σ : Fr} {a : Act} (h : Sub n σ a) (d : Nat) (v : Value) (hd : Nat.blt d n.sz = true) : Sub n ((d, v) :: σ) (a.put (some d) v) := by
  have hd' : d < n.sz := by simpa [Nat.blt_eq] using hd
  refine ⟨h.defers, by simp [Act.put, h.size], fun t u ht => ?_⟩
  simp only [lk] at ht
  by_cases e : t = d
  · subst e
    simp at ht
    subst ht
    simp [Act.put, h.size, hd']
  · rw [beq_ne e] at ht
    simp only [cond_false] at ht
    simp only [Act.put]
    rw [Array.getElem?_setIfInBounds_ne (Ne.symm e)]
    exact h.slot t u ht

def SubF (σ σ' : Fr) : Prop := ∀ t v, lk σ' t = some v → lk σ t = some v

theorem SubF.nil {σ : Fr} : SubF σ [] := fun _ _ h => by simp [lk] at h

theorem SubF.refl (σ : Fr) : SubF σ σ := fun _ _ h => h
theorem SubF.cons {σ σ' : Fr} {t : Nat} {v : Value} (h : lk σ t = some v) (r : SubF σ σ') : SubF σ ((t, v) :: σ') := by
  intro u x hx
  simp only [lk] at hx
  by_cases e : u = t
  · subst e; simp at hx; subst hx; exact h
  · rw [beq_ne e] at hx; exact r u x hx

theorem Sub.weak {n : Sz} {σ σ' : Fr} {a : Act} (h : Sub n σ a) (hs : SubF σ σ') : Sub n σ' a :=
  ⟨h.defers, h.size, fun t v hv => h.slot t v (hs t v hv)⟩

/-- the slots ts of σ, in normal form -/
def Keep (σ : Fr) (ts : List Nat) (σ' : Fr) : Prop := SubF σ σ' ∧ ts = σ'.map (·.1)
theorem Keep.nil {σ : Fr} : Keep σ [] [] := ⟨SubF.nil, rfl⟩
theorem Keep.cons {σ σ' : Fr} {t : Nat} {ts : List Nat} {v : Value} (h : lk σ t = some v) (r : Keep σ ts σ') : Keep σ (t :: ts) ((t, v) :: σ') :=
  ⟨SubF.cons h r.1, by simp [r.2]⟩

/-! ## Facts and states -/
structure Fact where
  p : World → (Nat → Prop) → Prop
  mono : ∀ {w w' : World} {S S' : Nat → Prop}, p w S → (∀ k, S k → k < w.heap.size → S' k ∧ w'.heap[k]? = w.heap[k]?) → p w' S'

/-- a call's view: the world at its beginning, what it may read of it, what it may change of it -/
structure Ctx where
  w0 : World
  S0 : Nat → Prop
  O : Nat → Prop := fun _ => False

/-- a block that the call may change: a new one, or one that was handed over -/
def Ctx.mine (c : Ctx) (k : Nat) : Prop := c.w0.heap.size ≤ k ∨ c.O k

def Ctx.all (c : Ctx) (k : Nat) : Prop := c.S0 k ∨ c.mine k

abbrev Ext (w w' : World) : Prop := Below w.heap.size w w'

theorem Ext.trans {a b c : World} (h : Ext a b) (k : Ext b c) : Ext a c := Below.trans h (k.mono h.size)

/-- outside of the blocks O nothing has changed -/
structure Kept (O : Nat → Prop) (w w' : World) : Prop where
  os : w'.os = w.os
  tape : w'.tape = w.tape
  output : w'.output = w.output
  size : w.heap.size ≤ w'.heap.size
  block : ∀ k, k < w.heap.size → ¬ O k → w'.heap[k]? = w.heap[k]?

theorem Kept.refl {O : Nat → Prop} (w : World) : Kept O w w := ⟨rfl, rfl, rfl, Nat.le_refl _, fun _ _ _ => rfl⟩
theorem Kept.trans {O : Nat → Prop} {a b c : World} (h : Kept O a b) (k : Ext b c) : Kept O a c :=
  ⟨k.os.trans h.os, k.tape.trans h.tape, k.output.trans h.output, Nat.le_trans h.size k.size, fun i hi ho => (k.block i (Nat.lt_of_lt_of_le hi h.size)).trans (h.block i hi ho)⟩
theorem Kept.ext {w w' : World} (h : Kept (fun _ => False) w w') : Ext w w' := ⟨h.os, h.tape, h.output, h.size, fun k hk => h.block k hk id⟩

structure Own (c : Ctx) (w : World) (M : List Fact) (F : Nat → Nat → Prop) : Prop where
  res : ∀ (i : Nat) (m : Fact), M[i]? = some m → m.p w (F i)
  rng : ∀ i k, F i k → c.mine k ∧ k < w.heap.size
  dis : ∀ i j k, F i k → F j k → i = j

def Free (c : Ctx) (F : Nat → Nat → Prop) (k : Nat) : Prop := c.all k ∧ ∀ i, ¬ F i k

structure St (c : Ctx) (M L : List Fact) (w : World) : Prop where
  old : Kept c.O c.w0 w
  own : ∃ F : Nat → Nat → Prop, Own c w M F ∧ ∀ f ∈ L, f.p w (Free c F)

theorem Fact.same {f : Fact} {w w' : World} {S S' : Nat → Prop} (h : f.p w S) (hS : ∀ k, S k → S' k) (e : ∀ k, S k → k < w.heap.size → w'.heap[k]? = w.heap[k]?) : f.p w' S' :=
  f.mono h fun k hk hl => ⟨hS k hk, e k hk hl⟩

/-- a state stands in every later world -/
theorem St.ext {c : Ctx} {M L : List Fact} {w w' : World} (h : St c M L w) (e : Ext w w') : St c M L w' := by
  obtain ⟨ho, F, hF, hL⟩ := h
  refine ⟨ho.trans e, F, ⟨fun i m hm => Fact.same (hF.res i m hm) (fun _ h => h) (fun k _ hl => e.block k hl), fun i k hk => ⟨(hF.rng i k hk).1, Nat.lt_of_lt_of_le (hF.rng i k hk).2 e.size⟩, hF.dis⟩,
    fun f hf => Fact.same (hL f hf) (fun _ h => h) (fun k _ hl => e.block k hl)⟩

/-! weaker states -/
/-- M' is made of resources of M, each taken once -/
def SubM (M M' : List Fact) : Prop := ∃ g : Nat → Nat, (∀ i j, i < M'.length → j < M'.length → g i = g j → i = j) ∧ ∀ (i : Nat) (m : Fact), M'[i]? = some m → M[g i]? = some m

theorem SubM.refl (M : List Fact) : SubM M M := ⟨id, fun _ _ _ _ h => h, fun _ _ h => h⟩
theorem SubM.nil {M : List Fact} : SubM M [] := ⟨id, fun _ _ h => by simp at h, fun _ _ h => by simp at h⟩
theorem SubM.cons {M M' : List Fact} (i : Nat) {m : Fact} (h : M[i]? = some m) (r : SubM (M.eraseIdx i) M') : SubM M (m :: M') := by
  obtain ⟨g, hg, hm⟩ := r
  let g' : Nat → Nat := fun j => match j with | 0 => i | j + 1 => if g j < i then g j else g j + 1
  have hi : i < M.length := by
    rcases Nat.lt_or_ge i M.length with h' | h'
    · exact h'
    · rw [List.getElem?_eq_none h'] at h; cases h
  refine ⟨g', ?_, ?_⟩
  · intro a b ha hb hab
    cases a with
    | zero =>
      cases b with
      | zero => rfl
      | succ b => simp only [g'] at hab; split at hab <;> omega
    | succ a =>
      cases b with
      | zero => simp only [g'] at hab; split at hab <;> omega
      | succ b =>
        simp only [List.length_cons] at ha hb
        have : g a = g b := by simp only [g'] at hab; split at hab <;> split at hab <;> omega
        have := hg a b (by omega) (by omega) this
        omega
  · intro j m' hj
    cases j with
    | zero => simp at hj; subst hj; exact h
    | succ j =>
      simp only [List.getElem?_cons_succ] at hj
      have := hm j m' hj
      rw [List.getElem?_eraseIdx] at this
      simp only [g']
      split
      · rename_i hlt; rwa [if_pos hlt] at this
      · rename_i hlt; rwa [if_neg hlt] at this

theorem St.weak {c : Ctx} {M L M' L' : List Fact} {w : World} (h : St c M L w) (hM : SubM M M') (hL : ∀ f ∈ L', f ∈ L) : St c M' L' w := by
  obtain ⟨ho, F, hF, hf⟩ := h
  obtain ⟨g, hg, hm⟩ := hM
  refine ⟨ho, fun i k => i < M'.length ∧ F (g i) k, ⟨fun i m hi => ?_, fun i k hk => hF.rng _ k hk.2, fun i j k hi hj => hg i j hi.1 hj.1 (hF.dis _ _ k hi.2 hj.2)⟩, fun f hfl => ?_⟩
  · have hlt : i < M'.length := by
      rcases Nat.lt_or_ge i M'.length with h' | h'
      · exact h'
      · rw [List.getElem?_eq_none h'] at hi; cases hi
    exact Fact.same (hF.res _ m (hm i m hi)) (fun k hk => ⟨hlt, hk⟩) (fun _ _ _ => rfl)
  · exact Fact.same (hf f (hL f hfl)) (fun k hk => ⟨hk.1, fun i hi => hk.2 _ hi.2⟩) (fun _ _ _ => rfl)

def SubL (L L' : List Fact) : Prop := ∀ f ∈ L', f ∈ L
theorem SubL.nil {L : List Fact} : SubL L [] := fun _ h => by simp at h
theorem SubL.cons {L L' : List Fact} {f : Fact} (h : f ∈ L) (r : SubL L L') : SubL L (f :: L') := fun g hg => by
  rcases List.mem_cons.1 hg with rfl | hg
  · exact h
  · exact r g hg
theorem SubL.refl (L : List Fact) : SubL L L := fun _ h => h

/-! ## The judgement -/
def J (c : Ctx) (n : Sz) (σ : Fr) (M L : List Fact) (G : Act → World → Prop) : Prop := ∀ a w, Sub n σ a → St c M L w → G a w

section rules
variable {P : Program} {rd : Option Nat} {c : Ctx} {n : Sz} {σ σ' : Fr} {M M' L L' : List Fact} {G G' : Act → World → Prop} {Q : Exit → Act → World → Prop}
theorem J.mono (h : J c n σ M L G) (g : ∀ a w, G a w → G' a w) : J c n σ M L G' := fun a w s t => g a w (h a w s t)

theorem J.weak (h : J c n σ' M' L' G) (hs : SubF σ σ') (hM : SubM M M') (hL : ∀ f ∈ L', f ∈ L) : J c n σ M L G :=
  fun a w s t => h a w (s.weak hs) (t.weak hM hL)

theorem J.seq {x y : Code} (h : J c n σ M L (x.wpr rd P (Exit.then (y.wpr rd P Q) Q))) : J c n σ M L ((Code.seq x y).wpr rd P Q) := fun a w s t => wpr_seq (h a w s t)
theorem J.block {id : Nat} {x : Code} (h : J c n σ M L (x.wpr rd P (Exit.inBlock id Q))) : J c n σ M L ((Code.block id x).wpr rd P Q) := fun a w s t => wpr_block (h a w s t)
theorem J.skip (h : J c n σ M L (Q .normal)) : J c n σ M L (Code.skip.wpr rd P Q) := fun a w s t => wpr_skip (h a w s t)
theorem J.exit {id : Nat} (h : J c n σ M L (Q (.exit id))) : J c n σ M L ((Code.exit id).wpr rd P Q) := fun a w s t => wpr_exit (h a w s t)
theorem J.ret (h : J c n σ M L (Q .ret)) : J c n σ M L (Code.ret.wpr rd P Q) := fun a w s t => wpr_ret (h a w s t)
theorem J.cond {x : Operand} {th el : Code} {b : Bool} (hx : ev σ x = some (.bool b)) (ht : b = true → J c n σ M L (th.wpr rd P Q)) (hf : b = false → J c n σ M L (el.wpr rd P Q)) :
    J c n σ M L ((Code.cond x th el).wpr rd P Q) := fun a w s t => wpr_cond_split (s.eval hx) (fun h => ht h a w s t) (fun h => hf h a w s t)
theorem J.condT {x : Operand} {th el : Code} (hx : ev σ x = some (.bool true)) (h : J c n σ M L (th.wpr rd P Q)) : J c n σ M L ((Code.cond x th el).wpr rd P Q) := J.cond hx (fun _ => h) (fun h => by cases h)
theorem J.condF {x : Operand} {th el : Code} (hx : ev σ x = some (.bool false)) (h : J c n σ M L (el.wpr rd P Q)) : J c n σ M L ((Code.cond x th el).wpr rd P Q) := J.cond hx (fun h => by cases h) (fun _ => h)
theorem J.region {id : Nat} {l : List Oper} (h : J c n σ M L (wpList P l.toArray Q l)) (hd : l.all noDefer = true := by rfl) : J c n σ M L ((Code.region id l.toArray false).wpr rd P Q) := fun a w s t => wpr_region_lit hd (h a w s t)
theorem J.done {ops : Array Oper} (h : J c n σ M L (Q .normal)) : J c n σ M L (wpList P ops Q []) := h

/-! the exits -/
variable {K : Act → World → Prop}
theorem J.thenN (h : J c n σ M L K) : J c n σ M L (Exit.then K Q .normal) := h
theorem J.thenX {id : Nat} (h : J c n σ M L (Q (.exit id))) : J c n σ M L (Exit.then K Q (.exit id)) := h
theorem J.thenR (h : J c n σ M L (Q .ret)) : J c n σ M L (Exit.then K Q .ret) := h
theorem J.inN {id : Nat} (h : J c n σ M L (Q .normal)) : J c n σ M L (Exit.inBlock id Q .normal) := h
theorem J.inR {id : Nat} (h : J c n σ M L (Q .ret)) : J c n σ M L (Exit.inBlock id Q .ret) := h
theorem J.inX {id : Nat} (h : J c n σ M L (Q .normal)) : J c n σ M L (Exit.inBlock id Q (.exit id)) := fun a w s t => by
  simp only [Exit.inBlock, if_true]; exact h a w s t
/-! loops -/
def Inv {X : Type} (c : Ctx) (n : Sz) (C : X → Prop) (σI : X → Fr) (MI LI : X → List Fact) (μ : X → Nat) (m : Nat) (a : Act) (w : World) : Prop :=
  ∃ x, C x ∧ μ x < m ∧ Sub n (σI x) a ∧ St c (MI x) (LI x) w

theorem J.loop {X : Type} {body : Code} (C : X → Prop) (σI : X → Fr) (MI LI : X → List Fact) (μ : X → Nat) (x0 : X) (h0 : C x0)
    (hs : SubF σ (σI x0)) (hM : SubM M (MI x0)) (hL : ∀ f ∈ LI x0, f ∈ L)
    (round : ∀ x, C x → J c n (σI x) (MI x) (LI x) (body.wpr rd P (Exit.then (Inv c n C σI MI LI μ (μ x)) Q))) : J c n σ M L ((Code.loop body).wpr rd P Q) := by
  intro a w s t b k cs hro hb hr
  have key : ∀ m x a w, μ x = m → C x → Sub n (σI x) a → St c (MI x) (LI x) w →
      ∃ e a' w', Q e a' w' ∧ ArrivesIn (Machine.fenced P (FR rd)) P (lone (b.atR a (.code body :: .inLoop body :: k)) cs w) b k cs e a' w' := by
    intro m
    induction m using Nat.strongRecOn with
    | _ m ih =>
      intro x a w hm hC hs ht
      obtain ⟨e, a₁, w₁, hq, harr⟩ := round x hC a w hs ht b (.inLoop body :: k) cs hro hb hr
      cases e with
      | normal =>
        obtain ⟨y, hCy, hlt, hsy, hty⟩ := hq
        obtain ⟨e₂, a₂, w₂, hq₂, harr₂⟩ := ih (μ y) (hm ▸ hlt) y a₁ w₁ rfl hCy hsy hty
        exact ⟨e₂, a₂, w₂, hq₂, .of_steps (StepsIn.trans harr (.one (fenced_calm hb hr rfl) stepR_inLoop)) harr₂⟩
      | exit id => exact ⟨_, a₁, w₁, hq, .pass (x := .inLoop body) rfl (fun _ _ => .inl (by simp)) harr⟩
      | goto l => exact ⟨_, a₁, w₁, hq, .pass (x := .inLoop body) rfl (fun _ _ => .inl (by simp)) harr⟩
      | ret => exact ⟨_, a₁, w₁, hq, .pass (x := .inLoop body) rfl (fun _ _ => .inl (by simp)) harr⟩
      | panic ch => exact ⟨_, a₁, w₁, hq, .pass (x := .inLoop body) rfl (fun _ _ => .inl (by simp)) harr⟩
      | outgrown => exact ⟨_, a₁, w₁, hq, .pass (x := .inLoop body) rfl (fun _ _ => .inl (by simp)) harr⟩
  obtain ⟨e, a', w', hq, harr⟩ := key _ x0 a w rfl h0 (s.weak hs) (t.weak hM hL)
  exact ⟨e, a', w', hq, .of_steps (.one (fenced_calm hb hr rfl) stepR_loop) harr⟩

theorem J.again {X : Type} {C : X → Prop} {σI : X → Fr} {MI LI : X → List Fact} {μ : X → Nat} {m : Nat} (x : X) (hC : C x) (hμ : μ x < m)
    (hs : SubF σ (σI x)) (hM : SubM M (MI x)) (hL : ∀ f ∈ LI x, f ∈ L) : J c n σ M L (Inv c n C σI MI LI μ m) :=
  fun _ _ s t => ⟨x, hC, hμ, s.weak hs, t.weak hM hL⟩

/-! ways that meet again -/
def Mid {X : Type} (c : Ctx) (n : Sz) (C : X → Prop) (σI : X → Fr) (MI LI : X → List Fact) (a : Act) (w : World) : Prop := ∃ x, C x ∧ Sub n (σI x) a ∧ St c (MI x) (LI x) w

theorem J.meet {X : Type} {C : X → Prop} {σI : X → Fr} {MI LI : X → List Fact} (x : X) (hC : C x) (hs : SubF σ (σI x)) (hM : SubM M (MI x)) (hL : SubL L (LI x)) : J c n σ M L (Mid c n C σI MI LI) :=
  fun _ _ s t => ⟨x, hC, s.weak hs, t.weak hM hL⟩

/-! operations -/
/-- the operation o only computes: its value is v -/
def Y (P : Program) (c : Ctx) (n : Sz) (σ : Fr) (M L : List Fact) (o : Oper) (v : Value) : Prop :=
  ∀ a w, Sub n σ a → St c M L w → (execOp a.eval o).run P w = .ok (.value v) w

theorem wpList_take {ops : Array Oper} {rest : List Oper} {o : Oper} {a : Act} {w : World} (hw : Region.wanted o (yielded ops a.tmps) = true)
    (h : o.wp P a w (wpList P ops Q rest) Q) : wpList P ops Q (o :: rest) a w := by
  unfold wpList; rw [if_pos hw]; exact .inl h

theorem J.quiet {ops : Array Oper} {rest : List Oper} {d : Nat} {op : Op} {ty : TypeId} {pos : String} {aft : Array Edge} {v : Value}
    (hy : Y P c n σ M L ⟨some d, op, ty, pos, aft, none⟩ v) (hd : Nat.blt d n.sz = true) (h : J c n ((d, v) :: σ) M L (wpList P ops Q rest)) :
    J c n σ M L (wpList P ops Q (⟨some d, op, ty, pos, aft, none⟩ :: rest)) := fun a w s t =>
  wpList_take rfl (by simp only [Oper.wp, hy a w s t, Oper.upon]; exact h _ w (s.put d v hd) t)

/-- the value of the guard j -/
def gv (ops : Array Oper) (σ : Fr) (j : Nat) : Option Bool :=
  match ((ops[j]?).bind (·.dst)).bind (lk σ) with
  | some (.bool b) => some b
  | _ => none

theorem gv_yielded {ops : Array Oper} {j : Nat} {b : Bool} {a : Act} (s : Sub n σ a) (h : gv ops σ j = some b) : yielded ops a.tmps j = some b := by
  unfold gv at h
  unfold yielded
  cases hd : (ops[j]?).bind (·.dst) with
  | none => simp [hd] at h
  | some d =>
    simp only [hd, Option.bind_some] at h ⊢
    cases hl : lk σ d with
    | none => simp [hl] at h
    | some v =>
      rw [s.slot d v hl]
      rw [hl] at h
      cases v <;> first | exact h | cases h

theorem J.guardY {ops : Array Oper} {rest : List Oper} {d : Nat} {op : Op} {ty : TypeId} {pos : String} {aft : Array Edge} {j : Nat} {b : Bool} {v : Value}
    (hg : gv ops σ j = some b) (hy : Y P c n σ M L ⟨some d, op, ty, pos, aft, some (j, b)⟩ v) (hd : Nat.blt d n.sz = true) (h : J c n ((d, v) :: σ) M L (wpList P ops Q rest)) :
    J c n σ M L (wpList P ops Q (⟨some d, op, ty, pos, aft, some (j, b)⟩ :: rest)) := fun a w s t =>
  wpList_take (by simp [Region.wanted, gv_yielded s hg]) (by simp only [Oper.wp, hy a w s t, Oper.upon]; exact h _ w (s.put d v hd) t)

theorem J.guardN {ops : Array Oper} {rest : List Oper} {d : Nat} {op : Op} {ty : TypeId} {pos : String} {aft : Array Edge} {j : Nat} {b b' : Bool}
    (hg : gv ops σ j = some b') (hb : (b' == b) = false) (hd : Nat.blt d n.sz = true) (h : J c n ((d, undef) :: σ) M L (wpList P ops Q rest)) :
    J c n σ M L (wpList P ops Q (⟨some d, op, ty, pos, aft, some (j, b)⟩ :: rest)) := fun a w s t => by
  unfold wpList
  rw [if_neg (by simp [Region.wanted, gv_yielded s hg, hb])]
  exact h _ w (s.put d undef hd) t

theorem Sub.over {n : Sz} {σ : Fr} {a : Act} (h : Sub n σ a) {d : Nat} {v : Value} (hv : a.tmps[d]? = some v) : Sub n ((d, v) :: σ) a :=
  ⟨h.defers, h.size, fun t u ht => by
    simp only [lk] at ht
    by_cases e : t = d
    · subst e; simp at ht; subst ht; exact hv
    · rw [beq_ne e] at ht; exact h.slot t u ht⟩

/-- the guard is not decided: part -/
theorem J.guard {ops : Array Oper} {rest : List Oper} {d : Option Tmp} {op : Op} {ty : TypeId} {pos : String} {aft : Array Edge} {j dj : Nat} {b' b : Bool}
    (_ : (ops[j]?).bind (·.dst) = some dj) (hg : lk σ dj = some (.bool b')) (ht : b' = true → J c n ((dj, .bool true) :: σ) M L (wpList P ops Q (⟨d, op, ty, pos, aft, some (j, b)⟩ :: rest)))
    (hf : b' = false → J c n ((dj, .bool false) :: σ) M L (wpList P ops Q (⟨d, op, ty, pos, aft, some (j, b)⟩ :: rest))) :
    J c n σ M L (wpList P ops Q (⟨d, op, ty, pos, aft, some (j, b)⟩ :: rest)) := by
  cases b'
  · exact fun a w s t => hf rfl a w (s.over (s.slot _ _ hg)) t
  · exact fun a w s t => ht rfl a w (s.over (s.slot _ _ hg)) t

theorem J.guardD {ops : Array Oper} {rest : List Oper} {d : Option Tmp} {op : Op} {ty : TypeId} {pos : String} {aft : Array Edge} {j dj : Nat} {p : Prop} {_ : Decidable p} {b : Bool}
    (hd : (ops[j]?).bind (·.dst) = some dj) (hg : lk σ dj = some (.bool (decide p))) (ht : p → J c n ((dj, .bool true) :: σ) M L (wpList P ops Q (⟨d, op, ty, pos, aft, some (j, b)⟩ :: rest)))
    (hf : ¬ p → J c n ((dj, .bool false) :: σ) M L (wpList P ops Q (⟨d, op, ty, pos, aft, some (j, b)⟩ :: rest))) :
    J c n σ M L (wpList P ops Q (⟨d, op, ty, pos, aft, some (j, b)⟩ :: rest)) :=
  J.guard hd hg (fun h => ht (of_decide_eq_true h)) (fun h => hf (of_decide_eq_false h))

theorem J.condD {x : Operand} {th el : Code} {p : Prop} {_ : Decidable p} (hx : ev σ x = some (.bool (decide p))) (ht : p → J c n σ M L (th.wpr rd P Q)) (hf : ¬ p → J c n σ M L (el.wpr rd P Q)) :
    J c n σ M L ((Code.cond x th el).wpr rd P Q) := J.cond hx (fun h => ht (of_decide_eq_true h)) (fun h => hf (of_decide_eq_false h))

end rules
end Go.Sx
end
section
set_option linter.unusedVariables false
set_option linter.unusedSimpArgs false
set_option linter.unusedVariables false
set_option linter.unusedSimpArgs false
namespace Go.Sx
open Go.RowKit
/-! ## The table of types -/
structure Ty where
  desc : TypeDesc
  size : Nat
  bytes : Nat
  zero : Value

structure TyOk (P : Program) (T : Nat) (d : Ty) : Prop where
  und : P.underlying T = some d.desc
  info : ∃ i, P.info? T = some i ∧ i.size = d.size ∧ i.bytes = d.bytes ∧ i.zero = some d.zero

class Tab (P : Program) where
  tab : Nat → Option Ty
  ok : ∀ {T d}, tab T = some d → TyOk P T d

section
variable {P : Program} {T : Nat} {d : Ty} (w : World)
theorem TyOk.run_und (h : TyOk P T d) : (underlying T).run P w = .ok d.desc w := run_underlying h.und w
theorem TyOk.run_size (h : TyOk P T d) : (sizeOf T).run P w = .ok d.size w := by
  obtain ⟨i, hi, hs, _, _⟩ := h.info
  simp [sizeOf, typeInfo, hi, hs]
theorem TyOk.run_zero (h : TyOk P T d) : (zeroValue T).run P w = .ok d.zero w := by
  obtain ⟨i, hi, _, _, hz⟩ := h.info
  simp [zeroValue, typeInfo, hi, hz]
def aggD : TypeDesc → Bool
  | .struct _ | .array _ _ => true
  | _ => false
theorem TyOk.run_agg (h : TyOk P T d) : (isAgg T).run P w = .ok (aggD d.desc) w := by
  simp only [isAgg]
  simp [h.run_und w]
  cases d.desc <;> rfl
end
/-! ## Operations that only compute -/
section
variable {P : Program} {rd : Option Nat} {c : Ctx} {n : Sz} {σ : Fr} {M L : List Fact}
variable {d : Option Tmp} {ty : TypeId} {pos : String} {aft : Array Edge} {g : Option (Nat × Bool)}
theorem Y.move {x : Operand} {v : Value} (hx : ev σ x = some v) : Y P c n σ M L ⟨d, .move x, ty, pos, aft, g⟩ v := fun a w s _ => by
  simp [execOp, s.eval hx]
theorem Y.assign {x : Operand} {v : Value} (hx : ev σ x = some v) : Y P c n σ M L ⟨d, .assign x, ty, pos, aft, g⟩ v := fun a w s _ => by
  simp [execOp, s.eval hx]
theorem Y.pickT {x y z : Operand} {v : Value} (hx : ev σ x = some (.bool true)) (hy : ev σ y = some v) : Y P c n σ M L ⟨d, .pick x y z, ty, pos, aft, g⟩ v := fun a w s _ => by
  simp [execOp, s.eval hx, s.eval hy, asBool]
theorem Y.pickF {x y z : Operand} {v : Value} (hx : ev σ x = some (.bool false)) (hy : ev σ z = some v) : Y P c n σ M L ⟨d, .pick x y z, ty, pos, aft, g⟩ v := fun a w s _ => by
  simp [execOp, s.eval hx, s.eval hy, asBool]
theorem Y.pick {x y z : Operand} {b : Bool} {u v : Value} (hx : ev σ x = some (.bool b)) (hy : ev σ y = some u) (hz : ev σ z = some v) :
    Y P c n σ M L ⟨d, .pick x y z, ty, pos, aft, g⟩ (if b then u else v) := fun a w s _ => by
  cases b <;> simp [execOp, s.eval hx, s.eval hy, s.eval hz, asBool]

theorem wrap64_in {x : Int} (h1 : -9223372036854775808 ≤ x) (h2 : x ≤ 9223372036854775807) : IntKind.i64.wrap x = x := by
  unfold IntKind.wrap
  simp only [IntKind.bits, IntKind.signed]
  simp
  omega

theorem guard_int {op : BinOp} {t : TypeId} {x y : Operand} {k k' : IntKind} {p q : Int} (w : World) : (eqGuard op t x y (.int k p) (.int k' q)).run P w = .ok () w := by
  unfold eqGuard
  cases op <;> simp

theorem Y.add {t t' : TypeId} {x y : Operand} {p q : Int} (hx : ev σ x = some (.int .i64 p)) (hy : ev σ y = some (.int .i64 q)) (h1 : -9223372036854775808 ≤ p + q) (h2 : p + q ≤ 9223372036854775807) :
    Y P c n σ M L ⟨d, .binOp .add t x y t', ty, pos, aft, g⟩ (.int .i64 (p + q)) := fun a w s _ => by
  simp [execOp, s.eval hx, s.eval hy, binOp, Op.intArith, guard_int, wrap64_in h1 h2]
theorem Y.sub {t t' : TypeId} {x y : Operand} {p q : Int} (hx : ev σ x = some (.int .i64 p)) (hy : ev σ y = some (.int .i64 q)) (h1 : -9223372036854775808 ≤ p - q) (h2 : p - q ≤ 9223372036854775807) :
    Y P c n σ M L ⟨d, .binOp .sub t x y t', ty, pos, aft, g⟩ (.int .i64 (p - q)) := fun a w s _ => by
  simp [execOp, s.eval hx, s.eval hy, binOp, Op.intArith, guard_int, wrap64_in h1 h2]
theorem Y.mul {t t' : TypeId} {x y : Operand} {p q : Int} (hx : ev σ x = some (.int .i64 p)) (hy : ev σ y = some (.int .i64 q)) (h1 : -9223372036854775808 ≤ p * q) (h2 : p * q ≤ 9223372036854775807) :
    Y P c n σ M L ⟨d, .binOp .mul t x y t', ty, pos, aft, g⟩ (.int .i64 (p * q)) := fun a w s _ => by
  simp [execOp, s.eval hx, s.eval hy, binOp, Op.intArith, guard_int, wrap64_in h1 h2]
theorem Y.rem {t t' : TypeId} {x y : Operand} {k : IntKind} {p q : Int} (hx : ev σ x = some (.int k p)) (hy : ev σ y = some (.int k q)) (h : q ≠ 0) :
    Y P c n σ M L ⟨d, .binOp .rem t x y t', ty, pos, aft, g⟩ (.int k (p.tmod q)) := fun a w s _ => by
  simp [execOp, s.eval hx, s.eval hy, binOp, Op.intDiv, guard_int, h]
theorem Y.quo {t t' : TypeId} {x y : Operand} {p q : Int} (hx : ev σ x = some (.int .i64 p)) (hy : ev σ y = some (.int .i64 q)) (h : q ≠ 0) (h1 : -9223372036854775808 ≤ p.tdiv q) (h2 : p.tdiv q ≤ 9223372036854775807) :
    Y P c n σ M L ⟨d, .binOp .quo t x y t', ty, pos, aft, g⟩ (.int .i64 (p.tdiv q)) := fun a w s _ => by
  simp [execOp, s.eval hx, s.eval hy, binOp, Op.intDiv, guard_int, h, wrap64_in h1 h2]

theorem Y.lss {t t' : TypeId} {x y : Operand} {k : IntKind} {p q : Int} (hx : ev σ x = some (.int k p)) (hy : ev σ y = some (.int k q)) :
    Y P c n σ M L ⟨d, .binOp .lss t x y t', ty, pos, aft, g⟩ (.bool (decide (p < q))) := fun a w s _ => by
  simp [execOp, s.eval hx, s.eval hy, binOp, Op.intCmp, guard_int]
theorem Y.leq {t t' : TypeId} {x y : Operand} {k : IntKind} {p q : Int} (hx : ev σ x = some (.int k p)) (hy : ev σ y = some (.int k q)) :
    Y P c n σ M L ⟨d, .binOp .leq t x y t', ty, pos, aft, g⟩ (.bool (decide (p ≤ q))) := fun a w s _ => by
  simp [execOp, s.eval hx, s.eval hy, binOp, Op.intCmp, guard_int]
theorem Y.gtr {t t' : TypeId} {x y : Operand} {k : IntKind} {p q : Int} (hx : ev σ x = some (.int k p)) (hy : ev σ y = some (.int k q)) :
    Y P c n σ M L ⟨d, .binOp .gtr t x y t', ty, pos, aft, g⟩ (.bool (decide (q < p))) := fun a w s _ => by
  simp [execOp, s.eval hx, s.eval hy, binOp, Op.intCmp, guard_int]
theorem Y.geq {t t' : TypeId} {x y : Operand} {k : IntKind} {p q : Int} (hx : ev σ x = some (.int k p)) (hy : ev σ y = some (.int k q)) :
    Y P c n σ M L ⟨d, .binOp .geq t x y t', ty, pos, aft, g⟩ (.bool (decide (q ≤ p))) := fun a w s _ => by
  simp [execOp, s.eval hx, s.eval hy, binOp, Op.intCmp, guard_int]
theorem Y.eql {t t' : TypeId} {x y : Operand} {k : IntKind} {p q : Int} (hx : ev σ x = some (.int k p)) (hy : ev σ y = some (.int k q)) :
    Y P c n σ M L ⟨d, .binOp .eql t x y t', ty, pos, aft, g⟩ (.bool (decide (p = q))) := fun a w s _ => by
  simp [execOp, s.eval hx, s.eval hy, binOp, Op.intCmp, guard_int]
  by_cases h : p = q <;> simp [h]
theorem Y.neq {t t' : TypeId} {x y : Operand} {k : IntKind} {p q : Int} (hx : ev σ x = some (.int k p)) (hy : ev σ y = some (.int k q)) :
    Y P c n σ M L ⟨d, .binOp .neq t x y t', ty, pos, aft, g⟩ (.bool (decide (p ≠ q))) := fun a w s _ => by
  simp [execOp, s.eval hx, s.eval hy, binOp, Op.intCmp, guard_int]
  by_cases h : p = q <;> simp [h]
theorem Y.not {t : TypeId} {x : Operand} {b : Bool} (hx : ev σ x = some (.bool b)) : Y P c n σ M L ⟨d, .unOp .not t x, ty, pos, aft, g⟩ (.bool (!b)) := fun a w s _ => by
  simp [execOp, s.eval hx, Op.unary]
theorem Y.notD {t : TypeId} {x : Operand} {p : Prop} {_ : Decidable p} (hx : ev σ x = some (.bool (decide p))) : Y P c n σ M L ⟨d, .unOp .not t x, ty, pos, aft, g⟩ (.bool (decide (¬ p))) := fun a w s _ => by
  simp [execOp, s.eval hx, Op.unary]
theorem Y.extract {x : Operand} {vs : List Value} {i : Nat} {v : Value} (hx : ev σ x = some (.tuple vs.toArray)) (hv : vs[i]? = some v) : Y P c n σ M L ⟨d, .extract x i, ty, pos, aft, g⟩ v := fun a w s _ => by
  simp [execOp, s.eval hx, Instr.extract, hv]
theorem Y.max {t t' : TypeId} {x y : Operand} {k : IntKind} {p q : Int} (hx : ev σ x = some (.int k p)) (hy : ev σ y = some (.int k q)) :
    Y P c n σ M L ⟨d, .call ⟨.builtin .max, #[x, y], #[t, t']⟩, ty, pos, aft, g⟩ (.int k (max p q)) := fun a w s _ => by
  simp [execOp, resolve, invoke, builtin, s.eval hx, s.eval hy, Builtin.max_, Builtin.max2]
  split <;> omega
theorem Y.min {t t' : TypeId} {x y : Operand} {k : IntKind} {p q : Int} (hx : ev σ x = some (.int k p)) (hy : ev σ y = some (.int k q)) :
    Y P c n σ M L ⟨d, .call ⟨.builtin .min, #[x, y], #[t, t']⟩, ty, pos, aft, g⟩ (.int k (min p q)) := fun a w s _ => by
  simp [execOp, resolve, invoke, builtin, s.eval hx, s.eval hy, Builtin.min_, Builtin.min2]
  split <;> omega
theorem Y.makeFunc {fn : Fn} {cs : List Operand} {vs : List Value} (hc : cs.map (ev σ) = vs.map some) : Y P c n σ M L ⟨d, .makeFunc fn #[] cs.toArray, ty, pos, aft, g⟩ (.func fn #[] vs.toArray) := fun a w s _ => by
  have : cs.map a.eval = vs := by
    induction cs generalizing vs with
    | nil => cases vs <;> simp_all
    | cons x cs ih =>
      cases vs with
      | nil => simp at hc
      | cons v vs => simp at hc; simp [s.eval hc.1, ih hc.2]
  simp [execOp, Instr.makeFunc, this]
end
end Go.Sx
end
section
set_option linter.unusedVariables false
set_option linter.unusedSimpArgs false
set_option linter.unusedVariables false
set_option linter.unusedSimpArgs false
namespace Go.Sx
open Go.RowKit
/-! ## Lists by an integer -/
def at' {α : Type} [Inhabited α] (xs : List α) (i : Int) : α := xs.getD i.toNat default

theorem at'_some {α : Type} [Inhabited α] {xs : List α} {i : Int} (h0 : 0 ≤ i) (h : i < xs.length) : xs[i.toNat]? = some (at' xs i) := by
  unfold at'
  rw [List.getD_eq_getElem?_getD, List.getElem?_eq_getElem (by omega)]
  rfl

theorem at'_nat {α : Type} [Inhabited α] (xs : List α) (i : Nat) : at' xs (i : Int) = xs.getD i default := by simp [at']

/-! ## Addresses inside a slice -/
def elA (v : Value) (o : Nat) : Addr := match v with
  | .slice (some a) _ _ => a.add o
  | _ => ⟨0, o, none⟩

def elq (v : Value) (o : Nat) : Value := .pointer (some (elA v o))

theorem Addr.add_add (a : Addr) (o p : Nat) : (a.add o).add p = a.add (o + p) := by
  unfold Addr.add
  by_cases h1 : o = 0 <;> by_cases h2 : p = 0 <;> simp [h1, h2, Nat.add_assoc]

theorem elA_add (v : Value) (o p : Nat) : (elA v o).add p = elA v (o + p) := by
  unfold elA
  split
  · exact Addr.add_add _ _ _
  · unfold Addr.add; split <;> simp_all

theorem add_none (b off o : Nat) : (⟨b, off, none⟩ : Addr).add o = ⟨b, off + o, none⟩ := by
  unfold Addr.add; split <;> simp_all

/-! ## A block of the call's own -/
def Blk (b : Nat) (cs : List Value) (T : TypeId) : Fact where
  p w F := F b ∧ w.heap[b]? = some (.cells cs.toArray T (0, 0))
  mono := fun ⟨h1, h2⟩ h => by
    obtain ⟨h3, h4⟩ := h b h1 (Array.getElem?_eq_some_iff.1 h2).1
    exact ⟨h3, by rw [h4]; exact h2⟩

theorem Blk.cell {b : Nat} {cs : List Value} {T : TypeId} {w : World} {F : Nat → Prop} (h : (Blk b cs T).p w F) {o : Nat} {v : Value} (hv : cs[o]? = some v) : w.cell? ⟨b, o, none⟩ = some v := by
  simp [World.cell?, h.2, hv]

theorem Blk.free {b : Nat} {cs : List Value} {T : TypeId} {w : World} {F : Nat → Prop} (h : (Blk b cs T).p w F) (o : Nat) : w.frozen? ⟨b, o, none⟩ = false := by
  simp [World.frozen?, h.2]

theorem St.res {c : Ctx} {M L : List Fact} {w : World} (t : St c M L w) {i : Nat} {m : Fact} (h : M[i]? = some m) : ∃ F, m.p w F := by
  obtain ⟨_, F, hF, _⟩ := t
  exact ⟨_, hF.res i m h⟩

theorem St.fact {c : Ctx} {M L : List Fact} {w : World} (t : St c M L w) {f : Fact} (h : f ∈ L) : ∃ S, f.p w S := by
  obtain ⟨_, F, _, hL⟩ := t
  exact ⟨_, hL f h⟩

/-! ## How cells represent data -/
structure Rep (α : Type) where
  sz : Nat
  pos : 0 < sz
  R : World → (Nat → Prop) → List Value → α → Prop
  len : ∀ {w S cs x}, R w S cs x → cs.length = sz
  mono : ∀ {w w' : World} {S S' : Nat → Prop} {cs x}, R w S cs x → (∀ k, S k → k < w.heap.size → S' k ∧ w'.heap[k]? = w.heap[k]?) → R w' S' cs x

def SlR {α : Type} (r : Rep α) (w : World) (S : Nat → Prop) (v : Value) (xs : List α) : Prop :=
  ∃ a cap, v = .slice a xs.length cap ∧ (xs.length ≤ 9223372036854775807 ∧ xs.length ≤ cap) ∧ (xs = [] ∨ ∃ b off, a = some ⟨b, off, none⟩ ∧ S b ∧
    ∀ i x, xs[i]? = some x → ∃ es, (∀ j e, es[j]? = some e → w.cell? ⟨b, off + (i * r.sz + j), none⟩ = some e) ∧ r.R w S es x)

theorem cell_same {w w' : World} {b o : Nat} {e : Value} (h : w.cell? ⟨b, o, none⟩ = some e) (hs : w'.heap[b]? = w.heap[b]?) : w'.cell? ⟨b, o, none⟩ = some e := by
  rw [← h]; exact World.cell?_of_block hs

theorem lt_of_cell {w : World} {b o : Nat} {e : Value} (h : w.cell? ⟨b, o, none⟩ = some e) : b < w.heap.size := World.block_lt_of_cell? w _ h

theorem SlR.mono {α : Type} {r : Rep α} {w w' : World} {S S' : Nat → Prop} {v : Value} {xs : List α} (h : SlR r w S v xs)
    (e : ∀ k, S k → k < w.heap.size → S' k ∧ w'.heap[k]? = w.heap[k]?) : SlR r w' S' v xs := by
  obtain ⟨a, cap, hv, hb, h⟩ := h
  refine ⟨a, cap, hv, hb, ?_⟩
  rcases h with h | ⟨b, off, ha, hS, h⟩
  · exact .inl h
  · cases xs with
    | nil => exact .inl rfl
    | cons x0 xs =>
      obtain ⟨es, hes, hr⟩ := h 0 x0 rfl
      have hl := r.len hr
      have hsz := r.pos
      have h0 : es[0]? = some (es[0]'(by omega)) := List.getElem?_eq_getElem _
      have hlt := lt_of_cell (hes 0 _ h0)
      obtain ⟨hS', hw⟩ := e b hS hlt
      refine .inr ⟨b, off, ha, hS', fun i x hx => ?_⟩
      obtain ⟨es, hes, hr⟩ := h i x hx
      exact ⟨es, fun j u hu => cell_same (hes j u hu) hw, r.mono hr e⟩

def Sl {α : Type} (r : Rep α) (v : Value) (xs : List α) : Fact where
  p w S := SlR r w S v xs
  mono := fun h e => h.mono e

def Rep.int (k : IntKind) : Rep Int where
  sz := 1
  pos := Nat.one_pos
  R _ _ cs x := cs = [.int k x]
  len h := by simp [h]
  mono h _ := h

def Rep.bool : Rep Bool where
  sz := 1
  pos := Nat.one_pos
  R _ _ cs x := cs = [.bool x]
  len h := by simp [h]
  mono h _ := h

/-- a slice as an element: its value beside its data -/
def Rep.sl {α : Type} (r : Rep α) : Rep (Value × List α) where
  sz := 1
  pos := Nat.one_pos
  R w S cs x := cs = [x.1] ∧ SlR r w S x.1 x.2
  len h := by simp [h.1]
  mono h e := ⟨h.1, h.2.mono e⟩

def Rep.pair {α β : Type} (r : Rep α) (s : Rep β) : Rep (α × β) where
  sz := r.sz + s.sz
  pos := Nat.lt_of_lt_of_le r.pos (Nat.le_add_right _ _)
  R w S cs x := ∃ c1 c2, cs = c1 ++ c2 ∧ r.R w S c1 x.1 ∧ s.R w S c2 x.2
  len h := by obtain ⟨c1, c2, hc, h1, h2⟩ := h; simp [hc, r.len h1, s.len h2]
  mono h e := by obtain ⟨c1, c2, hc, h1, h2⟩ := h; exact ⟨c1, c2, hc, r.mono h1 e, s.mono h2 e⟩

/-- cell j of a datum that r represents -/
def Rep.Cell {α : Type} (r : Rep α) (j : Nat) (f : α → Value) : Prop := ∀ {w S es x}, r.R w S es x → es[j]? = some (f x)

theorem Rep.int_cell (k : IntKind) : (Rep.int k).Cell 0 (fun x => .int k x) := fun h => by simp [show _ = [_] from h]
theorem Rep.sl_cell {α : Type} (r : Rep α) : (Rep.sl r).Cell 0 (fun x => x.1) := fun h => by simp [h.1]
theorem Rep.pair_cell1 {α β : Type} {r : Rep α} {s : Rep β} {j : Nat} {f : α → Value} (h : r.Cell j f) : (r.pair s).Cell j (fun x => f x.1) := by
  rintro w S es x ⟨c1, c2, rfl, h1, _⟩
  have := h h1
  rw [List.getElem?_append_left (by
    rcases Nat.lt_or_ge j c1.length with h' | h'
    · exact h'
    · rw [List.getElem?_eq_none h'] at this; cases this)]
  exact this
theorem Rep.pair_cell2 {α β : Type} {r : Rep α} {s : Rep β} {j : Nat} {f : β → Value} (h : s.Cell j f) : (r.pair s).Cell (r.sz + j) (fun x => f x.2) := by
  rintro w S es x ⟨c1, c2, rfl, h1, h2⟩
  rw [List.getElem?_append_right (by rw [r.len h1]; omega), r.len h1, Nat.add_sub_cancel_left]
  exact h h2

/-! ## Operations on slices that are read -/
section
variable {P : Program} {rd : Option Nat} {c : Ctx} {n : Sz} {σ : Fr} {M L : List Fact}
variable {d : Option Tmp} {ty : TypeId} {pos : String} {aft : Array Edge} {g : Option (Nat × Bool)}
variable {α : Type} {r : Rep α}
theorem run_len {T : TypeId} {dT : Ty} {E : TypeId} (w : World) (hT : TyOk P T dT) (hd : dT.desc = .slice E) (a : Option Addr) (k cap : Nat) (ty : TypeId) :
    (Builtin.len_ #[T] ty #[.slice a k cap]).run P w = .ok (.int .i64 k) w := by
  simp [Builtin.len_, hT.run_und w, hd, goInt]

theorem Y.len [Tab P] {T E : TypeId} {s1 s2 : Nat} {z : Value} {x : Operand} {v : Value} {xs : List α} (hx : ev σ x = some v) (hf : Sl r v xs ∈ L)
    (hT : Tab.tab P T = some ⟨.slice E, s1, s2, z⟩) : Y P c n σ M L ⟨d, .call ⟨.builtin .len, #[x], #[T]⟩, ty, pos, aft, g⟩ (.int .i64 xs.length) := fun a w s t => by
  obtain ⟨S, a', cap, hv, _, _⟩ := t.fact hf
  subst hv
  simp [execOp, resolve, invoke, builtin, s.eval hx, run_len w (Tab.ok hT) rfl]

theorem run_index {T : TypeId} {E : TypeId} {dT dE : Ty} (w : World) (hT : TyOk P T dT) (hd : dT.desc = .slice E) (hE : TyOk P E dE) (b off k cap : Nat) (i : Int) (h0 : 0 ≤ i) (h1 : i < k) :
    (Instr.indexAt T (.slice (some ⟨b, off, none⟩) k cap) (.int .i64 i)).run P w = .ok (elq (.slice (some ⟨b, off, none⟩) k cap) (i.toNat * dE.size)) w := by
  simp [Instr.indexAt, asIntOf, hT.run_und w, hd, hE.run_size w, h0, h1, elq, elA]

theorem Y.index [Tab P] {T E : TypeId} {s1 s2 s3 s4 : Nat} {z z' : Value} {dE : TypeDesc} {x y : Operand} {v : Value} {i : Int} {xs : List α} (hx : ev σ x = some v) (hy : ev σ y = some (.int .i64 i)) (hf : Sl r v xs ∈ L)
    (hT : Tab.tab P T = some ⟨.slice E, s1, s2, z⟩) (hE : Tab.tab P E = some ⟨dE, s3, s4, z'⟩) (h0 : 0 ≤ i) (h1 : i < xs.length) :
    Y P c n σ M L ⟨d, .indexAddr T x y, ty, pos, aft, g⟩ (elq v (i.toNat * s3)) := fun a w s t => by
  obtain ⟨S, a', cap, hv, _, h⟩ := t.fact hf
  rcases h with h | ⟨b, off, rfl, _, _⟩
  · subst h; simp at h1; omega
  · subst hv
    simp [execOp, s.eval hx, s.eval hy, run_index w (Tab.ok hT) rfl (Tab.ok hE) b off _ cap i h0 h1]

theorem Y.fieldEl [Tab P] {T : TypeId} {s1 s2 s3 s4 : Nat} {z z' : Value} {fs : Array Field} {nm tg pk : String} {em : Bool} {ft off bo : Nat} {dF : TypeDesc} {x : Operand} {v : Value} {o f : Nat} (hx : ev σ x = some (elq v o))
    (hT : Tab.tab P T = some ⟨.struct fs, s1, s2, z⟩) (hf : fs[f]? = some ⟨nm, ft, off, em, tg, pk, bo⟩) (hF : Tab.tab P ft = some ⟨dF, s3, s4, z'⟩) (h3 : (s3 == 0) = false) :
    Y P c n σ M L ⟨d, .fieldAddr T x f, ty, pos, aft, g⟩ (elq v (o + off)) := fun a w s t => by
  have hne : s3 ≠ 0 := by simpa using h3
  simp [execOp, s.eval hx, Instr.fieldAt, (Tab.ok hT).run_und w, hf, Instr.sureAddr, elq, fieldPlace, (Tab.ok hF).run_size w, hne, elA_add]

theorem run_load1 {T : TypeId} {dT : Ty} {w : World} (hT : TyOk P T dT) (hd : aggD dT.desc = false) {A : Addr} {e : Value} (h : w.cell? A = some e) :
    (Instr.loadAt T (.pointer (some A))).run P w = .ok e w := by
  simp [Instr.loadAt, Instr.sureAddr, loadVar, hT.run_agg w, hd, load, Sem.run, h]

theorem sl_cell {w : World} {S : Nat → Prop} {v : Value} {xs : List α} (h : SlR r w S v xs) {i : Nat} {x : α} (hx : xs[i]? = some x) :
    ∃ es, r.R w S es x ∧ ∀ j e, es[j]? = some e → w.cell? (elA v (i * r.sz + j)) = some e := by
  obtain ⟨a', cap, hv, _, h⟩ := h
  rcases h with h | ⟨b, off, rfl, _, h⟩
  · subst h; simp at hx
  · obtain ⟨es, hes, hr⟩ := h i x hx
    refine ⟨es, hr, fun j e he => ?_⟩
    subst hv
    simp only [elA, add_none]
    exact hes j e he

theorem Y.loadEl [Tab P] [Inhabited α] {T : TypeId} {s1 s2 : Nat} {z : Value} {dT : TypeDesc} {x : Operand} {v : Value} {i : Int} {xs : List α} {f : α → Value} (hx : ev σ x = some (elq v (i.toNat * s1))) (hf : Sl r v xs ∈ L)
    (hT : Tab.tab P T = some ⟨dT, s1, s2, z⟩) (hd : aggD dT = false) (hs : r.sz = s1) (hc : r.Cell 0 f) (h0 : 0 ≤ i) (h1 : i < xs.length) :
    Y P c n σ M L ⟨d, .load T x, ty, pos, aft, g⟩ (f (at' xs i)) := fun a w s t => by
  obtain ⟨S, h⟩ := t.fact hf
  obtain ⟨es, hr, hes⟩ := sl_cell h (at'_some h0 h1)
  have := hes 0 _ (hc hr)
  rw [hs, Nat.add_zero] at this
  simp [execOp, s.eval hx, elq, run_load1 (Tab.ok hT) hd this]

theorem Y.loadFd [Tab P] [Inhabited α] {T : TypeId} {s1 s2 q o : Nat} {z : Value} {dT : TypeDesc} {x : Operand} {v : Value} {i : Int} {xs : List α} {f : α → Value} (hx : ev σ x = some (elq v (i.toNat * q + o))) (hf : Sl r v xs ∈ L)
    (hT : Tab.tab P T = some ⟨dT, s1, s2, z⟩) (hd : aggD dT = false) (hs : r.sz = q) (hc : r.Cell o f) (h0 : 0 ≤ i) (h1 : i < xs.length) :
    Y P c n σ M L ⟨d, .load T x, ty, pos, aft, g⟩ (f (at' xs i)) := fun a w s t => by
  obtain ⟨S, h⟩ := t.fact hf
  obtain ⟨es, hr, hes⟩ := sl_cell h (at'_some h0 h1)
  have := hes o _ (hc hr)
  rw [hs] at this
  simp [execOp, s.eval hx, elq, run_load1 (Tab.ok hT) hd this]

/-- a slice that is an element of a slice -/
theorem J.el [Inhabited α] {v : Value} {i : Int} {xs : List (Value × List α)} {G : Act → World → Prop} (hf : Sl (Rep.sl r) v xs ∈ L) (h0 : 0 ≤ i) (h1 : i < xs.length)
    (h : J c n σ M (Sl r (at' xs i).1 (at' xs i).2 :: L) G) : J c n σ M L G := fun a w s t => h a w s (by
  obtain ⟨ho, F, hF, hL⟩ := t
  refine ⟨ho, F, hF, fun f hf' => ?_⟩
  rcases List.mem_cons.1 hf' with rfl | hf'
  · obtain ⟨es, hr, _⟩ := sl_cell (hL _ hf) (at'_some h0 h1)
    exact hr.2
  · exact hL f hf')

end
/-! ## Blocks of the call's own -/
section
variable {P : Program} {rd : Option Nat} {c : Ctx} {n : Sz} {σ : Fr} {M L : List Fact} {Q : Exit → Act → World → Prop} {ops : Array Oper} {rest : List Oper}
variable {d : Option Tmp} {D : Nat} {ty : TypeId} {pos : String} {aft : Array Edge} {g : Option (Nat × Bool)}
theorem Y.fieldB [Tab P] {T : TypeId} {s1 s2 s3 s4 : Nat} {z z' : Value} {fs : Array Field} {nm tg pk : String} {em : Bool} {ft off bo : Nat} {dF : TypeDesc} {x : Operand} {b o f : Nat} (hx : ev σ x = some (.pointer (some ⟨b, o, none⟩)))
    (hT : Tab.tab P T = some ⟨.struct fs, s1, s2, z⟩) (hf : fs[f]? = some ⟨nm, ft, off, em, tg, pk, bo⟩) (hF : Tab.tab P ft = some ⟨dF, s3, s4, z'⟩) (h3 : (s3 == 0) = false) :
    Y P c n σ M L ⟨d, .fieldAddr T x f, ty, pos, aft, g⟩ (.pointer (some ⟨b, o + off, none⟩)) := fun a w s t => by
  have hne : s3 ≠ 0 := by simpa using h3
  simp [execOp, s.eval hx, Instr.fieldAt, (Tab.ok hT).run_und w, hf, Instr.sureAddr, fieldPlace, (Tab.ok hF).run_size w, hne, add_none]

theorem Y.loadB [Tab P] (i : Nat) {T T' : TypeId} {s1 s2 : Nat} {z : Value} {dT : TypeDesc} {x : Operand} {b o : Nat} {cs : List Value} {v : Value} (hx : ev σ x = some (.pointer (some ⟨b, o, none⟩)))
    (hM : M[i]? = some (Blk b cs T')) (hT : Tab.tab P T = some ⟨dT, s1, s2, z⟩) (hd : aggD dT = false) (hv : cs[o]? = some v) :
    Y P c n σ M L ⟨d, .load T x, ty, pos, aft, g⟩ v := fun a w s t => by
  obtain ⟨F, hF⟩ := t.res hM
  simp [execOp, s.eval hx, run_load1 (Tab.ok hT) hd (Blk.cell hF hv)]

theorem run_loadAll {T : TypeId} {dT : Ty} {w : World} (hT : TyOk P T dT) (hd : aggD dT.desc = true) {A : Addr} {cs : List Value} (hl : cs.length = dT.size) (h : ∀ j v, cs[j]? = some v → w.cell? (A.add j) = some v) :
    (Instr.loadAt T (.pointer (some A))).run P w = .ok (.agg cs.toArray) w := by
  have := run_loadCells_list (P := P) w A cs h
  simp [Instr.loadAt, Instr.sureAddr, loadVar, hT.run_agg w, hd, hT.run_size w, ← hl, this]

theorem Y.loadBAll [Tab P] (i : Nat) {T T' : TypeId} {s2 : Nat} {z : Value} {dT : TypeDesc} {x : Operand} {b : Nat} {cs : List Value} (hx : ev σ x = some (.pointer (some ⟨b, 0, none⟩)))
    (hM : M[i]? = some (Blk b cs T')) (hT : Tab.tab P T = some ⟨dT, cs.length, s2, z⟩) (hd : aggD dT = true) :
    Y P c n σ M L ⟨d, .load T x, ty, pos, aft, g⟩ (.agg cs.toArray) := fun a w s t => by
  obtain ⟨F, hF⟩ := t.res hM
  have := run_loadAll (w := w) (A := ⟨b, 0, none⟩) (cs := cs) (Tab.ok hT) hd rfl (fun j v hv => by rw [add_none, Nat.zero_add]; exact Blk.cell hF hv)
  simp [execOp, s.eval hx, this]

/-- a new block -/
theorem St.alloc {w : World} (t : St c M L w) (cs : List Value) (T : TypeId) : St c (Blk w.heap.size cs T :: M) L (w.alloc (.cells cs.toArray T)) := by
  have e : Ext w (w.alloc (.cells cs.toArray T)) := (Below.refl _ _).alloc (Nat.le_refl _) _
  obtain ⟨ho, F, hF, hL⟩ := t
  have hb : ∀ k, k < w.heap.size → (w.alloc (.cells cs.toArray T)).heap[k]? = w.heap[k]? := e.block
  refine ⟨ho.trans e, fun i k => match i with | 0 => k = w.heap.size | i + 1 => F i k, ⟨?_, ?_, ?_⟩, fun f hf => ?_⟩
  · intro i m hm
    cases i with
    | zero =>
      simp at hm; subst hm
      exact ⟨rfl, heap_alloc_new w _⟩
    | succ i => exact Fact.same (hF.res i m (by simpa using hm)) (fun _ h => h) (fun k _ hl => hb k hl)
  · intro i k hk
    cases i with
    | zero => subst hk; exact ⟨.inl ho.size, by simp⟩
    | succ i => exact ⟨(hF.rng i k hk).1, Nat.lt_of_lt_of_le (hF.rng i k hk).2 e.size⟩
  · intro i j k hi hj
    cases i with
    | zero =>
      cases j with
      | zero => rfl
      | succ j => have := (hF.rng j k hj).2; simp only at hi; omega
    | succ i =>
      cases j with
      | zero => have := (hF.rng i k hi).2; simp only at hj; omega
      | succ j => exact congrArg (· + 1) (hF.dis i j k hi hj)
  · exact f.mono (hL f hf) fun k hk hl => ⟨⟨hk.1, fun i hi => by
      cases i with
      | zero => simp only at hi; omega
      | succ i => exact hk.2 i hi⟩, hb k hl⟩

theorem run_alloc {T : TypeId} {dT : Ty} (w : World) (hT : TyOk P T dT) : (Instr.alloc T true (.tuple #[])).run P w = .ok (.pointer (some ⟨w.heap.size, 0, none⟩)) (w.alloc (.cells dT.zero.cells T)) := by
  simp [Instr.alloc, hT.run_zero w, newVar, newRow]

theorem J.alloc [Tab P] {T : TypeId} {dT : Ty} {cs : List Value} (hT : Tab.tab P T = some dT) (hz : dT.zero.cells = cs.toArray) (hD : Nat.blt D n.sz = true)
    (h : ∀ b, J c n ((D, .pointer (some ⟨b, 0, none⟩)) :: σ) (Blk b cs T :: M) L (wpList P ops Q rest)) :
    J c n σ M L (wpList P ops Q (⟨some D, .alloc T, ty, pos, aft, none⟩ :: rest)) := fun a w s t => by
  refine wpList_take rfl ?_
  have hrun : (execOp a.eval ⟨some D, .alloc T, ty, pos, aft, none⟩).run P w = .ok (.value (.pointer (some ⟨w.heap.size, 0, none⟩))) (w.alloc (.cells cs.toArray T)) := by
    simp [execOp, run_alloc w (Tab.ok hT), hz]
  simp only [Oper.wp, hrun, Oper.upon]
  exact h _ _ _ (s.put D _ hD) (t.alloc cs T)

theorem J.box {T : TypeId} {x : Operand} {v : Value} {cs : List Value} (hx : ev σ x = some v) (hz : v.cells = cs.toArray) (hD : Nat.blt D n.sz = true)
    (h : ∀ b, J c n ((D, .pointer (some ⟨b, 0, none⟩)) :: σ) (Blk b cs T :: M) L (wpList P ops Q rest)) :
    J c n σ M L (wpList P ops Q (⟨some D, .box T x, ty, pos, aft, none⟩ :: rest)) := fun a w s t => by
  refine wpList_take rfl ?_
  have hrun : (execOp a.eval ⟨some D, .box T x, ty, pos, aft, none⟩).run P w = .ok (.value (.pointer (some ⟨w.heap.size, 0, none⟩))) (w.alloc (.cells cs.toArray T)) := by
    simp [execOp, s.eval hx, Instr.box, newVar, newRow, hz]
  simp only [Oper.wp, hrun, Oper.upon]
  exact h _ _ _ (s.put D _ hD) (t.alloc cs T)

/-- one resource is changed, in its own blocks alone -/
theorem St.updF {w w' : World} {F : Nat → Nat → Prop} (ho : Kept c.O c.w0 w) (hF : Own c w M F) (hL : ∀ f ∈ L, f.p w (Free c F)) {i : Nat} {m m' : Fact} (hi : M[i]? = some m) (hos : w'.os = w.os) (htp : w'.tape = w.tape) (hout : w'.output = w.output) (hsz : w.heap.size ≤ w'.heap.size)
    (hb : ∀ k, k < w.heap.size → ¬ F i k → w'.heap[k]? = w.heap[k]?) {F' : Nat → Prop} (hF' : m'.p w' F') (hsub : ∀ k, F' k → F i k ∨ (w.heap.size ≤ k ∧ k < w'.heap.size)) : St c (M.set i m') L w' := by
  refine ⟨⟨hos.trans ho.os, htp.trans ho.tape, hout.trans ho.output, Nat.le_trans ho.size hsz, fun k hk hO => (hb k (Nat.lt_of_lt_of_le hk ho.size) (fun hk' => (hF.rng i k hk').1.elim (fun h => by omega) hO)).trans (ho.block k hk hO)⟩, fun j k => (j = i ∧ F' k) ∨ (j ≠ i ∧ F j k), ⟨?_, ?_, ?_⟩, fun f hf => ?_⟩
  · intro j m2 hm
    by_cases e : j = i
    · subst e
      have hlt : j < M.length := by
        rcases Nat.lt_or_ge j M.length with h' | h'
        · exact h'
        · rw [List.getElem?_eq_none h'] at hi; cases hi
      rw [List.getElem?_set_self hlt] at hm
      cases hm
      exact Fact.same hF' (fun k hk => .inl ⟨rfl, hk⟩) (fun _ _ _ => rfl)
    · rw [List.getElem?_set_ne (Ne.symm e)] at hm
      exact Fact.same (hF.res j m2 hm) (fun k hk => .inr ⟨e, hk⟩) (fun k hk hl => hb k hl (fun hi' => e (hF.dis j i k hk hi')))
  · rintro j k (⟨_, hk⟩ | ⟨_, hk⟩)
    · rcases hsub k hk with hk | ⟨h1, h2⟩
      · exact ⟨(hF.rng i k hk).1, Nat.lt_of_lt_of_le (hF.rng i k hk).2 hsz⟩
      · exact ⟨.inl (Nat.le_trans ho.size h1), h2⟩
    · exact ⟨(hF.rng j k hk).1, Nat.lt_of_lt_of_le (hF.rng j k hk).2 hsz⟩
  · rintro j1 j2 k (⟨e1, h1⟩ | ⟨e1, h1⟩) (⟨e2, h2⟩ | ⟨e2, h2⟩)
    · rw [e1, e2]
    · rcases hsub k h1 with h1 | ⟨h1, _⟩
      · exact absurd (hF.dis _ _ k h2 h1) e2
      · have := (hF.rng _ k h2).2; omega
    · rcases hsub k h2 with h2 | ⟨h2, _⟩
      · exact absurd (hF.dis _ _ k h1 h2) e1
      · have := (hF.rng _ k h1).2; omega
    · exact hF.dis _ _ k h1 h2
  · exact f.mono (hL f hf) fun k hk hl => ⟨⟨hk.1, by
      rintro j (⟨_, h'⟩ | ⟨_, h'⟩)
      · rcases hsub k h' with h' | ⟨h', _⟩
        · exact hk.2 _ h'
        · omega
      · exact hk.2 _ h'⟩, hb k hl (hk.2 i)⟩

theorem St.upd {w w' : World} (t : St c M L w) {i : Nat} {m m' : Fact} (hi : M[i]? = some m) (hos : w'.os = w.os) (htp : w'.tape = w.tape) (hout : w'.output = w.output) (hsz : w.heap.size ≤ w'.heap.size)
    (h : ∀ F, m.p w F → (∀ k, F k → c.mine k ∧ k < w.heap.size) → (∀ k, k < w.heap.size → ¬ F k → w'.heap[k]? = w.heap[k]?) ∧ ∃ F', m'.p w' F' ∧ ∀ k, F' k → F k ∨ (w.heap.size ≤ k ∧ k < w'.heap.size)) :
    St c (M.set i m') L w' := by
  obtain ⟨ho, F, hF, hL⟩ := t
  obtain ⟨hb, F', hF', hsub⟩ := h (F i) (hF.res i m hi) (hF.rng i)
  exact St.updF ho hF hL hi hos htp hout hsz hb hF' hsub
end
end Go.Sx
end
section
set_option linter.unusedVariables false
set_option linter.unusedSimpArgs false
set_option linter.unusedVariables false
set_option linter.unusedSimpArgs false
namespace Go.Sx
open Go.RowKit
section
variable {P : Program} {rd : Option Nat} {c : Ctx} {n : Sz} {σ : Fr} {M L : List Fact} {Q : Exit → Act → World → Prop} {ops : Array Oper} {rest : List Oper}
variable {d : Option Tmp} {D : Nat} {ty : TypeId} {pos : String} {aft : Array Edge} {g : Option (Nat × Bool)}
/-- a value of one cell -/
def one : Value → Bool
  | .agg _ | .tuple _ => false
  | _ => true

@[simp] theorem one_slice (a : Option Addr) (k c : Nat) : one (.slice a k c) = true := rfl
@[simp] theorem one_int (k : IntKind) (x : Int) : one (.int k x) = true := rfl
theorem one_cells {v : Value} (h : one v = true) : v.cells = #[v] := by cases v <;> first | rfl | cases h
theorem one_oneCell {v : Value} (h : one v = true) : v.oneCell' = true := by cases v <;> first | rfl | cases h

theorem heap_setCell_same {w : World} {b o : Nat} {cs : List Value} {T : TypeId} (h : w.heap[b]? = some (.cells cs.toArray T (0, 0))) (v : Value) :
    (w.setCell ⟨b, o, none⟩ v).heap[b]? = some (.cells (cs.set o v).toArray T (0, 0)) := by
  simp [World.setCell, Array.getElem?_modify, h]

theorem St.store {w : World} (t : St c M L w) {i b o : Nat} {cs : List Value} {T : TypeId} (hi : M[i]? = some (Blk b cs T)) (v : Value) :
    St c (M.set i (Blk b (cs.set o v) T)) L (w.setCell ⟨b, o, none⟩ v) :=
  t.upd hi rfl rfl rfl (by simp [World.setCell]) fun F hF _ => ⟨fun k _ hk => Below.heap_setCell _ _ _ _ (fun e => hk (by simp only at e; subst e; exact hF.1)),
    F, ⟨hF.1, heap_setCell_same hF.2 v⟩, fun _ h => .inl h⟩

theorem run_store1 {T : TypeId} {dT : Ty} {w : World} (hT : TyOk P T dT) (hs : dT.size = 1) {A : Addr} {v e : Value} (hv : one v = true) (h : w.cell? A = some e) (hf : w.frozen? A = false) :
    (Instr.storeAt T (.pointer (some A)) v).run P w = .ok () (w.setCell A v) := by
  have h0 : A.add 0 = A := rfl
  have hst : (store A v).run P w = .ok () (w.setCell A v) := by
    unfold store
    cases v <;> first | (simp only [Sem.run, h, hf]; rfl) | cases hv
  simp only [Instr.storeAt, Instr.sureAddr, storeVar, one_cells hv]
  simp [hT.run_size w, hs, storeCells, h0, hst]

theorem J.store1 [Tab P] (i : Nat) {T T' : TypeId} {s2 : Nat} {z : Value} {dT : TypeDesc} {x y : Operand} {b o : Nat} {cs : List Value} {v : Value} (hx : ev σ x = some (.pointer (some ⟨b, o, none⟩)))
    (hy : ev σ y = some v) (hv : one v = true) (hM : M[i]? = some (Blk b cs T')) (hT : Tab.tab P T = some ⟨dT, 1, s2, z⟩) (ho : Nat.blt o cs.length = true)
    (h : J c n σ (M.set i (Blk b (cs.set o v) T')) L (wpList P ops Q rest)) :
    J c n σ M L (wpList P ops Q (⟨none, .store T x y, ty, pos, aft, none⟩ :: rest)) := fun a w s t => by
  refine wpList_take rfl ?_
  obtain ⟨F, hF⟩ := t.res hM
  have hlt : o < cs.length := by simpa [Nat.blt_eq] using ho
  have hrun : (execOp a.eval ⟨none, .store T x y, ty, pos, aft, none⟩).run P w = .ok .skip (w.setCell ⟨b, o, none⟩ v) := by
    simp [execOp, s.eval hx, s.eval hy, run_store1 (Tab.ok hT) rfl hv (Blk.cell hF (List.getElem?_eq_getElem hlt)) (Blk.free hF o)]
  simp only [Oper.wp, hrun, Oper.upon]
  exact h _ _ s (t.store hM v)

theorem St.fill {w : World} (t : St c M L w) {i b : Nat} {cs cs' : List Value} {T : TypeId} (hi : M[i]? = some (Blk b cs T)) :
    St c (M.set i (Blk b cs' T)) L (w.setRow b cs'.toArray) :=
  t.upd hi rfl rfl rfl (by simp) fun F hF _ => ⟨fun k _ hk => setRow_other w b k _ (fun e => hk (by subst e; exact hF.1)),
    F, ⟨hF.1, setRow_heap w b _ _ T _ hF.2⟩, fun _ h => .inl h⟩

theorem J.storeAll [Tab P] (i : Nat) {T T' : TypeId} {s2 : Nat} {z : Value} {dT : TypeDesc} {x y : Operand} {b : Nat} {cs vs : List Value} (hx : ev σ x = some (.pointer (some ⟨b, 0, none⟩)))
    (hy : ev σ y = some (.agg vs.toArray)) (hv : vs.all one = true) (hM : M[i]? = some (Blk b cs T')) (hT : Tab.tab P T = some ⟨dT, vs.length, s2, z⟩) (hl : Nat.beq vs.length cs.length = true)
    (h : J c n σ (M.set i (Blk b vs T')) L (wpList P ops Q rest)) :
    J c n σ M L (wpList P ops Q (⟨none, .store T x y, ty, pos, aft, none⟩ :: rest)) := fun a w s t => by
  refine wpList_take rfl ?_
  obtain ⟨F, hF⟩ := t.res hM
  have hlen : vs.length = cs.length := Nat.eq_of_beq_eq_true hl
  have hone : ∀ v ∈ vs, v.oneCell' = true := fun v hvm => one_oneCell (by simpa using List.all_eq_true.1 hv v hvm)
  obtain ⟨iT, hiT, hsz, _, _⟩ := (Tab.ok hT).info
  have hst := run_storeVar_row (P := P) w b T' T cs.toArray vs.toArray hF.2 (by simp [hiT, hsz]) (by simp [hlen]) (by simpa using hone)
  have hrun : (execOp a.eval ⟨none, .store T x y, ty, pos, aft, none⟩).run P w = .ok .skip (w.setRow b vs.toArray) := by
    simp [execOp, s.eval hx, s.eval hy, Instr.storeAt, Instr.sureAddr, hst]
  simp only [Oper.wp, hrun, Oper.upon]
  exact h _ _ s (t.fill hM)

/-! ## Contracts -/
/-- Called where the facts L stand, f returns 'ret x' for some x, with the resources MO x and the facts LO x. -/
def Meets (P : Program) (f : FuncId) (args : Array Value) (L : List Fact) {A : Type} (ret : A → Value) (MO LO : A → List Fact → List Fact) : Prop :=
  ∀ (w0 : World) (S0 : Nat → Prop), (∀ h ∈ L, h.p w0 S0) → Calls P f args w0 fun e w' => ∃ x : A, e = .returned (ret x) ∧ St ⟨w0, S0, fun _ => False⟩ (MO x []) (LO x []) w'

def joinF (m : Nat) (F' F : Nat → Nat → Prop) (i k : Nat) : Prop := (i < m ∧ F' i k) ∨ (m ≤ i ∧ F (i - m) k)

theorem Own.new {w : World} {M : List Fact} {F : Nat → Nat → Prop} {w0 : World} {S0 : Nat → Prop} (h : Own ⟨w0, S0, fun _ => False⟩ w M F) {i k : Nat} (hk : F i k) : w0.heap.size ≤ k := by
  rcases (h.rng i k hk).1 with h | h
  · exact h
  · exact h.elim

theorem St.call {w w' : World} {M1 L1 : List Fact} {F : Nat → Nat → Prop} (ho : Kept c.O c.w0 w) (hF : Own c w M F) (hL : ∀ f ∈ L, f.p w (Free c F))
    (t : St ⟨w, Free c F, fun _ => False⟩ M1 L1 w') : St c (M1 ++ M) (L1 ++ L) w' := by
  obtain ⟨ho', F', hF', hL'⟩ := t
  have ho' := ho'.ext
  have hb := ho'.block
  refine ⟨ho.trans ho', joinF M1.length F' F, ⟨?_, ?_, ?_⟩, fun f hf => ?_⟩
  · intro i m hm
    by_cases hi : i < M1.length
    · rw [List.getElem?_append_left hi] at hm
      exact Fact.same (hF'.res i m hm) (fun k hk => .inl ⟨hi, hk⟩) (fun _ _ _ => rfl)
    · rw [List.getElem?_append_right (by omega)] at hm
      exact Fact.same (hF.res _ m hm) (fun k hk => .inr ⟨by omega, hk⟩) (fun k _ hl => hb k hl)
  · rintro i k (⟨_, hk⟩ | ⟨_, hk⟩)
    · exact ⟨.inl (Nat.le_trans ho.size (hF'.new hk)), (hF'.rng i k hk).2⟩
    · exact ⟨(hF.rng _ k hk).1, Nat.lt_of_lt_of_le (hF.rng _ k hk).2 ho'.size⟩
  · rintro i j k (⟨hi, h1⟩ | ⟨hi, h1⟩) (⟨hj, h2⟩ | ⟨hj, h2⟩)
    · exact hF'.dis i j k h1 h2
    · have := hF'.new h1; have := (hF.rng _ k h2).2; simp only at *; omega
    · have := hF'.new h2; have := (hF.rng _ k h1).2; simp only at *; omega
    · have := hF.dis _ _ k h1 h2; omega
  · rcases List.mem_append.1 hf with hf | hf
    · refine Fact.same (hL' f hf) (fun k hk => ?_) (fun _ _ _ => rfl)
      obtain ⟨hall, hno⟩ := hk
      have hall' : Free c F k ∨ w.heap.size ≤ k := by
        rcases hall with h | h | h
        · exact .inl h
        · exact .inr h
        · exact h.elim
      refine ⟨?_, ?_⟩
      · rcases hall' with h | h
        · exact h.1
        · exact .inr (.inl (Nat.le_trans ho.size h))
      · rintro i (⟨_, hi⟩ | ⟨_, hi⟩)
        · exact hno i hi
        · rcases hall' with h | h
          · exact h.2 _ hi
          · have := (hF.rng _ k hi).2; omega
    · refine f.mono (hL f hf) fun k hk hl => ⟨⟨hk.1, ?_⟩, hb k hl⟩
      rintro i (⟨_, hi⟩ | ⟨_, hi⟩)
      · have := hF'.new hi; omega
      · exact hk.2 _ hi

theorem evs {xs : List Operand} {vs : List Value} {a : Act} (s : Sub n σ a) (h : xs.map (ev σ) = vs.map some) : xs.map a.eval = vs := by
  induction xs generalizing vs with
  | nil => cases vs <;> simp_all
  | cons x xs ih =>
    cases vs with
    | nil => simp at h
    | cons v vs => simp at h; simp [s.eval h.1, ih h.2]

/-- f has a body -/
def HasBody (P : Program) (f : FuncId) : Prop := ∀ args w, (callFunc f args).run P w = .ok (.enter f args) w

theorem J.call {A : Type} {ret : A → Value} {MO LO : A → List Fact → List Fact} {f : FuncId} {xs : List Operand} {vs : List Value} {ats : Array TypeId} {L0 : List Fact} (hb : HasBody P f)
    (hs : Meets P f vs.toArray L0 ret MO LO) (hx : xs.map (ev σ) = vs.map some) (hL : ∀ h ∈ L0, h ∈ L) (hD : Nat.blt D n.sz = true)
    (hMO : ∀ x l, MO x l = MO x [] ++ l) (hLO : ∀ x l, LO x l = LO x [] ++ l)
    (h : ∀ x, J c n ((D, ret x) :: σ) (MO x M) (LO x L) (wpList P ops Q rest)) :
    J c n σ M L (wpList P ops Q (⟨some D, .call ⟨.value (.func f), xs.toArray, ats⟩, ty, pos, aft, none⟩ :: rest)) := fun a w s t => by
  refine wpList_take rfl ?_
  have hrun : (execOp a.eval ⟨some D, .call ⟨.value (.func f), xs.toArray, ats⟩, ty, pos, aft, none⟩).run P w = .ok (.enter f vs.toArray) w := by
    have e := evs s hx
    simp [execOp, resolve, Act.eval, Deferred.ofValue, invoke, hb _ w, e]
  simp only [Oper.wp, hrun, Oper.upon]
  obtain ⟨ho, F, hF, hLF⟩ := t
  refine (hs w (Free c F) (fun f hf => hLF f (hL f hf))).mono ?_
  rintro e w' ⟨x, rfl, ht⟩
  refine h x _ w' (s.put D _ hD) ?_
  rw [hMO, hLO]
  exact St.call ho hF hLF ht

/-! ## Entering and leaving -/
def Post {A : Type} (c : Ctx) (ret : A → Value) (MO LO : A → List Fact → List Fact) (e : Ending) (w : World) : Prop := ∃ x : A, e = .returned (ret x) ∧ St c (MO x []) (LO x []) w

def frame0 : Nat → List Value → Fr
  | _, [] => []
  | k, v :: vs => (k, v) :: frame0 (k + 1) vs

theorem frame0_slot (vs : List Value) : ∀ k t v, lk (frame0 k vs) t = some v → k ≤ t ∧ vs[t - k]? = some v := by
  induction vs with
  | nil => intro k t v h; simp [frame0, lk] at h
  | cons u vs ih =>
    intro k t v h
    simp only [frame0, lk] at h
    by_cases e : t = k
    · subst e; simp at h; subst h; simp
    · rw [beq_ne e] at h
      obtain ⟨h1, h2⟩ := ih (k + 1) t v h
      refine ⟨by omega, ?_⟩
      have : t - k = (t - (k + 1)) + 1 := by omega
      rw [this, List.getElem?_cons_succ]; exact h2

theorem Meets.of {A : Type} {ret : A → Value} {MO LO : A → List Fact → List Fact} {f : FuncId} {fn : Func} {code : Code} {vs : List Value} {m : Nat}
    (hf : P.funcs[f]? = some fn) (hb : fn.body = some code) (hn : fn.ntmps = m) (hm : Nat.ble vs.length m = true)
    (h : ∀ c : Ctx, J c ⟨m, []⟩ (frame0 0 vs) [] L (code.wpr none P (bodyPost P fn (Post c ret MO LO)))) : Meets P f vs.toArray L ret MO LO := fun w0 S0 hL => by
  have hle : vs.length ≤ m := by simpa using hm
  refine calls_of_wpr hf hb (h ⟨w0, S0, fun _ => False⟩ _ _ ⟨rfl, by simp [hn, hle], ?_⟩ ⟨Kept.refl _, fun _ _ => False, ⟨?_, ?_, ?_⟩, ?_⟩)
  · intro t v hv
    obtain ⟨_, h2⟩ := frame0_slot vs 0 t v hv
    rw [Nat.sub_zero] at h2
    have hlt : t < vs.length := by
      rcases Nat.lt_or_ge t vs.length with h' | h'
      · exact h'
      · rw [List.getElem?_eq_none h'] at h2; cases h2
    rw [Array.getElem?_append_left (by simpa using hlt)]
    simpa using h2
  · intro i m h; simp at h
  · intro i k h; exact h.elim
  · intro i j k h; exact h.elim
  · intro f hf
    exact Fact.same (hL f hf) (fun k hk => ⟨.inl hk, fun _ h => h⟩) (fun _ _ _ => rfl)

theorem J.post {A : Type} {ret : A → Value} {MO LO : A → List Fact → List Fact} {fn : Func} (x : A) (e : Exit) (he : e = .ret ∨ e = .normal)
    (hr : ∀ a w, Sub n σ a → St c M L w → (results fn a.tmps).run P w = .ok (ret x) w) (hM : SubM M (MO x [])) (hL : ∀ f ∈ LO x [], f ∈ L) (hds : n.ds = [] := by rfl) :
    J c n σ M L (bodyPost P fn (Post c ret MO LO) e) := fun a w s t =>
  body_end he (s.defers.trans hds) (hr a w s t) ⟨x, rfl, t.weak hM hL⟩

theorem run_cell [Tab P] {T T' : TypeId} {s2 : Nat} {z : Value} {dT : TypeDesc} {w : World} {b : Nat} {cs : List Value} {F : Nat → Prop} (hF : (Blk b cs T').p w F)
    (hT : Tab.tab P T = some ⟨dT, cs.length, s2, z⟩) (hd : aggD dT = true) : (loadVar T ⟨b, 0, none⟩).run P w = .ok (.agg cs.toArray) w := by
  have hl := run_loadCells_list (P := P) w ⟨b, 0, none⟩ cs (fun j v hv => by rw [add_none, Nat.zero_add]; exact Blk.cell hF hv)
  simp [loadVar, (Tab.ok hT).run_agg w, hd, (Tab.ok hT).run_size w, hl]

end
end Go.Sx
end
section
set_option linter.unusedVariables false
set_option linter.unusedSimpArgs false
namespace Go.Sx
open Go.Proofs
def tyTab : Nat → Option Ty
  | 2 => some ⟨(TypeDesc.int IntKind.i64), 1, 8, (Value.int IntKind.i64 0)⟩
  | 3 => some ⟨(TypeDesc.int IntKind.i64), 1, 8, (Value.int IntKind.i64 0)⟩
  | 4 => some ⟨TypeDesc.bool, 1, 1, (Value.bool false)⟩
  | 5 => some ⟨(TypeDesc.int IntKind.u8), 1, 1, (Value.int IntKind.u8 0)⟩
  | 6 => some ⟨(TypeDesc.int IntKind.u8), 1, 1, (Value.int IntKind.u8 0)⟩
  | 7 => some ⟨(TypeDesc.struct #[{ name := "x", type := 2, offset := 0, embedded := false, tag := "", pkgPath := "runtime", byteOffset := 0 }, { name := "y", type := 3, offset := 1, embedded := false, tag := "", pkgPath := "runtime", byteOffset := 8 }, { name := "signed", type := 4, offset := 2, embedded := false, tag := "", pkgPath := "runtime", byteOffset := 16 }, { name := "code", type := 6, offset := 3, embedded := false, tag := "", pkgPath := "runtime", byteOffset := 17 }]), 4, 24, (Value.agg #[Value.int IntKind.i64 0, Value.int IntKind.i64 0, Value.bool false, Value.int IntKind.u8 0])⟩
  | 8 => some ⟨(TypeDesc.struct #[{ name := "x", type := 2, offset := 0, embedded := false, tag := "", pkgPath := "runtime", byteOffset := 0 }, { name := "y", type := 3, offset := 1, embedded := false, tag := "", pkgPath := "runtime", byteOffset := 8 }, { name := "signed", type := 4, offset := 2, embedded := false, tag := "", pkgPath := "runtime", byteOffset := 16 }, { name := "code", type := 6, offset := 3, embedded := false, tag := "", pkgPath := "runtime", byteOffset := 17 }]), 4, 24, (Value.agg #[Value.int IntKind.i64 0, Value.int IntKind.i64 0, Value.bool false, Value.int IntKind.u8 0])⟩
  | 9 => some ⟨TypeDesc.string, 1, 16, (Value.string { data := #[] })⟩
  | 10 => some ⟨TypeDesc.string, 1, 16, (Value.string { data := #[] })⟩
  | 11 => some ⟨TypeDesc.string, 1, 16, (Value.string { data := #[] })⟩
  | 12 => some ⟨(TypeDesc.int IntKind.u64), 1, 8, (Value.int IntKind.u64 0)⟩
  | 13 => some ⟨(TypeDesc.struct #[{ name := "msg", type := 9, offset := 0, embedded := false, tag := "", pkgPath := "runtime", byteOffset := 0 }, { name := "addr", type := 12, offset := 1, embedded := false, tag := "", pkgPath := "runtime", byteOffset := 16 }]), 2, 24, (Value.agg #[Value.string { data := #[] }, Value.int IntKind.u64 0])⟩
  | 14 => some ⟨(TypeDesc.struct #[{ name := "msg", type := 9, offset := 0, embedded := false, tag := "", pkgPath := "runtime", byteOffset := 0 }, { name := "addr", type := 12, offset := 1, embedded := false, tag := "", pkgPath := "runtime", byteOffset := 16 }]), 2, 24, (Value.agg #[Value.string { data := #[] }, Value.int IntKind.u64 0])⟩
  | 15 => some ⟨(TypeDesc.pointer 95), 1, 8, (Value.pointer none)⟩
  | 16 => some ⟨(TypeDesc.pointer 98), 1, 8, (Value.pointer none)⟩
  | 17 => some ⟨(TypeDesc.pointer 107), 1, 8, (Value.pointer none)⟩
  | 18 => some ⟨(TypeDesc.struct #[{ name := "typ", type := 17, offset := 0, embedded := false, tag := "", pkgPath := "internal/runtime/maps", byteOffset := 0 }]), 1, 8, (Value.agg #[Value.pointer none])⟩
  | 19 => some ⟨(TypeDesc.struct #[{ name := "typ", type := 17, offset := 0, embedded := false, tag := "", pkgPath := "internal/runtime/maps", byteOffset := 0 }]), 1, 8, (Value.agg #[Value.pointer none])⟩
  | 21 => some ⟨(TypeDesc.int IntKind.i32), 1, 4, (Value.int IntKind.i32 0)⟩
  | 22 => some ⟨(TypeDesc.slice 3), 1, 24, (Value.slice none 0 0)⟩
  | 23 => some ⟨(TypeDesc.struct #[{ name := "N", type := 3, offset := 0, embedded := false, tag := "", pkgPath := "", byteOffset := 0 }, { name := "Links", type := 22, offset := 1, embedded := false, tag := "", pkgPath := "", byteOffset := 8 }, { name := "Weights", type := 22, offset := 2, embedded := false, tag := "", pkgPath := "", byteOffset := 32 }, { name := "IDs", type := 22, offset := 3, embedded := false, tag := "", pkgPath := "", byteOffset := 56 }, { name := "Apart", type := 4, offset := 4, embedded := false, tag := "", pkgPath := "", byteOffset := 80 }, { name := "Backwards", type := 4, offset := 5, embedded := false, tag := "", pkgPath := "", byteOffset := 81 }]), 6, 88, (Value.agg #[Value.int IntKind.i64 0, Value.slice none 0 0, Value.slice none 0 0, Value.slice none 0 0, Value.bool false, Value.bool false])⟩
  | 24 => some ⟨(TypeDesc.struct #[{ name := "N", type := 3, offset := 0, embedded := false, tag := "", pkgPath := "", byteOffset := 0 }, { name := "Links", type := 22, offset := 1, embedded := false, tag := "", pkgPath := "", byteOffset := 8 }, { name := "Weights", type := 22, offset := 2, embedded := false, tag := "", pkgPath := "", byteOffset := 32 }, { name := "IDs", type := 22, offset := 3, embedded := false, tag := "", pkgPath := "", byteOffset := 56 }, { name := "Apart", type := 4, offset := 4, embedded := false, tag := "", pkgPath := "", byteOffset := 80 }, { name := "Backwards", type := 4, offset := 5, embedded := false, tag := "", pkgPath := "", byteOffset := 81 }]), 6, 88, (Value.agg #[Value.int IntKind.i64 0, Value.slice none 0 0, Value.slice none 0 0, Value.slice none 0 0, Value.bool false, Value.bool false])⟩
  | 25 => some ⟨(TypeDesc.struct #[{ name := "Kind", type := 3, offset := 0, embedded := false, tag := "", pkgPath := "", byteOffset := 0 }, { name := "State", type := 22, offset := 1, embedded := false, tag := "", pkgPath := "", byteOffset := 8 }, { name := "Labels", type := 22, offset := 2, embedded := false, tag := "", pkgPath := "", byteOffset := 32 }]), 3, 56, (Value.agg #[Value.int IntKind.i64 0, Value.slice none 0 0, Value.slice none 0 0])⟩
  | 26 => some ⟨(TypeDesc.struct #[{ name := "Kind", type := 3, offset := 0, embedded := false, tag := "", pkgPath := "", byteOffset := 0 }, { name := "State", type := 22, offset := 1, embedded := false, tag := "", pkgPath := "", byteOffset := 8 }, { name := "Labels", type := 22, offset := 2, embedded := false, tag := "", pkgPath := "", byteOffset := 32 }]), 3, 56, (Value.agg #[Value.int IntKind.i64 0, Value.slice none 0 0, Value.slice none 0 0])⟩
  | 27 => some ⟨(TypeDesc.slice 41), 1, 24, (Value.slice none 0 0)⟩
  | 28 => some ⟨(TypeDesc.struct #[{ name := "IDs", type := 22, offset := 0, embedded := false, tag := "", pkgPath := "", byteOffset := 0 }, { name := "Ports", type := 27, offset := 1, embedded := false, tag := "", pkgPath := "", byteOffset := 24 }]), 2, 48, (Value.agg #[Value.slice none 0 0, Value.slice none 0 0])⟩
  | 29 => some ⟨(TypeDesc.struct #[{ name := "IDs", type := 22, offset := 0, embedded := false, tag := "", pkgPath := "", byteOffset := 0 }, { name := "Ports", type := 27, offset := 1, embedded := false, tag := "", pkgPath := "", byteOffset := 24 }]), 2, 48, (Value.agg #[Value.slice none 0 0, Value.slice none 0 0])⟩
  | 30 => some ⟨(TypeDesc.func #[3] #[29] false), 1, 8, Value.nilFunc⟩
  | 31 => some ⟨(TypeDesc.slice 42), 1, 24, (Value.slice none 0 0)⟩
  | 33 => some ⟨(TypeDesc.func #[29] #[3, 22, 31] false), 1, 8, Value.nilFunc⟩
  | 34 => some ⟨(TypeDesc.int IntKind.i64), 1, 8, (Value.int IntKind.i64 0)⟩
  | 36 => some ⟨(TypeDesc.func #[3, 29, 22] #[31, 34] false), 1, 8, Value.nilFunc⟩
  | 37 => some ⟨(TypeDesc.func #[] #[4] false), 1, 8, Value.nilFunc⟩
  | 38 => some ⟨(TypeDesc.int IntKind.u32), 1, 4, (Value.int IntKind.u32 0)⟩
  | 39 => some ⟨(TypeDesc.struct #[{ name := "To", type := 3, offset := 0, embedded := false, tag := "", pkgPath := "", byteOffset := 0 }, { name := "Weight", type := 3, offset := 1, embedded := false, tag := "", pkgPath := "", byteOffset := 8 }]), 2, 16, (Value.agg #[Value.int IntKind.i64 0, Value.int IntKind.i64 0])⟩
  | 40 => some ⟨(TypeDesc.struct #[{ name := "To", type := 3, offset := 0, embedded := false, tag := "", pkgPath := "", byteOffset := 0 }, { name := "Weight", type := 3, offset := 1, embedded := false, tag := "", pkgPath := "", byteOffset := 8 }]), 2, 16, (Value.agg #[Value.int IntKind.i64 0, Value.int IntKind.i64 0])⟩
  | 41 => some ⟨(TypeDesc.slice 40), 1, 24, (Value.slice none 0 0)⟩
  | 42 => some ⟨(TypeDesc.array 2 3), 2, 16, (Value.agg #[Value.int IntKind.i64 0, Value.int IntKind.i64 0])⟩
  | 43 => some ⟨(TypeDesc.int IntKind.u64), 1, 8, (Value.int IntKind.u64 0)⟩
  | 44 => some ⟨(TypeDesc.func #[3, 3] #[3] false), 1, 8, Value.nilFunc⟩
  | 45 => some ⟨(TypeDesc.func #[29, 3, 3] #[3] false), 1, 8, Value.nilFunc⟩
  | 46 => some ⟨(TypeDesc.func #[38, 3] #[4] false), 1, 8, Value.nilFunc⟩
  | 47 => some ⟨(TypeDesc.func #[24, 26, 22] #[4] false), 1, 8, Value.nilFunc⟩
  | 48 => some ⟨(TypeDesc.func #[29, 3] #[4] false), 1, 8, Value.nilFunc⟩
  | 49 => some ⟨(TypeDesc.func #[3, 29, 22] #[4] false), 1, 8, Value.nilFunc⟩
  | 50 => some ⟨(TypeDesc.func #[31, 31] #[4] false), 1, 8, Value.nilFunc⟩
  | 51 => some ⟨(TypeDesc.func #[3, 29, 22, 31, 3] #[4] false), 1, 8, Value.nilFunc⟩
  | 52 => some ⟨(TypeDesc.func #[3, 29, 22, 31] #[38] false), 1, 8, Value.nilFunc⟩
  | 53 => some ⟨(TypeDesc.func #[24, 26, 3] #[4] false), 1, 8, Value.nilFunc⟩
  | 54 => some ⟨(TypeDesc.func #[3, 22, 31] #[4] false), 1, 8, Value.nilFunc⟩
  | 55 => some ⟨(TypeDesc.func #[24, 26] #[4] false), 1, 8, Value.nilFunc⟩
  | 56 => some ⟨(TypeDesc.func #[29] #[29] false), 1, 8, Value.nilFunc⟩
  | 57 => some ⟨(TypeDesc.func #[29] #[4] false), 1, 8, Value.nilFunc⟩
  | 58 => some ⟨(TypeDesc.func #[3] #[4] false), 1, 8, Value.nilFunc⟩
  | 59 => some ⟨(TypeDesc.func #[29, 22] #[31, 4] false), 1, 8, Value.nilFunc⟩
  | 60 => some ⟨(TypeDesc.array 4 59), 4, 32, (Value.agg #[Value.nilFunc, Value.nilFunc, Value.nilFunc, Value.nilFunc])⟩
  | 62 => some ⟨(TypeDesc.func #[3, 3, 3] #[4] false), 1, 8, Value.nilFunc⟩
  | 63 => some ⟨(TypeDesc.func #[22, 3] #[3] false), 1, 8, Value.nilFunc⟩
  | 64 => some ⟨(TypeDesc.func #[29, 22, 3] #[3] false), 1, 8, Value.nilFunc⟩
  | 65 => some ⟨(TypeDesc.func #[29, 3] #[22] false), 1, 8, Value.nilFunc⟩
  | 67 => some ⟨(TypeDesc.func #[29, 22] #[22, 4] false), 1, 8, Value.nilFunc⟩
  | 68 => some ⟨(TypeDesc.func #[29, 22] #[4] false), 1, 8, Value.nilFunc⟩
  | 69 => some ⟨(TypeDesc.func #[3, 29, 3, 3] #[4] false), 1, 8, Value.nilFunc⟩
  | 70 => some ⟨(TypeDesc.func #[29, 3, 3, 3] #[] false), 1, 8, Value.nilFunc⟩
  | 71 => some ⟨(TypeDesc.func #[87] #[] false), 1, 8, Value.nilFunc⟩
  | 72 => some ⟨(TypeDesc.func #[87] #[] false), 1, 8, Value.nilFunc⟩
  | 73 => some ⟨(TypeDesc.func #[29] #[72] false), 1, 8, Value.nilFunc⟩
  | 74 => some ⟨(TypeDesc.struct #[{ name := "g", type := 29, offset := 0, embedded := false, tag := "", pkgPath := "selfstab/labels", byteOffset := 0 }, { name := "partners", type := 22, offset := 2, embedded := false, tag := "", pkgPath := "selfstab/labels", byteOffset := 48 }, { name := "values", type := 22, offset := 3, embedded := false, tag := "", pkgPath := "selfstab/labels", byteOffset := 72 }]), 4, 96, (Value.agg #[Value.slice none 0 0, Value.slice none 0 0, Value.slice none 0 0, Value.slice none 0 0])⟩
  | 75 => some ⟨(TypeDesc.struct #[{ name := "g", type := 29, offset := 0, embedded := false, tag := "", pkgPath := "selfstab/labels", byteOffset := 0 }, { name := "partners", type := 22, offset := 2, embedded := false, tag := "", pkgPath := "selfstab/labels", byteOffset := 48 }, { name := "values", type := 22, offset := 3, embedded := false, tag := "", pkgPath := "selfstab/labels", byteOffset := 72 }]), 4, 96, (Value.agg #[Value.slice none 0 0, Value.slice none 0 0, Value.slice none 0 0, Value.slice none 0 0])⟩
  | 76 => some ⟨(TypeDesc.func #[3, 3] #[4] false), 1, 8, Value.nilFunc⟩
  | 77 => some ⟨(TypeDesc.func #[22] #[3] false), 1, 8, Value.nilFunc⟩
  | 78 => some ⟨(TypeDesc.func #[29, 22, 22] #[22, 4] false), 1, 8, Value.nilFunc⟩
  | 79 => some ⟨(TypeDesc.func #[22] #[4] false), 1, 8, Value.nilFunc⟩
  | 80 => some ⟨(TypeDesc.func #[27] #[4] false), 1, 8, Value.nilFunc⟩
  | 81 => some ⟨(TypeDesc.func #[42] #[4] false), 1, 8, Value.nilFunc⟩
  | 82 => some ⟨(TypeDesc.func #[29, 3, 83] #[3] false), 1, 8, Value.nilFunc⟩
  | 83 => some ⟨(TypeDesc.func #[40] #[4] false), 1, 8, Value.nilFunc⟩
  | 84 => some ⟨(TypeDesc.func #[81] #[4] false), 1, 8, Value.nilFunc⟩
  | 85 => some ⟨(TypeDesc.func #[41, 3, 3] #[4] false), 1, 8, Value.nilFunc⟩
  | 86 => some ⟨(TypeDesc.func #[29, 3, 3] #[4] false), 1, 8, Value.nilFunc⟩
  | 87 => some ⟨(TypeDesc.func #[3, 40] #[4] false), 1, 8, Value.nilFunc⟩
  | 88 => some ⟨(TypeDesc.pointer 75), 1, 8, (Value.pointer none)⟩
  | 89 => some ⟨(TypeDesc.array 256 4), 256, 256, (Value.agg (([Value.bool false, Value.bool false, Value.bool false, Value.bool false, Value.bool false, Value.bool false, Value.bool false, Value.bool false, Value.bool false, Value.bool false, Value.bool false, Value.bool false, Value.bool false, Value.bool false, Value.bool false, Value.bool false, Value.bool false, Value.bool false, Value.bool false, Value.bool false, Value.bool false, Value.bool false, Value.bool false, Value.bool false, Value.bool false, Value.bool false, Value.bool false, Value.bool false, Value.bool false, Value.bool false, Value.bool false, Value.bool false, Value.bool false, Value.bool false, Value.bool false, Value.bool false, Value.bool false, Value.bool false, Value.bool false, Value.bool false, Value.bool false, Value.bool false, Value.bool false, Value.bool false, Value.bool false, Value.bool false, Value.bool false, Value.bool false, Value.bool false, Value.bool false, Value.bool false, Value.bool false, Value.bool false, Value.bool false, Value.bool false, Value.bool false, Value.bool false, Value.bool false, Value.bool false, Value.bool false, Value.bool false, Value.bool false, Value.bool false, Value.bool false].append [Value.bool false, Value.bool false, Value.bool false, Value.bool false, Value.bool false, Value.bool false, Value.bool false, Value.bool false, Value.bool false, Value.bool false, Value.bool false, Value.bool false, Value.bool false, Value.bool false, Value.bool false, Value.bool false, Value.bool false, Value.bool false, Value.bool false, Value.bool false, Value.bool false, Value.bool false, Value.bool false, Value.bool false, Value.bool false, Value.bool false, Value.bool false, Value.bool false, Value.bool false, Value.bool false, Value.bool false, Value.bool false, Value.bool false, Value.bool false, Value.bool false, Value.bool false, Value.bool false, Value.bool false, Value.bool false, Value.bool false, Value.bool false, Value.bool false, Value.bool false, Value.bool false, Value.bool false, Value.bool false, Value.bool false, Value.bool false, Value.bool false, Value.bool false, Value.bool false, Value.bool false, Value.bool false, Value.bool false, Value.bool false, Value.bool false, Value.bool false, Value.bool false, Value.bool false, Value.bool false, Value.bool false, Value.bool false, Value.bool false, Value.bool false]).append ([Value.bool false, Value.bool false, Value.bool false, Value.bool false, Value.bool false, Value.bool false, Value.bool false, Value.bool false, Value.bool false, Value.bool false, Value.bool false, Value.bool false, Value.bool false, Value.bool false, Value.bool false, Value.bool false, Value.bool false, Value.bool false, Value.bool false, Value.bool false, Value.bool false, Value.bool false, Value.bool false, Value.bool false, Value.bool false, Value.bool false, Value.bool false, Value.bool false, Value.bool false, Value.bool false, Value.bool false, Value.bool false, Value.bool false, Value.bool false, Value.bool false, Value.bool false, Value.bool false, Value.bool false, Value.bool false, Value.bool false, Value.bool false, Value.bool false, Value.bool false, Value.bool false, Value.bool false, Value.bool false, Value.bool false, Value.bool false, Value.bool false, Value.bool false, Value.bool false, Value.bool false, Value.bool false, Value.bool false, Value.bool false, Value.bool false, Value.bool false, Value.bool false, Value.bool false, Value.bool false, Value.bool false, Value.bool false, Value.bool false, Value.bool false].append [Value.bool false, Value.bool false, Value.bool false, Value.bool false, Value.bool false, Value.bool false, Value.bool false, Value.bool false, Value.bool false, Value.bool false, Value.bool false, Value.bool false, Value.bool false, Value.bool false, Value.bool false, Value.bool false, Value.bool false, Value.bool false, Value.bool false, Value.bool false, Value.bool false, Value.bool false, Value.bool false, Value.bool false, Value.bool false, Value.bool false, Value.bool false, Value.bool false, Value.bool false, Value.bool false, Value.bool false, Value.bool false, Value.bool false, Value.bool false, Value.bool false, Value.bool false, Value.bool false, Value.bool false, Value.bool false, Value.bool false, Value.bool false, Value.bool false, Value.bool false, Value.bool false, Value.bool false, Value.bool false, Value.bool false, Value.bool false, Value.bool false, Value.bool false, Value.bool false, Value.bool false, Value.bool false, Value.bool false, Value.bool false, Value.bool false, Value.bool false, Value.bool false, Value.bool false, Value.bool false, Value.bool false, Value.bool false, Value.bool false, Value.bool false])).toArray)⟩
  | 90 => some ⟨(TypeDesc.map 42 3), 1, 8, (Value.map none)⟩
  | 92 => some ⟨(TypeDesc.func #[29, 3] #[3] false), 1, 8, Value.nilFunc⟩
  | 93 => some ⟨(TypeDesc.func #[] #[9] false), 1, 8, Value.nilFunc⟩
  | 94 => some ⟨(TypeDesc.struct #[{ name := "_interface", type := 17, offset := 0, embedded := false, tag := "", pkgPath := "runtime", byteOffset := 0 }, { name := "concrete", type := 17, offset := 1, embedded := false, tag := "", pkgPath := "runtime", byteOffset := 8 }, { name := "asserted", type := 17, offset := 2, embedded := false, tag := "", pkgPath := "runtime", byteOffset := 16 }, { name := "missingMethod", type := 9, offset := 3, embedded := false, tag := "", pkgPath := "runtime", byteOffset := 24 }]), 4, 40, (Value.agg #[Value.pointer none, Value.pointer none, Value.pointer none, Value.string { data := #[] }])⟩
  | 95 => some ⟨(TypeDesc.struct #[{ name := "_interface", type := 17, offset := 0, embedded := false, tag := "", pkgPath := "runtime", byteOffset := 0 }, { name := "concrete", type := 17, offset := 1, embedded := false, tag := "", pkgPath := "runtime", byteOffset := 8 }, { name := "asserted", type := 17, offset := 2, embedded := false, tag := "", pkgPath := "runtime", byteOffset := 16 }, { name := "missingMethod", type := 9, offset := 3, embedded := false, tag := "", pkgPath := "runtime", byteOffset := 24 }]), 4, 40, (Value.agg #[Value.pointer none, Value.pointer none, Value.pointer none, Value.string { data := #[] }])⟩
  | 96 => some ⟨(TypeDesc.array 0 16), 0, 0, (Value.agg #[])⟩
  | 97 => some ⟨(TypeDesc.struct #[{ name := "_", type := 96, offset := 0, embedded := false, tag := "", pkgPath := "runtime", byteOffset := 0 }]), 0, 0, (Value.agg #[])⟩
  | 98 => some ⟨(TypeDesc.struct #[{ name := "_", type := 96, offset := 0, embedded := false, tag := "", pkgPath := "runtime", byteOffset := 0 }]), 0, 0, (Value.agg #[])⟩
  | 99 => some ⟨(TypeDesc.func #[] #[3] false), 1, 8, Value.nilFunc⟩
  | 100 => some ⟨(TypeDesc.int IntKind.u8), 1, 1, (Value.int IntKind.u8 0)⟩
  | 101 => some ⟨(TypeDesc.int IntKind.u8), 1, 1, (Value.int IntKind.u8 0)⟩
  | 102 => some ⟨(TypeDesc.func #[108, 108] #[4] false), 1, 8, Value.nilFunc⟩
  | 103 => some ⟨(TypeDesc.pointer 5), 1, 8, (Value.pointer none)⟩
  | 104 => some ⟨(TypeDesc.int IntKind.i32), 1, 4, (Value.int IntKind.i32 0)⟩
  | 105 => some ⟨(TypeDesc.int IntKind.i32), 1, 4, (Value.int IntKind.i32 0)⟩
  | 106 => some ⟨(TypeDesc.struct #[{ name := "Size_", type := 12, offset := 0, embedded := false, tag := "", pkgPath := "", byteOffset := 0 }, { name := "PtrBytes", type := 12, offset := 1, embedded := false, tag := "", pkgPath := "", byteOffset := 8 }, { name := "Hash", type := 38, offset := 2, embedded := false, tag := "", pkgPath := "", byteOffset := 16 }, { name := "TFlag", type := 100, offset := 3, embedded := false, tag := "", pkgPath := "", byteOffset := 20 }, { name := "Align_", type := 5, offset := 4, embedded := false, tag := "", pkgPath := "", byteOffset := 21 }, { name := "FieldAlign_", type := 5, offset := 5, embedded := false, tag := "", pkgPath := "", byteOffset := 22 }, { name := "Kind_", type := 101, offset := 6, embedded := false, tag := "", pkgPath := "", byteOffset := 23 }, { name := "Equal", type := 102, offset := 7, embedded := false, tag := "", pkgPath := "", byteOffset := 24 }, { name := "GCData", type := 103, offset := 8, embedded := false, tag := "", pkgPath := "", byteOffset := 32 }, { name := "Str", type := 104, offset := 9, embedded := false, tag := "", pkgPath := "", byteOffset := 40 }, { name := "PtrToThis", type := 105, offset := 10, embedded := false, tag := "", pkgPath := "", byteOffset := 44 }]), 11, 48, (Value.agg #[Value.int IntKind.u64 0, Value.int IntKind.u64 0, Value.int IntKind.u32 0, Value.int IntKind.u8 0, Value.int IntKind.u8 0, Value.int IntKind.u8 0, Value.int IntKind.u8 0, Value.nilFunc, Value.pointer none, Value.int IntKind.i32 0, Value.int IntKind.i32 0])⟩
  | 107 => some ⟨(TypeDesc.struct #[{ name := "Size_", type := 12, offset := 0, embedded := false, tag := "", pkgPath := "", byteOffset := 0 }, { name := "PtrBytes", type := 12, offset := 1, embedded := false, tag := "", pkgPath := "", byteOffset := 8 }, { name := "Hash", type := 38, offset := 2, embedded := false, tag := "", pkgPath := "", byteOffset := 16 }, { name := "TFlag", type := 100, offset := 3, embedded := false, tag := "", pkgPath := "", byteOffset := 20 }, { name := "Align_", type := 5, offset := 4, embedded := false, tag := "", pkgPath := "", byteOffset := 21 }, { name := "FieldAlign_", type := 5, offset := 5, embedded := false, tag := "", pkgPath := "", byteOffset := 22 }, { name := "Kind_", type := 101, offset := 6, embedded := false, tag := "", pkgPath := "", byteOffset := 23 }, { name := "Equal", type := 102, offset := 7, embedded := false, tag := "", pkgPath := "", byteOffset := 24 }, { name := "GCData", type := 103, offset := 8, embedded := false, tag := "", pkgPath := "", byteOffset := 32 }, { name := "Str", type := 104, offset := 9, embedded := false, tag := "", pkgPath := "", byteOffset := 40 }, { name := "PtrToThis", type := 105, offset := 10, embedded := false, tag := "", pkgPath := "", byteOffset := 44 }]), 11, 48, (Value.agg #[Value.int IntKind.u64 0, Value.int IntKind.u64 0, Value.int IntKind.u32 0, Value.int IntKind.u8 0, Value.int IntKind.u8 0, Value.int IntKind.u8 0, Value.int IntKind.u8 0, Value.nilFunc, Value.pointer none, Value.int IntKind.i32 0, Value.int IntKind.i32 0])⟩
  | 108 => some ⟨TypeDesc.unsafePointer, 1, 8, (Value.pointer none)⟩
  | _ => none

theorem tyOk2 {d : Ty} (h : tyTab 2 = some d) : TyOk Try.prog 2 d := by
  cases h; exact ⟨Try.underlying2, Try.t2, Try.type2, rfl, rfl, rfl⟩
theorem tyOk3 {d : Ty} (h : tyTab 3 = some d) : TyOk Try.prog 3 d := by
  cases h; exact ⟨Try.underlying3, Try.t3, Try.type3, rfl, rfl, rfl⟩
theorem tyOk4 {d : Ty} (h : tyTab 4 = some d) : TyOk Try.prog 4 d := by
  cases h; exact ⟨Try.underlying4, Try.t4, Try.type4, rfl, rfl, rfl⟩
theorem tyOk5 {d : Ty} (h : tyTab 5 = some d) : TyOk Try.prog 5 d := by
  cases h; exact ⟨Try.underlying5, Try.t5, Try.type5, rfl, rfl, rfl⟩
theorem tyOk6 {d : Ty} (h : tyTab 6 = some d) : TyOk Try.prog 6 d := by
  cases h; exact ⟨Try.underlying6, Try.t6, Try.type6, rfl, rfl, rfl⟩
theorem tyOk7 {d : Ty} (h : tyTab 7 = some d) : TyOk Try.prog 7 d := by
  cases h; exact ⟨Try.underlying7, Try.t7, Try.type7, rfl, rfl, rfl⟩
theorem tyOk8 {d : Ty} (h : tyTab 8 = some d) : TyOk Try.prog 8 d := by
  cases h; exact ⟨Try.underlying8, Try.t8, Try.type8, rfl, rfl, rfl⟩
theorem tyOk9 {d : Ty} (h : tyTab 9 = some d) : TyOk Try.prog 9 d := by
  cases h; exact ⟨Try.underlying9, Try.t9, Try.type9, rfl, rfl, rfl⟩
theorem tyOk10 {d : Ty} (h : tyTab 10 = some d) : TyOk Try.prog 10 d := by
  cases h; exact ⟨Try.underlying10, Try.t10, Try.type10, rfl, rfl, rfl⟩
theorem tyOk11 {d : Ty} (h : tyTab 11 = some d) : TyOk Try.prog 11 d := by
  cases h; exact ⟨Try.underlying11, Try.t11, Try.type11, rfl, rfl, rfl⟩
theorem tyOk12 {d : Ty} (h : tyTab 12 = some d) : TyOk Try.prog 12 d := by
  cases h; exact ⟨Try.underlying12, Try.t12, Try.type12, rfl, rfl, rfl⟩
theorem tyOk13 {d : Ty} (h : tyTab 13 = some d) : TyOk Try.prog 13 d := by
  cases h; exact ⟨Try.underlying13, Try.t13, Try.type13, rfl, rfl, rfl⟩
theorem tyOk14 {d : Ty} (h : tyTab 14 = some d) : TyOk Try.prog 14 d := by
  cases h; exact ⟨Try.underlying14, Try.t14, Try.type14, rfl, rfl, rfl⟩
theorem tyOk15 {d : Ty} (h : tyTab 15 = some d) : TyOk Try.prog 15 d := by
  cases h; exact ⟨Try.underlying15, Try.t15, Try.type15, rfl, rfl, rfl⟩
theorem tyOk16 {d : Ty} (h : tyTab 16 = some d) : TyOk Try.prog 16 d := by
  cases h; exact ⟨Try.underlying16, Try.t16, Try.type16, rfl, rfl, rfl⟩
theorem tyOk17 {d : Ty} (h : tyTab 17 = some d) : TyOk Try.prog 17 d := by
  cases h; exact ⟨Try.underlying17, Try.t17, Try.type17, rfl, rfl, rfl⟩
theorem tyOk18 {d : Ty} (h : tyTab 18 = some d) : TyOk Try.prog 18 d := by
  cases h; exact ⟨Try.underlying18, Try.t18, Try.type18, rfl, rfl, rfl⟩
theorem tyOk19 {d : Ty} (h : tyTab 19 = some d) : TyOk Try.prog 19 d := by
  cases h; exact ⟨Try.underlying19, Try.t19, Try.type19, rfl, rfl, rfl⟩
theorem tyOk21 {d : Ty} (h : tyTab 21 = some d) : TyOk Try.prog 21 d := by
  cases h; exact ⟨Try.underlying21, Try.t21, Try.type21, rfl, rfl, rfl⟩
theorem tyOk22 {d : Ty} (h : tyTab 22 = some d) : TyOk Try.prog 22 d := by
  cases h; exact ⟨Try.underlying22, Try.t22, Try.type22, rfl, rfl, rfl⟩
theorem tyOk23 {d : Ty} (h : tyTab 23 = some d) : TyOk Try.prog 23 d := by
  cases h; exact ⟨Try.underlying23, Try.t23, Try.type23, rfl, rfl, rfl⟩
theorem tyOk24 {d : Ty} (h : tyTab 24 = some d) : TyOk Try.prog 24 d := by
  cases h; exact ⟨Try.underlying24, Try.t24, Try.type24, rfl, rfl, rfl⟩
theorem tyOk25 {d : Ty} (h : tyTab 25 = some d) : TyOk Try.prog 25 d := by
  cases h; exact ⟨Try.underlying25, Try.t25, Try.type25, rfl, rfl, rfl⟩
theorem tyOk26 {d : Ty} (h : tyTab 26 = some d) : TyOk Try.prog 26 d := by
  cases h; exact ⟨Try.underlying26, Try.t26, Try.type26, rfl, rfl, rfl⟩
theorem tyOk27 {d : Ty} (h : tyTab 27 = some d) : TyOk Try.prog 27 d := by
  cases h; exact ⟨Try.underlying27, Try.t27, Try.type27, rfl, rfl, rfl⟩
theorem tyOk28 {d : Ty} (h : tyTab 28 = some d) : TyOk Try.prog 28 d := by
  cases h; exact ⟨Try.underlying28, Try.t28, Try.type28, rfl, rfl, rfl⟩
theorem tyOk29 {d : Ty} (h : tyTab 29 = some d) : TyOk Try.prog 29 d := by
  cases h; exact ⟨Try.underlying29, Try.t29, Try.type29, rfl, rfl, rfl⟩
theorem tyOk30 {d : Ty} (h : tyTab 30 = some d) : TyOk Try.prog 30 d := by
  cases h; exact ⟨Try.underlying30, Try.t30, Try.type30, rfl, rfl, rfl⟩
theorem tyOk31 {d : Ty} (h : tyTab 31 = some d) : TyOk Try.prog 31 d := by
  cases h; exact ⟨Try.underlying31, Try.t31, Try.type31, rfl, rfl, rfl⟩
theorem tyOk33 {d : Ty} (h : tyTab 33 = some d) : TyOk Try.prog 33 d := by
  cases h; exact ⟨Try.underlying33, Try.t33, Try.type33, rfl, rfl, rfl⟩
theorem tyOk34 {d : Ty} (h : tyTab 34 = some d) : TyOk Try.prog 34 d := by
  cases h; exact ⟨Try.underlying34, Try.t34, Try.type34, rfl, rfl, rfl⟩
theorem tyOk36 {d : Ty} (h : tyTab 36 = some d) : TyOk Try.prog 36 d := by
  cases h; exact ⟨Try.underlying36, Try.t36, Try.type36, rfl, rfl, rfl⟩
theorem tyOk37 {d : Ty} (h : tyTab 37 = some d) : TyOk Try.prog 37 d := by
  cases h; exact ⟨Try.underlying37, Try.t37, Try.type37, rfl, rfl, rfl⟩
theorem tyOk38 {d : Ty} (h : tyTab 38 = some d) : TyOk Try.prog 38 d := by
  cases h; exact ⟨Try.underlying38, Try.t38, Try.type38, rfl, rfl, rfl⟩
theorem tyOk39 {d : Ty} (h : tyTab 39 = some d) : TyOk Try.prog 39 d := by
  cases h; exact ⟨Try.underlying39, Try.t39, Try.type39, rfl, rfl, rfl⟩
theorem tyOk40 {d : Ty} (h : tyTab 40 = some d) : TyOk Try.prog 40 d := by
  cases h; exact ⟨Try.underlying40, Try.t40, Try.type40, rfl, rfl, rfl⟩
theorem tyOk41 {d : Ty} (h : tyTab 41 = some d) : TyOk Try.prog 41 d := by
  cases h; exact ⟨Try.underlying41, Try.t41, Try.type41, rfl, rfl, rfl⟩
theorem tyOk42 {d : Ty} (h : tyTab 42 = some d) : TyOk Try.prog 42 d := by
  cases h; exact ⟨Try.underlying42, Try.t42, Try.type42, rfl, rfl, rfl⟩
theorem tyOk43 {d : Ty} (h : tyTab 43 = some d) : TyOk Try.prog 43 d := by
  cases h; exact ⟨Try.underlying43, Try.t43, Try.type43, rfl, rfl, rfl⟩
theorem tyOk44 {d : Ty} (h : tyTab 44 = some d) : TyOk Try.prog 44 d := by
  cases h; exact ⟨Try.underlying44, Try.t44, Try.type44, rfl, rfl, rfl⟩
theorem tyOk45 {d : Ty} (h : tyTab 45 = some d) : TyOk Try.prog 45 d := by
  cases h; exact ⟨Try.underlying45, Try.t45, Try.type45, rfl, rfl, rfl⟩
theorem tyOk46 {d : Ty} (h : tyTab 46 = some d) : TyOk Try.prog 46 d := by
  cases h; exact ⟨Try.underlying46, Try.t46, Try.type46, rfl, rfl, rfl⟩
theorem tyOk47 {d : Ty} (h : tyTab 47 = some d) : TyOk Try.prog 47 d := by
  cases h; exact ⟨Try.underlying47, Try.t47, Try.type47, rfl, rfl, rfl⟩
theorem tyOk48 {d : Ty} (h : tyTab 48 = some d) : TyOk Try.prog 48 d := by
  cases h; exact ⟨Try.underlying48, Try.t48, Try.type48, rfl, rfl, rfl⟩
theorem tyOk49 {d : Ty} (h : tyTab 49 = some d) : TyOk Try.prog 49 d := by
  cases h; exact ⟨Try.underlying49, Try.t49, Try.type49, rfl, rfl, rfl⟩
theorem tyOk50 {d : Ty} (h : tyTab 50 = some d) : TyOk Try.prog 50 d := by
  cases h; exact ⟨Try.underlying50, Try.t50, Try.type50, rfl, rfl, rfl⟩
theorem tyOk51 {d : Ty} (h : tyTab 51 = some d) : TyOk Try.prog 51 d := by
  cases h; exact ⟨Try.underlying51, Try.t51, Try.type51, rfl, rfl, rfl⟩
theorem tyOk52 {d : Ty} (h : tyTab 52 = some d) : TyOk Try.prog 52 d := by
  cases h; exact ⟨Try.underlying52, Try.t52, Try.type52, rfl, rfl, rfl⟩
theorem tyOk53 {d : Ty} (h : tyTab 53 = some d) : TyOk Try.prog 53 d := by
  cases h; exact ⟨Try.underlying53, Try.t53, Try.type53, rfl, rfl, rfl⟩
theorem tyOk54 {d : Ty} (h : tyTab 54 = some d) : TyOk Try.prog 54 d := by
  cases h; exact ⟨Try.underlying54, Try.t54, Try.type54, rfl, rfl, rfl⟩
theorem tyOk55 {d : Ty} (h : tyTab 55 = some d) : TyOk Try.prog 55 d := by
  cases h; exact ⟨Try.underlying55, Try.t55, Try.type55, rfl, rfl, rfl⟩
theorem tyOk56 {d : Ty} (h : tyTab 56 = some d) : TyOk Try.prog 56 d := by
  cases h; exact ⟨Try.underlying56, Try.t56, Try.type56, rfl, rfl, rfl⟩
theorem tyOk57 {d : Ty} (h : tyTab 57 = some d) : TyOk Try.prog 57 d := by
  cases h; exact ⟨Try.underlying57, Try.t57, Try.type57, rfl, rfl, rfl⟩
theorem tyOk58 {d : Ty} (h : tyTab 58 = some d) : TyOk Try.prog 58 d := by
  cases h; exact ⟨Try.underlying58, Try.t58, Try.type58, rfl, rfl, rfl⟩
theorem tyOk59 {d : Ty} (h : tyTab 59 = some d) : TyOk Try.prog 59 d := by
  cases h; exact ⟨Try.underlying59, Try.t59, Try.type59, rfl, rfl, rfl⟩
theorem tyOk60 {d : Ty} (h : tyTab 60 = some d) : TyOk Try.prog 60 d := by
  cases h; exact ⟨Try.underlying60, Try.t60, Try.type60, rfl, rfl, rfl⟩
theorem tyOk62 {d : Ty} (h : tyTab 62 = some d) : TyOk Try.prog 62 d := by
  cases h; exact ⟨Try.underlying62, Try.t62, Try.type62, rfl, rfl, rfl⟩
theorem tyOk63 {d : Ty} (h : tyTab 63 = some d) : TyOk Try.prog 63 d := by
  cases h; exact ⟨Try.underlying63, Try.t63, Try.type63, rfl, rfl, rfl⟩
theorem tyOk64 {d : Ty} (h : tyTab 64 = some d) : TyOk Try.prog 64 d := by
  cases h; exact ⟨Try.underlying64, Try.t64, Try.type64, rfl, rfl, rfl⟩
theorem tyOk65 {d : Ty} (h : tyTab 65 = some d) : TyOk Try.prog 65 d := by
  cases h; exact ⟨Try.underlying65, Try.t65, Try.type65, rfl, rfl, rfl⟩
theorem tyOk67 {d : Ty} (h : tyTab 67 = some d) : TyOk Try.prog 67 d := by
  cases h; exact ⟨Try.underlying67, Try.t67, Try.type67, rfl, rfl, rfl⟩
theorem tyOk68 {d : Ty} (h : tyTab 68 = some d) : TyOk Try.prog 68 d := by
  cases h; exact ⟨Try.underlying68, Try.t68, Try.type68, rfl, rfl, rfl⟩
theorem tyOk69 {d : Ty} (h : tyTab 69 = some d) : TyOk Try.prog 69 d := by
  cases h; exact ⟨Try.underlying69, Try.t69, Try.type69, rfl, rfl, rfl⟩
theorem tyOk70 {d : Ty} (h : tyTab 70 = some d) : TyOk Try.prog 70 d := by
  cases h; exact ⟨Try.underlying70, Try.t70, Try.type70, rfl, rfl, rfl⟩
theorem tyOk71 {d : Ty} (h : tyTab 71 = some d) : TyOk Try.prog 71 d := by
  cases h; exact ⟨Try.underlying71, Try.t71, Try.type71, rfl, rfl, rfl⟩
theorem tyOk72 {d : Ty} (h : tyTab 72 = some d) : TyOk Try.prog 72 d := by
  cases h; exact ⟨Try.underlying72, Try.t72, Try.type72, rfl, rfl, rfl⟩
theorem tyOk73 {d : Ty} (h : tyTab 73 = some d) : TyOk Try.prog 73 d := by
  cases h; exact ⟨Try.underlying73, Try.t73, Try.type73, rfl, rfl, rfl⟩
theorem tyOk74 {d : Ty} (h : tyTab 74 = some d) : TyOk Try.prog 74 d := by
  cases h; exact ⟨Try.underlying74, Try.t74, Try.type74, rfl, rfl, rfl⟩
theorem tyOk75 {d : Ty} (h : tyTab 75 = some d) : TyOk Try.prog 75 d := by
  cases h; exact ⟨Try.underlying75, Try.t75, Try.type75, rfl, rfl, rfl⟩
theorem tyOk76 {d : Ty} (h : tyTab 76 = some d) : TyOk Try.prog 76 d := by
  cases h; exact ⟨Try.underlying76, Try.t76, Try.type76, rfl, rfl, rfl⟩
theorem tyOk77 {d : Ty} (h : tyTab 77 = some d) : TyOk Try.prog 77 d := by
  cases h; exact ⟨Try.underlying77, Try.t77, Try.type77, rfl, rfl, rfl⟩
theorem tyOk78 {d : Ty} (h : tyTab 78 = some d) : TyOk Try.prog 78 d := by
  cases h; exact ⟨Try.underlying78, Try.t78, Try.type78, rfl, rfl, rfl⟩
theorem tyOk79 {d : Ty} (h : tyTab 79 = some d) : TyOk Try.prog 79 d := by
  cases h; exact ⟨Try.underlying79, Try.t79, Try.type79, rfl, rfl, rfl⟩
theorem tyOk80 {d : Ty} (h : tyTab 80 = some d) : TyOk Try.prog 80 d := by
  cases h; exact ⟨Try.underlying80, Try.t80, Try.type80, rfl, rfl, rfl⟩
theorem tyOk81 {d : Ty} (h : tyTab 81 = some d) : TyOk Try.prog 81 d := by
  cases h; exact ⟨Try.underlying81, Try.t81, Try.type81, rfl, rfl, rfl⟩
theorem tyOk82 {d : Ty} (h : tyTab 82 = some d) : TyOk Try.prog 82 d := by
  cases h; exact ⟨Try.underlying82, Try.t82, Try.type82, rfl, rfl, rfl⟩
theorem tyOk83 {d : Ty} (h : tyTab 83 = some d) : TyOk Try.prog 83 d := by
  cases h; exact ⟨Try.underlying83, Try.t83, Try.type83, rfl, rfl, rfl⟩
theorem tyOk84 {d : Ty} (h : tyTab 84 = some d) : TyOk Try.prog 84 d := by
  cases h; exact ⟨Try.underlying84, Try.t84, Try.type84, rfl, rfl, rfl⟩
theorem tyOk85 {d : Ty} (h : tyTab 85 = some d) : TyOk Try.prog 85 d := by
  cases h; exact ⟨Try.underlying85, Try.t85, Try.type85, rfl, rfl, rfl⟩
theorem tyOk86 {d : Ty} (h : tyTab 86 = some d) : TyOk Try.prog 86 d := by
  cases h; exact ⟨Try.underlying86, Try.t86, Try.type86, rfl, rfl, rfl⟩
theorem tyOk87 {d : Ty} (h : tyTab 87 = some d) : TyOk Try.prog 87 d := by
  cases h; exact ⟨Try.underlying87, Try.t87, Try.type87, rfl, rfl, rfl⟩
theorem tyOk88 {d : Ty} (h : tyTab 88 = some d) : TyOk Try.prog 88 d := by
  cases h; exact ⟨Try.underlying88, Try.t88, Try.type88, rfl, rfl, rfl⟩
theorem tyOk89 {d : Ty} (h : tyTab 89 = some d) : TyOk Try.prog 89 d := by
  cases h; exact ⟨Try.underlying89, Try.t89, Try.type89, rfl, rfl, rfl⟩
theorem tyOk90 {d : Ty} (h : tyTab 90 = some d) : TyOk Try.prog 90 d := by
  cases h; exact ⟨Try.underlying90, Try.t90, Try.type90, rfl, rfl, rfl⟩
theorem tyOk92 {d : Ty} (h : tyTab 92 = some d) : TyOk Try.prog 92 d := by
  cases h; exact ⟨Try.underlying92, Try.t92, Try.type92, rfl, rfl, rfl⟩
theorem tyOk93 {d : Ty} (h : tyTab 93 = some d) : TyOk Try.prog 93 d := by
  cases h; exact ⟨Try.underlying93, Try.t93, Try.type93, rfl, rfl, rfl⟩
theorem tyOk94 {d : Ty} (h : tyTab 94 = some d) : TyOk Try.prog 94 d := by
  cases h; exact ⟨Try.underlying94, Try.t94, Try.type94, rfl, rfl, rfl⟩
theorem tyOk95 {d : Ty} (h : tyTab 95 = some d) : TyOk Try.prog 95 d := by
  cases h; exact ⟨Try.underlying95, Try.t95, Try.type95, rfl, rfl, rfl⟩
theorem tyOk96 {d : Ty} (h : tyTab 96 = some d) : TyOk Try.prog 96 d := by
  cases h; exact ⟨Try.underlying96, Try.t96, Try.type96, rfl, rfl, rfl⟩
theorem tyOk97 {d : Ty} (h : tyTab 97 = some d) : TyOk Try.prog 97 d := by
  cases h; exact ⟨Try.underlying97, Try.t97, Try.type97, rfl, rfl, rfl⟩
theorem tyOk98 {d : Ty} (h : tyTab 98 = some d) : TyOk Try.prog 98 d := by
  cases h; exact ⟨Try.underlying98, Try.t98, Try.type98, rfl, rfl, rfl⟩
theorem tyOk99 {d : Ty} (h : tyTab 99 = some d) : TyOk Try.prog 99 d := by
  cases h; exact ⟨Try.underlying99, Try.t99, Try.type99, rfl, rfl, rfl⟩
theorem tyOk100 {d : Ty} (h : tyTab 100 = some d) : TyOk Try.prog 100 d := by
  cases h; exact ⟨Try.underlying100, Try.t100, Try.type100, rfl, rfl, rfl⟩
theorem tyOk101 {d : Ty} (h : tyTab 101 = some d) : TyOk Try.prog 101 d := by
  cases h; exact ⟨Try.underlying101, Try.t101, Try.type101, rfl, rfl, rfl⟩
theorem tyOk102 {d : Ty} (h : tyTab 102 = some d) : TyOk Try.prog 102 d := by
  cases h; exact ⟨Try.underlying102, Try.t102, Try.type102, rfl, rfl, rfl⟩
theorem tyOk103 {d : Ty} (h : tyTab 103 = some d) : TyOk Try.prog 103 d := by
  cases h; exact ⟨Try.underlying103, Try.t103, Try.type103, rfl, rfl, rfl⟩
theorem tyOk104 {d : Ty} (h : tyTab 104 = some d) : TyOk Try.prog 104 d := by
  cases h; exact ⟨Try.underlying104, Try.t104, Try.type104, rfl, rfl, rfl⟩
theorem tyOk105 {d : Ty} (h : tyTab 105 = some d) : TyOk Try.prog 105 d := by
  cases h; exact ⟨Try.underlying105, Try.t105, Try.type105, rfl, rfl, rfl⟩
theorem tyOk106 {d : Ty} (h : tyTab 106 = some d) : TyOk Try.prog 106 d := by
  cases h; exact ⟨Try.underlying106, Try.t106, Try.type106, rfl, rfl, rfl⟩
theorem tyOk107 {d : Ty} (h : tyTab 107 = some d) : TyOk Try.prog 107 d := by
  cases h; exact ⟨Try.underlying107, Try.t107, Try.type107, rfl, rfl, rfl⟩
theorem tyOk108 {d : Ty} (h : tyTab 108 = some d) : TyOk Try.prog 108 d := by
  cases h; exact ⟨Try.underlying108, Try.t108, Try.type108, rfl, rfl, rfl⟩

theorem tyTab_ok {T : Nat} {d : Ty} (h : tyTab T = some d) : TyOk Try.prog T d := by
  by_cases h2 : T = 2
  · subst h2; exact tyOk2 h
  by_cases h3 : T = 3
  · subst h3; exact tyOk3 h
  by_cases h4 : T = 4
  · subst h4; exact tyOk4 h
  by_cases h5 : T = 5
  · subst h5; exact tyOk5 h
  by_cases h6 : T = 6
  · subst h6; exact tyOk6 h
  by_cases h7 : T = 7
  · subst h7; exact tyOk7 h
  by_cases h8 : T = 8
  · subst h8; exact tyOk8 h
  by_cases h9 : T = 9
  · subst h9; exact tyOk9 h
  by_cases h10 : T = 10
  · subst h10; exact tyOk10 h
  by_cases h11 : T = 11
  · subst h11; exact tyOk11 h
  by_cases h12 : T = 12
  · subst h12; exact tyOk12 h
  by_cases h13 : T = 13
  · subst h13; exact tyOk13 h
  by_cases h14 : T = 14
  · subst h14; exact tyOk14 h
  by_cases h15 : T = 15
  · subst h15; exact tyOk15 h
  by_cases h16 : T = 16
  · subst h16; exact tyOk16 h
  by_cases h17 : T = 17
  · subst h17; exact tyOk17 h
  by_cases h18 : T = 18
  · subst h18; exact tyOk18 h
  by_cases h19 : T = 19
  · subst h19; exact tyOk19 h
  by_cases h21 : T = 21
  · subst h21; exact tyOk21 h
  by_cases h22 : T = 22
  · subst h22; exact tyOk22 h
  by_cases h23 : T = 23
  · subst h23; exact tyOk23 h
  by_cases h24 : T = 24
  · subst h24; exact tyOk24 h
  by_cases h25 : T = 25
  · subst h25; exact tyOk25 h
  by_cases h26 : T = 26
  · subst h26; exact tyOk26 h
  by_cases h27 : T = 27
  · subst h27; exact tyOk27 h
  by_cases h28 : T = 28
  · subst h28; exact tyOk28 h
  by_cases h29 : T = 29
  · subst h29; exact tyOk29 h
  by_cases h30 : T = 30
  · subst h30; exact tyOk30 h
  by_cases h31 : T = 31
  · subst h31; exact tyOk31 h
  by_cases h33 : T = 33
  · subst h33; exact tyOk33 h
  by_cases h34 : T = 34
  · subst h34; exact tyOk34 h
  by_cases h36 : T = 36
  · subst h36; exact tyOk36 h
  by_cases h37 : T = 37
  · subst h37; exact tyOk37 h
  by_cases h38 : T = 38
  · subst h38; exact tyOk38 h
  by_cases h39 : T = 39
  · subst h39; exact tyOk39 h
  by_cases h40 : T = 40
  · subst h40; exact tyOk40 h
  by_cases h41 : T = 41
  · subst h41; exact tyOk41 h
  by_cases h42 : T = 42
  · subst h42; exact tyOk42 h
  by_cases h43 : T = 43
  · subst h43; exact tyOk43 h
  by_cases h44 : T = 44
  · subst h44; exact tyOk44 h
  by_cases h45 : T = 45
  · subst h45; exact tyOk45 h
  by_cases h46 : T = 46
  · subst h46; exact tyOk46 h
  by_cases h47 : T = 47
  · subst h47; exact tyOk47 h
  by_cases h48 : T = 48
  · subst h48; exact tyOk48 h
  by_cases h49 : T = 49
  · subst h49; exact tyOk49 h
  by_cases h50 : T = 50
  · subst h50; exact tyOk50 h
  by_cases h51 : T = 51
  · subst h51; exact tyOk51 h
  by_cases h52 : T = 52
  · subst h52; exact tyOk52 h
  by_cases h53 : T = 53
  · subst h53; exact tyOk53 h
  by_cases h54 : T = 54
  · subst h54; exact tyOk54 h
  by_cases h55 : T = 55
  · subst h55; exact tyOk55 h
  by_cases h56 : T = 56
  · subst h56; exact tyOk56 h
  by_cases h57 : T = 57
  · subst h57; exact tyOk57 h
  by_cases h58 : T = 58
  · subst h58; exact tyOk58 h
  by_cases h59 : T = 59
  · subst h59; exact tyOk59 h
  by_cases h60 : T = 60
  · subst h60; exact tyOk60 h
  by_cases h62 : T = 62
  · subst h62; exact tyOk62 h
  by_cases h63 : T = 63
  · subst h63; exact tyOk63 h
  by_cases h64 : T = 64
  · subst h64; exact tyOk64 h
  by_cases h65 : T = 65
  · subst h65; exact tyOk65 h
  by_cases h67 : T = 67
  · subst h67; exact tyOk67 h
  by_cases h68 : T = 68
  · subst h68; exact tyOk68 h
  by_cases h69 : T = 69
  · subst h69; exact tyOk69 h
  by_cases h70 : T = 70
  · subst h70; exact tyOk70 h
  by_cases h71 : T = 71
  · subst h71; exact tyOk71 h
  by_cases h72 : T = 72
  · subst h72; exact tyOk72 h
  by_cases h73 : T = 73
  · subst h73; exact tyOk73 h
  by_cases h74 : T = 74
  · subst h74; exact tyOk74 h
  by_cases h75 : T = 75
  · subst h75; exact tyOk75 h
  by_cases h76 : T = 76
  · subst h76; exact tyOk76 h
  by_cases h77 : T = 77
  · subst h77; exact tyOk77 h
  by_cases h78 : T = 78
  · subst h78; exact tyOk78 h
  by_cases h79 : T = 79
  · subst h79; exact tyOk79 h
  by_cases h80 : T = 80
  · subst h80; exact tyOk80 h
  by_cases h81 : T = 81
  · subst h81; exact tyOk81 h
  by_cases h82 : T = 82
  · subst h82; exact tyOk82 h
  by_cases h83 : T = 83
  · subst h83; exact tyOk83 h
  by_cases h84 : T = 84
  · subst h84; exact tyOk84 h
  by_cases h85 : T = 85
  · subst h85; exact tyOk85 h
  by_cases h86 : T = 86
  · subst h86; exact tyOk86 h
  by_cases h87 : T = 87
  · subst h87; exact tyOk87 h
  by_cases h88 : T = 88
  · subst h88; exact tyOk88 h
  by_cases h89 : T = 89
  · subst h89; exact tyOk89 h
  by_cases h90 : T = 90
  · subst h90; exact tyOk90 h
  by_cases h92 : T = 92
  · subst h92; exact tyOk92 h
  by_cases h93 : T = 93
  · subst h93; exact tyOk93 h
  by_cases h94 : T = 94
  · subst h94; exact tyOk94 h
  by_cases h95 : T = 95
  · subst h95; exact tyOk95 h
  by_cases h96 : T = 96
  · subst h96; exact tyOk96 h
  by_cases h97 : T = 97
  · subst h97; exact tyOk97 h
  by_cases h98 : T = 98
  · subst h98; exact tyOk98 h
  by_cases h99 : T = 99
  · subst h99; exact tyOk99 h
  by_cases h100 : T = 100
  · subst h100; exact tyOk100 h
  by_cases h101 : T = 101
  · subst h101; exact tyOk101 h
  by_cases h102 : T = 102
  · subst h102; exact tyOk102 h
  by_cases h103 : T = 103
  · subst h103; exact tyOk103 h
  by_cases h104 : T = 104
  · subst h104; exact tyOk104 h
  by_cases h105 : T = 105
  · subst h105; exact tyOk105 h
  by_cases h106 : T = 106
  · subst h106; exact tyOk106 h
  by_cases h107 : T = 107
  · subst h107; exact tyOk107 h
  by_cases h108 : T = 108
  · subst h108; exact tyOk108 h
  exfalso; unfold tyTab at h; split at h <;> first | contradiction | cases h

instance : Tab Try.prog := ⟨tyTab, tyTab_ok⟩

end Go.Sx
end
section
set_option linter.unusedVariables false
set_option linter.unusedSimpArgs false
set_option linter.unusedVariables false
set_option linter.unusedSimpArgs false
namespace Go.Sx
open Go.RowKit
def linkRep : Rep (Int × Int) := (Rep.int .i64).pair (Rep.int .i64)
theorem linkRep_to : linkRep.Cell 0 (fun x => .int .i64 x.1) := Rep.pair_cell1 (Rep.int_cell .i64)
theorem linkRep_weight : linkRep.Cell 1 (fun x => .int .i64 x.2) := Rep.pair_cell2 (Rep.int_cell .i64)

section
variable {P : Program} {rd : Option Nat} {c : Ctx} {n : Sz} {σ : Fr} {M L : List Fact}
variable {d : Option Tmp} {ty : TypeId} {pos : String} {aft : Array Edge} {g : Option (Nat × Bool)}
theorem Y.loadInt [Tab P] {T : TypeId} {k : IntKind} {s2 : Nat} {z : Value} {dT : TypeDesc} {x : Operand} {v : Value} {i : Int} {xs : List Int} (hx : ev σ x = some (elq v (i.toNat * 1))) (hf : Sl (Rep.int k) v xs ∈ L)
    (hT : Tab.tab P T = some ⟨dT, 1, s2, z⟩) (hd : aggD dT = false) (h0 : 0 ≤ i) (h1 : i < xs.length) : Y P c n σ M L ⟨d, .load T x, ty, pos, aft, g⟩ (.int k (at' xs i)) :=
  Y.loadEl (f := fun x => .int k x) hx hf hT hd rfl (Rep.int_cell k) h0 h1
theorem Y.loadSl [Tab P] {α : Type} {r : Rep α} {T : TypeId} {s2 : Nat} {z : Value} {dT : TypeDesc} {x : Operand} {v : Value} {i : Int} {xs : List (Value × List α)} (hx : ev σ x = some (elq v (i.toNat * 1))) (hf : Sl (Rep.sl r) v xs ∈ L)
    (hT : Tab.tab P T = some ⟨dT, 1, s2, z⟩) (hd : aggD dT = false) (h0 : 0 ≤ i) (h1 : i < xs.length) : Y P c n σ M L ⟨d, .load T x, ty, pos, aft, g⟩ (at' xs i).1 :=
  Y.loadEl (f := fun x => x.1) hx hf hT hd rfl (Rep.sl_cell r) h0 h1
theorem Y.loadTo [Tab P] {T : TypeId} {s1 s2 : Nat} {z : Value} {dT : TypeDesc} {x : Operand} {v : Value} {i : Int} {xs : List (Int × Int)} (hx : ev σ x = some (elq v (i.toNat * 2 + 0))) (hf : Sl linkRep v xs ∈ L)
    (hT : Tab.tab P T = some ⟨dT, s1, s2, z⟩) (hd : aggD dT = false) (h0 : 0 ≤ i) (h1 : i < xs.length) : Y P c n σ M L ⟨d, .load T x, ty, pos, aft, g⟩ (.int .i64 (at' xs i).1) :=
  Y.loadFd (f := fun x => .int .i64 x.1) hx hf hT hd rfl linkRep_to h0 h1
theorem Y.loadWeight [Tab P] {T : TypeId} {s1 s2 : Nat} {z : Value} {dT : TypeDesc} {x : Operand} {v : Value} {i : Int} {xs : List (Int × Int)} (hx : ev σ x = some (elq v (i.toNat * 2 + 1))) (hf : Sl linkRep v xs ∈ L)
    (hT : Tab.tab P T = some ⟨dT, s1, s2, z⟩) (hd : aggD dT = false) (h0 : 0 ≤ i) (h1 : i < xs.length) : Y P c n σ M L ⟨d, .load T x, ty, pos, aft, g⟩ (.int .i64 (at' xs i).2) :=
  Y.loadFd (f := fun x => .int .i64 x.2) hx hf hT hd rfl linkRep_weight h0 h1
theorem Y.loadLink [Tab P] {T : TypeId} {s2 : Nat} {z : Value} {dT : TypeDesc} {x : Operand} {v : Value} {i : Int} {xs : List (Int × Int)} (hx : ev σ x = some (elq v (i.toNat * 2))) (hf : Sl linkRep v xs ∈ L)
    (hT : Tab.tab P T = some ⟨dT, 2, s2, z⟩) (hd : aggD dT = true) (h0 : 0 ≤ i) (h1 : i < xs.length) : Y P c n σ M L ⟨d, .load T x, ty, pos, aft, g⟩ (.agg #[.int .i64 (at' xs i).1, .int .i64 (at' xs i).2]) := fun a w s t => by
  obtain ⟨S, h⟩ := t.fact hf
  obtain ⟨es, hr, hes⟩ := sl_cell h (at'_some h0 h1)
  obtain ⟨c1, c2, rfl, h1, h2⟩ := hr
  have e1 : c1 = [.int .i64 (at' xs i).1] := h1
  have e2 : c2 = [.int .i64 (at' xs i).2] := h2
  subst e1 e2
  have := run_loadAll (w := w) (A := elA v (i.toNat * 2)) (cs := [.int .i64 (at' xs i).1, .int .i64 (at' xs i).2]) (Tab.ok hT) hd rfl (fun j e he => by rw [elA_add]; exact hes j e he)
  simp [execOp, s.eval hx, elq, this]
end
/-- membership, by looking -/
theorem mem1 {α : Type} {a : α} {l : List α} (h : a ∈ l := by
    first
      | with_reducible exact List.mem_cons_self
      | with_reducible exact List.mem_cons_of_mem _ (List.mem_cons_self)
      | with_reducible exact List.mem_cons_of_mem _ (List.mem_cons_of_mem _ (List.mem_cons_self))
      | with_reducible exact List.mem_cons_of_mem _ (List.mem_cons_of_mem _ (List.mem_cons_of_mem _ (List.mem_cons_self)))
      | with_reducible exact List.mem_cons_of_mem _ (List.mem_cons_of_mem _ (List.mem_cons_of_mem _ (List.mem_cons_of_mem _ (List.mem_cons_self))))
      | with_reducible exact List.mem_cons_of_mem _ (List.mem_cons_of_mem _ (List.mem_cons_of_mem _ (List.mem_cons_of_mem _ (List.mem_cons_of_mem _ (List.mem_cons_self)))))
      | with_reducible exact List.mem_cons_of_mem _ (List.mem_cons_of_mem _ (List.mem_cons_of_mem _ (List.mem_cons_of_mem _ (List.mem_cons_of_mem _ (List.mem_cons_of_mem _ (List.mem_cons_self))))))
      | with_reducible exact List.mem_cons_of_mem _ (List.mem_cons_of_mem _ (List.mem_cons_of_mem _ (List.mem_cons_of_mem _ (List.mem_cons_of_mem _ (List.mem_cons_of_mem _ (List.mem_cons_of_mem _ (List.mem_cons_self)))))))
      | with_reducible exact List.mem_cons_of_mem _ (List.mem_cons_of_mem _ (List.mem_cons_of_mem _ (List.mem_cons_of_mem _ (List.mem_cons_of_mem _ (List.mem_cons_of_mem _ (List.mem_cons_of_mem _ (List.mem_cons_of_mem _ (List.mem_cons_self))))))))
      | exact List.mem_cons_self
      | exact List.mem_cons_of_mem _ (List.mem_cons_self)
      | exact List.mem_cons_of_mem _ (List.mem_cons_of_mem _ (List.mem_cons_self))
      | exact List.mem_cons_of_mem _ (List.mem_cons_of_mem _ (List.mem_cons_of_mem _ (List.mem_cons_self)))
      | exact List.mem_cons_of_mem _ (List.mem_cons_of_mem _ (List.mem_cons_of_mem _ (List.mem_cons_of_mem _ (List.mem_cons_self))))
      | exact List.mem_cons_of_mem _ (List.mem_cons_of_mem _ (List.mem_cons_of_mem _ (List.mem_cons_of_mem _ (List.mem_cons_of_mem _ (List.mem_cons_self)))))
      | exact List.mem_cons_of_mem _ (List.mem_cons_of_mem _ (List.mem_cons_of_mem _ (List.mem_cons_of_mem _ (List.mem_cons_of_mem _ (List.mem_cons_of_mem _ (List.mem_cons_self))))))
      | exact List.mem_cons_of_mem _ (List.mem_cons_of_mem _ (List.mem_cons_of_mem _ (List.mem_cons_of_mem _ (List.mem_cons_of_mem _ (List.mem_cons_of_mem _ (List.mem_cons_of_mem _ (List.mem_cons_self)))))))
      | exact List.mem_cons_of_mem _ (List.mem_cons_of_mem _ (List.mem_cons_of_mem _ (List.mem_cons_of_mem _ (List.mem_cons_of_mem _ (List.mem_cons_of_mem _ (List.mem_cons_of_mem _ (List.mem_cons_of_mem _ (List.mem_cons_self))))))))) : a ∈ l := h

section
variable {P : Program} {rd : Option Nat} {c : Ctx} {n : Sz} {σ : Fr} {M L : List Fact} {Q : Exit → Act → World → Prop} {ops : Array Oper} {rest : List Oper}
/-! rules whose side conditions are found -/
end
end Go.Sx
end
section
set_option linter.unusedVariables false
set_option linter.unusedSimpArgs false
set_option linter.unusedVariables false
set_option linter.unusedSimpArgs false
namespace Go.Sx
open Go.RowKit
section
variable {P : Program} {ops : Array Oper} {Q : Exit → Act → World → Prop}
def NoQ : Exit → Act → World → Prop := fun _ _ _ => False

theorem letsNoQ : ¬ LetsOut NoQ := fun ⟨_, _, h⟩ => h

theorem nwp_Q {o : Oper} {a : Act} {w : World} {K : Act → World → Prop} (h : o.wp P a w K NoQ) : o.wp P a w K Q := by
  unfold Oper.wp at *
  generalize (execOp a.eval o).run P w = r at *
  cases r with
  | ok n w' =>
    cases n <;> simp only [Oper.upon] at h ⊢ <;> first
      | exact h
      | exact Calls.mono h (fun e w'' he => by cases e <;> first | exact he | exact absurd he letsNoQ | exact he.elim)
  | halt x w' => cases x <;> simp only [Oper.upon] at h ⊢ <;> first | exact h | exact h.elim

/-- an outcome differs from its act in the slot d alone (and in the deferred calls) -/
def Like (a a' : Act) (d : Option Tmp) : Prop := ∃ u ds, a' = ({ a with defers := ds } : Act).put d u

theorem nwp_like {o : Oper} {a : Act} {w : World} {K : Act → World → Prop} (h : o.wp P a w K NoQ) : o.wp P a w (fun a' w' => K a' w' ∧ Like a a' o.dst) NoQ := by
  unfold Oper.wp at *
  generalize (execOp a.eval o).run P w = r at *
  cases r with
  | ok n w' =>
    cases n <;> simp only [Oper.upon] at h ⊢
    case value v => exact ⟨h, v, a.defers, rfl⟩
    case skip => exact ⟨h, undef, a.defers, rfl⟩
    case defer d => exact ⟨h, undef, d :: a.defers, rfl⟩
    case enter f args =>
      refine Calls.mono h fun e w'' he => ?_
      cases e with
      | returned v => exact ⟨he, v, a.defers, rfl⟩
      | panicked c => exact he
      | outgrown => exact he
    case row row args => exact Rows.mono h fun v w'' he => ⟨he, v, a.defers, rfl⟩
  | halt x w' => cases x <;> simp only [Oper.upon] at h ⊢ <;> exact h

theorem nwp_some {o : Oper} {a : Act} {w : World} {K : Act → World → Prop} (h : o.wp P a w K NoQ) : ∃ a' w', K a' w' := by
  unfold Oper.wp at *
  generalize (execOp a.eval o).run P w = r at *
  cases r with
  | ok n w' =>
    cases n <;> simp only [Oper.upon] at h
    case value v => exact ⟨_, _, h⟩
    case skip => exact ⟨_, _, h⟩
    case defer d => exact ⟨_, _, h⟩
    case enter f args =>
      obtain ⟨e, w'', fr, he, _⟩ := h []
      cases e with
      | returned v => exact ⟨_, _, he⟩
      | panicked c => exact he.elim
      | outgrown => exact absurd he letsNoQ
    case row row args =>
      obtain ⟨v, w'', he, _⟩ := h default []
      exact ⟨_, _, he⟩
  | halt x w' => cases x <;> simp only [Oper.upon] at h <;> exact h.elim

theorem nwp_put {o : Oper} {a : Act} {w : World} {K : Act → World → Prop} {d : Option Tmp} {v : Value} (hs : ∀ cs b, o.op ≠ .select cs b) (h1 : ∀ t, d = some t → t ∉ o.looksAt ops) (h2 : ∀ t, d = some t → o.dst ≠ some t)
    (h : o.wp P a w K NoQ) : o.wp P (a.put d v) w (fun a' w' => ∃ a1, K a1 w' ∧ a' = a1.put d v) NoQ := by
  unfold Oper.wp at *
  rw [execOp_put (ops := ops) o hs a d v h1]
  have hd : (a.put d v).defers = a.defers := by cases d <;> rfl
  generalize (execOp a.eval o).run P w = r at *
  cases r with
  | ok n w' =>
    cases n <;> simp only [Oper.upon] at h ⊢
    case value u => exact ⟨_, h, Act.put_comm a v u h2⟩
    case skip => exact ⟨_, h, Act.put_comm a v undef h2⟩
    case defer e => exact ⟨_, h, by rw [Act.put_defers, Act.put_comm _ v undef h2]⟩
    case enter f args =>
      refine Calls.mono h fun e w'' he => ?_
      cases e with
      | returned u => exact ⟨_, he, Act.put_comm a v u h2⟩
      | panicked c => exact he
      | outgrown => exact he
    case row row args => exact Rows.mono h fun u w'' he => ⟨_, he, Act.put_comm a v u h2⟩
  | halt x w' => cases x <;> simp only [Oper.upon] at h ⊢ <;> exact h

theorem nwp_mono {o : Oper} {a : Act} {w : World} {K K' : Act → World → Prop} (hk : ∀ a w, K a w → K' a w) (h : o.wp P a w K NoQ) : o.wp P a w K' NoQ := Oper.wp_mono hk h

/-- the value v, in every world where B stands; B stands now, and stood before every loud operation that need not come first -/
def Quiet (P : Program) (A : Nat → Nat → Bool) (i : Nat) (o : Oper) (a : Act) (w : World) (H : List (Nat × World)) (v : Value) (B : World → Prop) : Prop :=
  B w ∧ (∀ l ∈ H, A i l.1 = false → B l.2) ∧ ∀ w', B w' → (execOp a.eval o).run P w' = .ok (.value v) w'

/-- the walk of a region in the order of its text; H: the worlds before the loud operations that are past; Bs: what the quiet ones that are past lean on -/
def RW (P : Program) (ops : Array Oper) (Q : Exit → Act → World → Prop) (A : Nat → Nat → Bool) (loud : Nat → Bool) (k0 : Nat) : List Nat → Act → World → List (Nat × World) → List (Nat × (World → Prop)) → Prop
  | [], a, w, _, _ => Q .normal a w
  | i :: rest, a, w, H, Bs =>
    match ops[i]? with
    | none => False
    | some o =>
      if Region.wanted o (yielded ops a.tmps) then
        (k0 ≤ i ∧ (o.wp P a w (fun a' w' => RW P ops Q A loud k0 rest a' w' H Bs) Q ∨ o.rnd P a w (fun a' w' => RW P ops Q A loud k0 rest a' w' H Bs))) ∨
        (i < k0 ∧ loud i = false ∧ ∃ v B, Quiet P A i o a w H v B ∧ RW P ops Q A loud k0 rest (a.put o.dst v) w H ((i, B) :: Bs)) ∨
        (i < k0 ∧ loud i = true ∧ o.wp P a w (fun a' w' => (∀ b ∈ Bs, A i b.1 = false → b.2 w') ∧ RW P ops Q A loud k0 rest a' w' ((i, w) :: H) Bs) NoQ)
      else RW P ops Q A loud k0 rest (a.put o.dst undef) w H Bs

variable {A : Nat → Nat → Bool} {loud : Nat → Bool} {k0 : Nat}
/-- fewer leanings -/
theorem RW.less : ∀ (L : List Nat) (a : Act) (w : World) (H : List (Nat × World)) (Bs Bs' : List (Nat × (World → Prop))), (∀ b ∈ Bs', b ∈ Bs) → RW P ops Q A loud k0 L a w H Bs → RW P ops Q A loud k0 L a w H Bs' := by
  intro L
  induction L with
  | nil => intro a w H Bs Bs' _ h; exact h
  | cons i L ih =>
    intro a w H Bs Bs' hb h
    simp only [RW] at h ⊢
    cases ho : ops[i]? with
    | none => simp [ho] at h
    | some o =>
      simp only [ho] at h ⊢
      split
      · rename_i hw
        rw [if_pos hw] at h
        rcases h with ⟨h1, h2⟩ | ⟨h1, h2, v, B, h3, h4⟩ | ⟨h1, h2, h3⟩
        · refine .inl ⟨h1, ?_⟩
          rcases h2 with h2 | h2
          · exact .inl (Oper.wp_mono (fun a w h => ih a w H Bs Bs' hb h) h2)
          · exact .inr (Oper.rnd_mono (fun a w h => ih a w H Bs Bs' hb h) h2)
        · exact .inr (.inl ⟨h1, h2, v, B, h3, ih _ _ _ _ _ (fun b hm => by
            rcases List.mem_cons.1 hm with rfl | hm
            · exact List.mem_cons_self
            · exact List.mem_cons_of_mem _ (hb b hm)) h4⟩)
        · exact .inr (.inr ⟨h1, h2, nwp_mono (fun a w h => ⟨fun b hm => h.1 b (hb b hm), ih a w _ Bs Bs' hb h.2⟩) h3⟩)
      · rename_i hw
        rw [if_neg hw] at h
        exact ih _ _ _ _ _ hb h

structure Indep (ops : Array Oper) (A : Nat → Nat → Bool) (loud : Nat → Bool) (x i : Nat) : Prop where
  na : A i x = false
  nb : A x i = false
  apart : ∀ ox oi, ops[x]? = some ox → ops[i]? = some oi → ox.apart ops oi = true
  one : loud x = false ∨ loud i = false

theorem like_exec {a a' : Act} {o : Oper} {d : Option Tmp} (hs : ∀ cs b, o.op ≠ .select cs b) (h : ∀ t, d = some t → t ∉ o.looksAt ops) (hl : Like a a' d) : execOp a'.eval o = execOp a.eval o ∧ Region.wanted o (yielded ops a'.tmps) = Region.wanted o (yielded ops a.tmps) := by
  obtain ⟨u, ds, rfl⟩ := hl
  refine ⟨(execOp_put (ops := ops) o hs { a with defers := ds } d u h).trans rfl, wanted_put o { a with defers := ds } d u h⟩

theorem Quiet.of_exec {i : Nat} {o : Oper} {a a' : Act} {w : World} {H : List (Nat × World)} {v : Value} {B : World → Prop} (h : Quiet P A i o a w H v B) (e : execOp a'.eval o = execOp a.eval o) : Quiet P A i o a' w H v B := by
  obtain ⟨h1, h2, h3⟩ := h
  exact ⟨h1, h2, fun w' hw => by rw [e]; exact h3 w' hw⟩

/-- a quiet operation that is ready can come first -/
theorem RW.pull_quiet (hsel : ∀ (i : Nat) (o : Oper), ops[i]? = some o → ∀ cs b, o.op ≠ .select cs b) {i : Nat} {o : Oper} {L2 : List Nat} (hi : ops[i]? = some o) (hik : i < k0) (hli : loud i = false) :
    ∀ (L1 : List Nat) (a : Act) (w : World) (H : List (Nat × World)) (Bs : List (Nat × (World → Prop))), (∀ x ∈ L1, Indep ops A loud x i ∧ x < k0) → RW P ops Q A loud k0 (L1 ++ i :: L2) a w H Bs →
      (Region.wanted o (yielded ops a.tmps) = false ∧ RW P ops Q A loud k0 (L1 ++ L2) (a.put o.dst undef) w H Bs) ∨
      (Region.wanted o (yielded ops a.tmps) = true ∧ ∃ v B, Quiet P A i o a w H v B ∧ RW P ops Q A loud k0 (L1 ++ L2) (a.put o.dst v) w H Bs) := by
  intro L1
  induction L1 with
  | nil =>
    intro a w H Bs _ h
    simp only [List.nil_append, RW, hi] at h
    by_cases hw : Region.wanted o (yielded ops a.tmps) = true
    · rw [if_pos hw] at h
      rcases h with ⟨h, _⟩ | ⟨_, _, v, B, hv, h⟩ | ⟨_, h, _⟩
      · omega
      · exact .inr ⟨hw, v, B, hv, RW.less _ _ _ _ _ _ (fun b hb => List.mem_cons_of_mem _ hb) h⟩
      · rw [hli] at h; cases h
    · rw [if_neg hw] at h
      exact .inl ⟨by simpa using hw, h⟩
  | cons x L1 ih =>
    intro a w H Bs hx h
    obtain ⟨hxi, hxk⟩ := hx x List.mem_cons_self
    have hxs : ∀ y ∈ L1, Indep ops A loud y i ∧ y < k0 := fun y hy => hx y (List.mem_cons_of_mem _ hy)
    simp only [List.cons_append, RW] at h ⊢
    cases hox : ops[x]? with
    | none => simp [hox] at h
    | some ox =>
      simp only [hox] at h ⊢
      obtain ⟨p1, p2, p3⟩ := Oper.apart_spec (hxi.apart ox o hox hi)
      have hso := hsel i o hi
      have hsx := hsel x ox hox
      have q2 : ∀ (d : Tmp), o.dst = some d → ox.dst ≠ some d := fun d hd he => p2 d he hd
      have ex : ∀ (b : Act) u, execOp (b.put o.dst u).eval ox = execOp b.eval ox := fun b u => execOp_put (ops := ops) ox hsx b o.dst u p3
      have wx : ∀ (b : Act) u, Region.wanted ox (yielded ops (b.put o.dst u).tmps) = Region.wanted ox (yielded ops b.tmps) := fun b u => wanted_put ox b o.dst u p3
      have ei : ∀ (b : Act) u, execOp (b.put ox.dst u).eval o = execOp b.eval o := fun b u => execOp_put (ops := ops) o hso b ox.dst u p1
      have wi : ∀ (b : Act) u, Region.wanted o (yielded ops (b.put ox.dst u).tmps) = Region.wanted o (yielded ops b.tmps) := fun b u => wanted_put o b ox.dst u p1
      by_cases hw : Region.wanted ox (yielded ops a.tmps) = true
      · rw [if_pos hw] at h
        rcases h with ⟨h, _⟩ | ⟨_, hlx, vx, Bx, hvx, h⟩ | ⟨_, hlx, h⟩
        · omega
        · rcases ih _ w H _ hxs h with ⟨h1, h2⟩ | ⟨h1, v, B, h2, h3⟩
          · rw [wi] at h1
            refine .inl ⟨h1, ?_⟩
            rw [if_pos (by rw [wx]; exact hw)]
            exact .inr (.inl ⟨hxk, hlx, vx, Bx, hvx.of_exec (ex a undef), by rw [← Act.put_comm a vx undef p2]; exact h2⟩)
          · rw [wi] at h1
            refine .inr ⟨h1, v, B, h2.of_exec (ei a vx).symm, ?_⟩
            rw [if_pos (by rw [wx]; exact hw)]
            exact .inr (.inl ⟨hxk, hlx, vx, Bx, hvx.of_exec (ex a v), by rw [← Act.put_comm a vx v p2]; exact h3⟩)
        · have h' := nwp_like h
          obtain ⟨a1, w1, ⟨⟨_, hr1⟩, hl1⟩⟩ := nwp_some h'
          have le := fun {a' : Act} (hl : Like a a' ox.dst) => like_exec (ops := ops) hso p1 hl
          rcases ih a1 w1 _ _ hxs hr1 with ⟨h1, _⟩ | ⟨h1, v, B, ⟨hb1, hb2, hb3⟩, _⟩
          · have hwi : Region.wanted o (yielded ops a.tmps) = false := by rw [← (le hl1).2]; exact h1
            refine .inl ⟨hwi, ?_⟩
            rw [if_pos (by rw [wx]; exact hw)]
            refine .inr (.inr ⟨hxk, hlx, ?_⟩)
            refine nwp_mono ?_ (nwp_put (ops := ops) (d := o.dst) (v := undef) hsx p3 q2 h')
            rintro a2 w2 ⟨a3, ⟨⟨he, hr⟩, hl⟩, rfl⟩
            refine ⟨he, ?_⟩
            rcases ih a3 w2 _ _ hxs hr with ⟨_, h5⟩ | ⟨h4, _⟩
            · exact h5
            · rw [(le hl).2, hwi] at h4; cases h4
          · have hwi : Region.wanted o (yielded ops a.tmps) = true := by rw [← (le hl1).2]; exact h1
            have hbw : B w := hb2 (x, w) List.mem_cons_self hxi.na
            have hrun : (execOp a.eval o).run P w = .ok (.value v) w := by rw [← (le hl1).1]; exact hb3 w hbw
            refine .inr ⟨hwi, v, B, ⟨hbw, fun l hl => hb2 l (List.mem_cons_of_mem _ hl), fun w' hw' => by rw [← (le hl1).1]; exact hb3 w' hw'⟩, ?_⟩
            rw [if_pos (by rw [wx]; exact hw)]
            refine .inr (.inr ⟨hxk, hlx, ?_⟩)
            refine nwp_mono ?_ (nwp_put (ops := ops) (d := o.dst) (v := v) hsx p3 q2 h')
            rintro a2 w2 ⟨a3, ⟨⟨he, hr⟩, hl⟩, rfl⟩
            refine ⟨he, ?_⟩
            rcases ih a3 w2 _ _ hxs hr with ⟨h4, _⟩ | ⟨_, v', B', ⟨_, hb2', hb3'⟩, h5⟩
            · rw [(le hl).2, hwi] at h4; cases h4
            · have hrun' := hb3' w (hb2' (x, w) List.mem_cons_self hxi.na)
              rw [(le hl).1, hrun] at hrun'
              cases hrun'
              exact h5
      · rw [if_neg hw] at h
        have hw' : Region.wanted ox (yielded ops a.tmps) = false := by simpa using hw
        rcases ih _ w H _ hxs h with ⟨h1, h2⟩ | ⟨h1, v, B, h2, h3⟩
        · rw [wi] at h1
          refine .inl ⟨h1, ?_⟩
          rw [if_neg (by rw [wx, hw']; simp), ← Act.put_comm a undef undef p2]
          exact h2
        · rw [wi] at h1
          refine .inr ⟨h1, v, B, h2.of_exec (ei a undef).symm, ?_⟩
          rw [if_neg (by rw [wx, hw']; simp), ← Act.put_comm a undef v p2]
          exact h3

/-- a loud operation that is ready can come first -/
theorem RW.pull_loud (hsel : ∀ (i : Nat) (o : Oper), ops[i]? = some o → ∀ cs b, o.op ≠ .select cs b) {i : Nat} {o : Oper} {L2 : List Nat} (hi : ops[i]? = some o) (hik : i < k0) (hli : loud i = true) :
    ∀ (L1 : List Nat) (a : Act) (w : World) (H : List (Nat × World)) (Bs : List (Nat × (World → Prop))), (∀ x ∈ L1, Indep ops A loud x i ∧ x < k0) → RW P ops Q A loud k0 (L1 ++ i :: L2) a w H Bs →
      (Region.wanted o (yielded ops a.tmps) = false ∧ RW P ops Q A loud k0 (L1 ++ L2) (a.put o.dst undef) w H Bs) ∨
      (Region.wanted o (yielded ops a.tmps) = true ∧ o.wp P a w (fun a' w' => (∀ b ∈ Bs, A i b.1 = false → b.2 w') ∧ RW P ops Q A loud k0 (L1 ++ L2) a' w' ((i, w) :: H) Bs) NoQ) := by
  intro L1
  induction L1 with
  | nil =>
    intro a w H Bs _ h
    simp only [List.nil_append, RW, hi] at h
    by_cases hw : Region.wanted o (yielded ops a.tmps) = true
    · rw [if_pos hw] at h
      rcases h with ⟨h, _⟩ | ⟨_, h, _⟩ | ⟨_, _, h⟩
      · omega
      · rw [hli] at h; cases h
      · exact .inr ⟨hw, h⟩
    · rw [if_neg hw] at h
      exact .inl ⟨by simpa using hw, h⟩
  | cons x L1 ih =>
    intro a w H Bs hx h
    obtain ⟨hxi, hxk⟩ := hx x List.mem_cons_self
    have hxs : ∀ y ∈ L1, Indep ops A loud y i ∧ y < k0 := fun y hy => hx y (List.mem_cons_of_mem _ hy)
    have hlx : loud x = false := hxi.one.resolve_right (by rw [hli]; simp)
    simp only [List.cons_append, RW] at h ⊢
    cases hox : ops[x]? with
    | none => simp [hox] at h
    | some ox =>
      simp only [hox] at h ⊢
      obtain ⟨p1, p2, p3⟩ := Oper.apart_spec (hxi.apart ox o hox hi)
      have hso := hsel i o hi
      have hsx := hsel x ox hox
      have ex : ∀ (b : Act) u, execOp (b.put o.dst u).eval ox = execOp b.eval ox := fun b u => execOp_put (ops := ops) ox hsx b o.dst u p3
      have wx : ∀ (b : Act) u, Region.wanted ox (yielded ops (b.put o.dst u).tmps) = Region.wanted ox (yielded ops b.tmps) := fun b u => wanted_put ox b o.dst u p3
      have wi : ∀ (b : Act) u, Region.wanted o (yielded ops (b.put ox.dst u).tmps) = Region.wanted o (yielded ops b.tmps) := fun b u => wanted_put o b ox.dst u p1
      have lx := fun {a' : Act} (hl : Like a a' o.dst) => like_exec (ops := ops) hsx p3 hl
      have back : ∀ (u : Value) (Z : Act → World → Prop), o.wp P (a.put ox.dst u) w Z NoQ → o.wp P a w (fun a' w' => Like a a' o.dst ∧ Z (a'.put ox.dst u) w') NoQ := by
        intro u Z hh
        unfold Oper.wp at *
        rw [execOp_put (ops := ops) o hso a ox.dst u p1] at hh
        generalize (execOp a.eval o).run P w = r at *
        cases r with
        | ok n w' =>
          cases n <;> simp only [Oper.upon] at hh ⊢
          case value v => exact ⟨⟨v, a.defers, rfl⟩, by rw [← Act.put_comm a u v p2]; exact hh⟩
          case skip => exact ⟨⟨undef, a.defers, rfl⟩, by rw [← Act.put_comm a u undef p2]; exact hh⟩
          case defer e => exact ⟨⟨undef, e :: a.defers, rfl⟩, by rw [← Act.put_comm _ u undef p2, ← Act.put_defers]; exact hh⟩
          case enter f args =>
            refine Calls.mono hh fun e w'' he => ?_
            cases e with
            | returned v => exact ⟨⟨v, a.defers, rfl⟩, by rw [← Act.put_comm a u v p2]; exact he⟩
            | panicked c => exact he
            | outgrown => exact he
          case row row args => exact Rows.mono hh fun v w'' he => ⟨⟨v, a.defers, rfl⟩, by rw [← Act.put_comm a u v p2]; exact he⟩
        | halt y w' => cases y <;> simp only [Oper.upon] at hh ⊢ <;> exact hh
      by_cases hw : Region.wanted ox (yielded ops a.tmps) = true
      · rw [if_pos hw] at h
        rcases h with ⟨h, _⟩ | ⟨_, _, vx, Bx, hvx, h⟩ | ⟨_, h, _⟩
        · omega
        · rcases ih _ w H _ hxs h with ⟨h1, h2⟩ | ⟨h1, h2⟩
          · rw [wi] at h1
            refine .inl ⟨h1, ?_⟩
            rw [if_pos (by rw [wx]; exact hw)]
            exact .inr (.inl ⟨hxk, hlx, vx, Bx, hvx.of_exec (ex a undef), by rw [← Act.put_comm a vx undef p2]; exact h2⟩)
          · rw [wi] at h1
            refine .inr ⟨h1, nwp_mono ?_ (back vx _ h2)⟩
            rintro a1 w1 ⟨hl, he, hr⟩
            refine ⟨fun b hb => he b (List.mem_cons_of_mem _ hb), ?_⟩
            rw [if_pos (by rw [(lx hl).2]; exact hw)]
            refine .inr (.inl ⟨hxk, hlx, vx, Bx, ?_, hr⟩)
            obtain ⟨hb1, hb2, hb3⟩ := hvx
            refine ⟨he (x, Bx) List.mem_cons_self hxi.na, fun l hl' hA => ?_, fun w' hw' => by rw [(lx hl).1]; exact hb3 w' hw'⟩
            rcases List.mem_cons.1 hl' with rfl | hl'
            · exact hb1
            · exact hb2 l hl' hA
        · rw [hlx] at h; cases h
      · rw [if_neg hw] at h
        have hw' : Region.wanted ox (yielded ops a.tmps) = false := by simpa using hw
        rcases ih _ w H _ hxs h with ⟨h1, h2⟩ | ⟨h1, h2⟩
        · rw [wi] at h1
          refine .inl ⟨h1, ?_⟩
          rw [if_neg (by rw [wx, hw']; simp), ← Act.put_comm a undef undef p2]
          exact h2
        · rw [wi] at h1
          refine .inr ⟨h1, nwp_mono ?_ (back undef _ h2)⟩
          rintro a1 w1 ⟨hl, he, hr⟩
          refine ⟨he, ?_⟩
          rw [if_neg (by rw [(lx hl).2, hw']; simp)]
          exact hr
end
/-! ## The check of a region's edges -/
def edges (o : Oper) : List Nat := (o.after.toList.filter (Region.binds .any)).map (·.on)
def before (m : List Nat) (i j : Nat) : Bool := (m.getD i 0).testBit j
def loudOp : Op → Bool
  | .move _ | .assign _ | .pick .. | .build .. | .load .. | .binOp .. | .unOp .. | .convert .. | .fieldAddr .. | .field .. | .indexAddr .. | .index .. | .lookup .. | .extract .. | .slice .. | .makeFunc .. | .nilCheck .. => false
  | .call ⟨.builtin .len, _, _⟩ | .call ⟨.builtin .max, _, _⟩ | .call ⟨.builtin .min, _, _⟩ | .call ⟨.builtin .cap, _, _⟩ => false
  | _ => true
def isSelect : Op → Bool
  | .select .. => true
  | _ => false
def louds (l : List Oper) (i : Nat) : Bool := ((l[i]?).map fun o => loudOp o.op).getD false

def chk (l : List Oper) (m : List Nat) (k0 : Nat) : Bool :=
  (List.range l.length).all fun i => match l[i]? with
    | none => false
    | some o =>
      (edges o).all (fun e => Nat.blt e i && before m i e && (List.range i).all (fun k => !before m e k || before m i k)) &&
      (List.range l.length).all (fun k => !before m i k || (Nat.blt k i && (edges o).any (fun e => Nat.beq e k || before m e k))) &&
      !isSelect o.op &&
      (if Nat.ble k0 i then (List.range i).all (fun x => before m i x)
       else (List.range i).all (fun x => before m i x || (match l[x]? with | none => false | some ox => ox.apart l.toArray o && (!loudOp ox.op || !loudOp o.op))))

end Go.Sx
end
section
set_option linter.unusedVariables false
set_option linter.unusedSimpArgs false
set_option linter.unusedVariables false
set_option linter.unusedSimpArgs false
namespace Go.Sx
open Go.RowKit
structure Chk (l : List Oper) (m : List Nat) (k0 : Nat) : Prop where
  edge : ∀ (i : Nat) (o : Oper), l[i]? = some o → ∀ e ∈ edges o, e < i ∧ before m i e = true
  trans : ∀ (i : Nat) (o : Oper), l[i]? = some o → ∀ k, before m i k = true → k < l.length → k < i ∧ ∃ e ∈ edges o, e = k ∨ before m e k = true
  sel : ∀ (i : Nat) (o : Oper), l[i]? = some o → ∀ cs b, o.op ≠ .select cs b
  tail : ∀ i x, i < l.length → k0 ≤ i → x < i → before m i x = true
  ind : ∀ (i x : Nat) (oi ox : Oper), l[i]? = some oi → l[x]? = some ox → i < k0 → x < i → before m i x = false → ox.apart l.toArray oi = true ∧ (loudOp ox.op = false ∨ loudOp oi.op = false)

theorem getElem?_lt {α : Type} {l : List α} {i : Nat} {x : α} (h : l[i]? = some x) : i < l.length := by
  rcases Nat.lt_or_ge i l.length with h' | h'
  · exact h'
  · rw [List.getElem?_eq_none h'] at h; cases h

theorem chk_spec {l : List Oper} {m : List Nat} {k0 : Nat} (h : chk l m k0 = true) : Chk l m k0 := by
  have key : ∀ (i : Nat) (o : Oper), l[i]? = some o →
      ((edges o).all (fun e => Nat.blt e i && before m i e && (List.range i).all (fun k => !before m e k || before m i k)) = true) ∧
      ((List.range l.length).all (fun k => !before m i k || (Nat.blt k i && (edges o).any (fun e => Nat.beq e k || before m e k))) = true) ∧ isSelect o.op = false ∧
      ((if Nat.ble k0 i then (List.range i).all (fun x => before m i x)
       else (List.range i).all (fun x => before m i x || (match l[x]? with | none => false | some ox => ox.apart l.toArray o && (!loudOp ox.op || !loudOp o.op)))) = true) := by
    intro i o ho
    have := List.all_eq_true.1 h i (List.mem_range.2 (getElem?_lt ho))
    simp only [ho, Bool.and_eq_true, Bool.not_eq_true'] at this
    exact ⟨this.1.1.1, this.1.1.2, this.1.2, this.2⟩
  refine ⟨?_, ?_, ?_, ?_, ?_⟩
  · intro i o ho e he
    have := List.all_eq_true.1 (key i o ho).1 e he
    simp only [Bool.and_eq_true, Nat.blt_eq] at this
    exact ⟨this.1.1, this.1.2⟩
  · intro i o ho k hk hlt
    have := List.all_eq_true.1 (key i o ho).2.1 k (List.mem_range.2 hlt)
    simp only [hk, Bool.not_true, Bool.false_or, Bool.and_eq_true, Nat.blt_eq, List.any_eq_true, Bool.or_eq_true] at this
    obtain ⟨h1, e, he, h2⟩ := this
    refine ⟨h1, e, he, ?_⟩
    rcases h2 with h2 | h2
    · exact .inl (Nat.eq_of_beq_eq_true h2)
    · exact .inr h2
  · intro i o ho cs b e
    have := (key i o ho).2.2.1
    rw [e] at this
    cases this
  · intro i x hi hk hx
    obtain ⟨o, ho⟩ : ∃ o, l[i]? = some o := ⟨_, List.getElem?_eq_getElem hi⟩
    have := (key i o ho).2.2.2
    rw [if_pos (by simpa using hk)] at this
    exact List.all_eq_true.1 this x (List.mem_range.2 hx)
  · intro i x oi ox hi hx hk hlt hb
    have := (key i oi hi).2.2.2
    rw [if_neg (by simpa using hk)] at this
    have := List.all_eq_true.1 this x (List.mem_range.2 hlt)
    simp only [hb, Bool.false_or, hx, Bool.and_eq_true, Bool.or_eq_true, Bool.not_eq_true'] at this
    exact this

section
variable {P : Program} {Q : Exit → Act → World → Prop} {l : List Oper} {m : List Nat} {k0 : Nat}
theorem RW.any (hc : Chk l m k0) : ∀ (fuel : Nat) (L : List Nat) (listed : Array Bool) (a : Act) (w : World) (H : List (Nat × World)) (Bs : List (Nat × (World → Prop))),
    L.length ≤ fuel → listed.size = l.length → L.Pairwise (· < ·) → (∀ i, i ∈ L ↔ i < l.length ∧ listed.getD i true = false) →
    (∀ j k, listed.getD j false = true → before m j k = true → k < l.length → listed.getD k false = true) →
    RW P l.toArray Q (before m) (louds l) k0 L a w H Bs → wpAny P .any l.toArray Q fuel listed a w := by
  intro fuel
  induction fuel with
  | zero =>
    intro L listed a w H Bs hlen hsz hsort hmem hcl h
    have hL : L = [] := List.eq_nil_of_length_eq_zero (by omega)
    subst hL
    refine ⟨?_, h⟩
    rw [List.eq_nil_iff_forall_not_mem]
    intro i hi
    obtain ⟨h0, o, ho, _⟩ := mem_ready.1 hi
    have : i < l.length := by have := (Array.getElem?_eq_some_iff.1 ho).1; simpa using this
    have := (hmem i).2 ⟨this, h0⟩
    simp at this
  | succ fuel ih =>
    intro L listed a w H Bs hlen hsz hsort hmem hcl h
    refine ⟨fun hr => ?_, fun i hi => ?_⟩
    · cases L with
      | nil => exact h
      | cons i L =>
        exfalso
        obtain ⟨hlt, h0⟩ := (hmem i).1 List.mem_cons_self
        obtain ⟨o, ho⟩ : ∃ o, l[i]? = some o := ⟨_, List.getElem?_eq_getElem hlt⟩
        have : i ∈ Region.ready .any l.toArray listed := by
          refine mem_ready.2 ⟨h0, o, by simpa using ho, fun e he hb => ?_⟩
          have hee : e.on ∈ edges o := List.mem_map.2 ⟨e, List.mem_filter.2 ⟨by simpa using he, hb⟩, rfl⟩
          have hei := (hc.edge i o ho e.on hee).1
          cases hg : listed.getD e.on true with
          | false =>
            have hm := (hmem e.on).2 ⟨by omega, hg⟩
            rcases List.mem_cons.1 hm with e1 | e1
            · omega
            · have := (List.pairwise_cons.1 hsort).1 _ e1; omega
          | true =>
            have : e.on < listed.size := by omega
            simp [this] at hg ⊢
            exact hg
        rw [hr] at this
        simp at this
    · obtain ⟨h0, o, ho', hedge⟩ := mem_ready.1 hi
      have ho : l[i]? = some o := by simpa using ho'
      have hlt : i < l.length := getElem?_lt ho
      have hiL : i ∈ L := (hmem i).2 ⟨hlt, h0⟩
      obtain ⟨L1, L2, rfl⟩ := List.append_of_mem hiL
      have hs := List.pairwise_append.1 hsort
      have hL1 : ∀ x ∈ L1, x < i := fun x hx => hs.2.2 x hx i List.mem_cons_self
      have hL2 : ∀ x ∈ L2, i < x := fun x hx => (List.pairwise_cons.1 hs.2.1).1 x hx
      have hanc : ∀ k, before m i k = true → k < l.length → listed.getD k false = true := by
        intro k hk hkl
        obtain ⟨_, e, he, hek⟩ := hc.trans i o ho k hk hkl
        obtain ⟨ed, hed, rfl⟩ := List.mem_map.1 he
        obtain ⟨hed1, hed2⟩ := List.mem_filter.1 hed
        have hl := hedge ed (by simpa using hed1) hed2
        rcases hek with rfl | hek
        · exact hl
        · exact hcl _ _ hl hek hkl
      have hno : ∀ x ∈ L1, before m i x = false := by
        intro x hx
        cases hb : before m i x with
        | false => rfl
        | true =>
          have hxl := ((hmem x).1 (by simp [hx]))
          have := hanc x hb hxl.1
          have hxs : x < listed.size := by omega
          simp [hxs] at this hxl
          rw [this] at hxl
          simp at hxl
      -- the rest
      have next : ∀ a' w' H' Bs', RW P l.toArray Q (before m) (louds l) k0 (L1 ++ L2) a' w' H' Bs' → wpAny P .any l.toArray Q fuel (listed.setIfInBounds i true) a' w' := by
        intro a' w' H' Bs' hr
        refine ih (L1 ++ L2) _ a' w' H' Bs' ?_ (by simp [hsz]) ?_ ?_ ?_ hr
        · simp at hlen ⊢; omega
        · exact List.pairwise_append.2 ⟨hs.1, (List.pairwise_cons.1 hs.2.1).2, fun x hx y hy => by have := hL1 x hx; have := hL2 y hy; omega⟩
        · intro j
          by_cases e : i = j
          · subst e
            constructor
            · intro hj
              rcases List.mem_append.1 hj with hj | hj
              · have := hL1 i hj; omega
              · have := hL2 i hj; omega
            · rintro ⟨_, hj⟩
              simp [hsz, hlt] at hj
          · rw [getD_set_ne true e]
            have := hmem j
            simp only [List.mem_append, List.mem_cons] at this ⊢
            constructor
            · intro hj; exact this.1 (by rcases hj with hj | hj; exact .inl hj; exact .inr (.inr hj))
            · intro hj
              rcases this.2 hj with hj | rfl | hj
              · exact .inl hj
              · exact absurd rfl e
              · exact .inr hj
        · intro j k hj hjk hk
          by_cases e : i = j
          · subst e; exact getD_set_true (hanc k hjk hk)
          · rw [getD_set_ne false e] at hj
            exact getD_set_true (hcl j k hj hjk hk)
      have hoa : l.toArray[i]? = some o := ho'
      by_cases hk : k0 ≤ i
      · have hL1e : L1 = [] := by
          cases L1 with
          | nil => rfl
          | cons x L1 =>
            have h1 := hno x List.mem_cons_self
            have h2 := hc.tail i x hlt hk (hL1 x List.mem_cons_self)
            rw [h1] at h2; cases h2
        subst hL1e
        simp only [List.nil_append, RW, hoa] at h
        unfold wpOp
        simp only [hoa]
        split
        · rename_i hw
          rw [if_pos hw] at h
          rcases h with ⟨_, h | h⟩ | ⟨h, _⟩ | ⟨h, _⟩
          · exact .inl (Oper.wp_mono (fun a' w' hr => next a' w' _ _ hr) h)
          · exact .inr (Oper.rnd_mono (fun a' w' hr => next a' w' _ _ hr) h)
          · omega
          · omega
        · rename_i hw
          rw [if_neg hw] at h
          exact next _ _ _ _ h
      · have hik : i < k0 := by omega
        have hind : ∀ x ∈ L1, Indep l.toArray (before m) (louds l) x i ∧ x < k0 := by
          intro x hx
          have hxi := hL1 x hx
          obtain ⟨ox, hox⟩ : ∃ ox, l[x]? = some ox := ⟨_, List.getElem?_eq_getElem (by omega)⟩
          have hi2 := hc.ind i x o ox ho hox hik hxi (hno x hx)
          refine ⟨⟨hno x hx, ?_, ?_, ?_⟩, by omega⟩
          · cases hb : before m x i with
            | false => rfl
            | true => have := (hc.trans x ox hox i hb hlt).1; omega
          · intro ox' oi' h1 h2
            have e1 : ox = ox' := by simpa [hox] using h1
            have e2 : o = oi' := by simpa [ho] using h2
            rw [← e1, ← e2]; exact hi2.1
          · rcases hi2.2 with h1 | h1
            · exact .inl (by simp [louds, hox, h1])
            · exact .inr (by simp [louds, ho, h1])
        have hsel : ∀ (i : Nat) (o : Oper), l.toArray[i]? = some o → ∀ cs b, o.op ≠ .select cs b := fun i o h => hc.sel i o (by simpa using h)
        unfold wpOp
        simp only [hoa]
        cases hl : louds l i with
        | false =>
          rcases RW.pull_quiet hsel hoa hik hl L1 a w H Bs hind h with ⟨h1, h2⟩ | ⟨h1, v, B, ⟨hb, _, hr⟩, h2⟩
          · rw [h1]; exact next _ _ _ _ h2
          · rw [h1]
            exact .inl (by simp only [Oper.wp, hr w hb, Oper.upon]; exact next _ _ _ _ h2)
        | true =>
          rcases RW.pull_loud hsel hoa hik hl L1 a w H Bs hind h with ⟨h1, h2⟩ | ⟨h1, h2⟩
          · rw [h1]; exact next _ _ _ _ h2
          · rw [h1]
            exact .inl (nwp_Q (nwp_mono (fun a' w' hh => next a' w' _ _ hh.2) h2))

theorem wp_region_text {rd : Option Nat} {id : Nat} {a : Act} {w : World} (hd : l.all noDefer = true) (hm : P.follows .mixedOrders = true) (hc : chk l m k0 = true)
    (h : RW P l.toArray Q (before m) (louds l) k0 (List.range l.length) a w.drew [] []) : (Code.region id l.toArray true).wpr rd P Q a w := by
  refine wpr_region_any hd hm ?_
  refine RW.any (chk_spec hc) _ (List.range l.length) _ a _ [] [] (by simp) (by simp) List.pairwise_lt_range ?_ ?_ h
  · intro i
    simp only [List.mem_range]
    constructor
    · intro hi; exact ⟨hi, by simp [hi]⟩
    · exact fun h => h.1
  · intro j k hj
    simp [Array.getElem?_replicate] at hj
    split at hj <;> simp at hj

/-! ## The judgement inside a region that draws -/
/-- the worlds before the loud operations, each with its state -/
def Hist (c : Ctx) : List (Nat × List Fact × List Fact) → List (Nat × World) → Prop
  | [], [] => True
  | h :: H, x :: X => h.1 = x.1 ∧ St c h.2.1 h.2.2 x.2 ∧ Hist c H X
  | _, _ => False

/-- what the quiet operations lean on -/
def BaseOk (c : Ctx) : List (Nat × List Fact × List Fact) → List (Nat × (World → Prop)) → Prop
  | [], [] => True
  | b :: B, x :: X => x = (b.1, St c b.2.1 b.2.2) ∧ BaseOk c B X
  | _, _ => False

def JR (c : Ctx) (n : Sz) (σ : Fr) (M L : List Fact) (H Bs : List (Nat × List Fact × List Fact)) (G : Act → World → List (Nat × World) → List (Nat × (World → Prop)) → Prop) : Prop :=
  ∀ a w X Y, Sub n σ a → St c M L w → Hist c H X → BaseOk c Bs Y → G a w X Y

variable {c : Ctx} {n : Sz} {σ : Fr} {M L Mx Lx : List Fact} {H Bs : List (Nat × List Fact × List Fact)}
theorem JR.start {rd : Option Nat} {id : Nat} (m : List Nat) (k0 : Nat) (hm : P.follows .mixedOrders = true) (hc : chk l m k0 = true)
    (h : JR c n σ M L [] [] (RW P l.toArray Q (before m) (louds l) k0 (List.range l.length))) (hd : l.all noDefer = true := by rfl) : J c n σ M L ((Code.region id l.toArray true).wpr rd P Q) := fun a w s t =>
  wp_region_text hd hm hc (h a w.drew [] [] s (t.ext ((Below.refl _ _).drew)) trivial trivial)

theorem JR.done (h : J c n σ M L (Q .normal)) : JR c n σ M L H Bs (RW P l.toArray Q (before m) (louds l) k0 []) := fun a w _ _ s t _ _ => h a w s t

/-- M' and L' hold what the state (Mx, Lx) asks -/
structure Holds2 (M L Mx Lx : List Fact) : Prop where
  hM : SubM M Mx
  hL : SubL L Lx

theorem Holds2.st {M L Mx Lx : List Fact} (h : Holds2 M L Mx Lx) {w : World} (t : St c M L w) : St c Mx Lx w := t.weak h.hM h.hL

def HistOk (A : Nat → Bool) (Mx Lx : List Fact) : List (Nat × List Fact × List Fact) → Prop
  | [] => True
  | h :: H => (A h.1 = true ∨ Holds2 h.2.1 h.2.2 Mx Lx) ∧ HistOk A Mx Lx H

def BsOk (A : Nat → Bool) (M L : List Fact) : List (Nat × List Fact × List Fact) → Prop
  | [] => True
  | b :: B => (A b.1 = true ∨ Holds2 M L b.2.1 b.2.2) ∧ BsOk A M L B

theorem HistOk.use {A : Nat → Bool} {Mx Lx : List Fact} : ∀ {H : List (Nat × List Fact × List Fact)} {X : List (Nat × World)}, HistOk A Mx Lx H → Hist c H X → ∀ x ∈ X, A x.1 = false → St c Mx Lx x.2
  | [], [], _, _, x, hx, _ => by simp at hx
  | [], _ :: _, _, h, _, _, _ => h.elim
  | _ :: _, [], _, h, _, _, _ => h.elim
  | h :: H, y :: X, ho, hi, x, hx, hA => by
    rcases List.mem_cons.1 hx with rfl | hx
    · rcases ho.1 with h1 | h1
      · rw [hi.1, hA] at h1; cases h1
      · exact h1.st hi.2.1
    · exact HistOk.use ho.2 hi.2.2 x hx hA

theorem BsOk.use {A : Nat → Bool} {M L : List Fact} {w : World} (t : St c M L w) : ∀ {B : List (Nat × List Fact × List Fact)} {X : List (Nat × (World → Prop))}, BsOk A M L B → BaseOk c B X → ∀ x ∈ X, A x.1 = false → x.2 w
  | [], [], _, _, x, hx, _ => by simp at hx
  | [], _ :: _, _, h, _, _, _ => h.elim
  | _ :: _, [], _, h, _, _, _ => h.elim
  | b :: B, y :: X, ho, hi, x, hx, hA => by
    rcases List.mem_cons.1 hx with rfl | hx
    · rcases ho.1 with h1 | h1
      · rw [hi.1] at hA; rw [h1] at hA; cases hA
      · rw [hi.1]; exact h1.st t
    · exact BsOk.use t ho.2 hi.2 x hx hA

theorem JR.quiet {i : Nat} {rest : List Nat} {d : Nat} {op : Op} {ty : TypeId} {pos : String} {aft : Array Edge} {v : Value} (Mx Lx : List Fact)
    (hi : l[i]? = some ⟨some d, op, ty, pos, aft, none⟩) (hk : Nat.blt i k0 = true) (hl : loudOp op = false) (hy : Y P c n σ Mx Lx ⟨some d, op, ty, pos, aft, none⟩ v) (hM : Holds2 M L Mx Lx) (hH : HistOk (before m i) Mx Lx H) (hd : Nat.blt d n.sz = true)
    (h : JR c n ((d, v) :: σ) M L H ((i, Mx, Lx) :: Bs) (RW P l.toArray Q (before m) (louds l) k0 rest)) : JR c n σ M L H Bs (RW P l.toArray Q (before m) (louds l) k0 (i :: rest)) := fun a w X Y s t hX hY => by
  have hi' : l.toArray[i]? = some ⟨some d, op, ty, pos, aft, none⟩ := by simpa using hi
  simp only [RW, hi']
  rw [if_pos (by simp [Region.wanted])]
  refine .inr (.inl ⟨by simpa [Nat.blt_eq] using hk, by simp [louds, hi, hl], v, St c Mx Lx, ⟨hM.st t, hH.use hX, fun w' t' => hy a w' s t'⟩, h _ w X _ (s.put d v hd) t hX ⟨rfl, hY⟩⟩)

theorem JR.guardY {i : Nat} {rest : List Nat} {d : Nat} {op : Op} {ty : TypeId} {pos : String} {aft : Array Edge} {j : Nat} {b : Bool} {v : Value} (Mx Lx : List Fact)
    (hi : l[i]? = some ⟨some d, op, ty, pos, aft, some (j, b)⟩) (hk : Nat.blt i k0 = true) (hl : loudOp op = false) (hg : gv l.toArray σ j = some b) (hy : Y P c n σ Mx Lx ⟨some d, op, ty, pos, aft, some (j, b)⟩ v) (hM : Holds2 M L Mx Lx) (hH : HistOk (before m i) Mx Lx H) (hd : Nat.blt d n.sz = true)
    (h : JR c n ((d, v) :: σ) M L H ((i, Mx, Lx) :: Bs) (RW P l.toArray Q (before m) (louds l) k0 rest)) : JR c n σ M L H Bs (RW P l.toArray Q (before m) (louds l) k0 (i :: rest)) := fun a w X Y s t hX hY => by
  have hi' : l.toArray[i]? = some ⟨some d, op, ty, pos, aft, some (j, b)⟩ := by simpa using hi
  simp only [RW, hi']
  rw [if_pos (by simp [Region.wanted, gv_yielded s hg])]
  refine .inr (.inl ⟨by simpa [Nat.blt_eq] using hk, by simp [louds, hi, hl], v, St c Mx Lx, ⟨hM.st t, hH.use hX, fun w' t' => hy a w' s t'⟩, h _ w X _ (s.put d v hd) t hX ⟨rfl, hY⟩⟩)

theorem JR.guardN {i : Nat} {rest : List Nat} {d : Nat} {op : Op} {ty : TypeId} {pos : String} {aft : Array Edge} {j : Nat} {b b' : Bool}
    (hi : l[i]? = some ⟨some d, op, ty, pos, aft, some (j, b)⟩) (hg : gv l.toArray σ j = some b') (hb : (b' == b) = false) (hd : Nat.blt d n.sz = true)
    (h : JR c n ((d, undef) :: σ) M L H Bs (RW P l.toArray Q (before m) (louds l) k0 rest)) : JR c n σ M L H Bs (RW P l.toArray Q (before m) (louds l) k0 (i :: rest)) := fun a w X Y s t hX hY => by
  have hi' : l.toArray[i]? = some ⟨some d, op, ty, pos, aft, some (j, b)⟩ := by simpa using hi
  simp only [RW, hi']
  rw [if_neg (by simp [Region.wanted, gv_yielded s hg, hb])]
  exact h _ w X Y (s.put d undef hd) t hX hY

theorem JR.guard {i dj : Nat} {rest : List Nat} {d : Option Tmp} {op : Op} {ty : TypeId} {pos : String} {aft : Array Edge} {j : Nat} {b' b : Bool}
    (_ : l[i]? = some ⟨d, op, ty, pos, aft, some (j, b)⟩) (_ : (l[j]?).bind (·.dst) = some dj) (hg : lk σ dj = some (.bool b'))
    (ht : b' = true → JR c n ((dj, .bool true) :: σ) M L H Bs (RW P l.toArray Q (before m) (louds l) k0 (i :: rest)))
    (hf : b' = false → JR c n ((dj, .bool false) :: σ) M L H Bs (RW P l.toArray Q (before m) (louds l) k0 (i :: rest))) : JR c n σ M L H Bs (RW P l.toArray Q (before m) (louds l) k0 (i :: rest)) := by
  cases b'
  · exact fun a w X Y s t hX hY => hf rfl a w X Y (s.over (s.slot _ _ hg)) t hX hY
  · exact fun a w X Y s t hX hY => ht rfl a w X Y (s.over (s.slot _ _ hg)) t hX hY

theorem JR.guardD {i dj : Nat} {rest : List Nat} {d : Option Tmp} {op : Op} {ty : TypeId} {pos : String} {aft : Array Edge} {j : Nat} {p : Prop} {_ : Decidable p} {b : Bool}
    (hi : l[i]? = some ⟨d, op, ty, pos, aft, some (j, b)⟩) (hj : (l[j]?).bind (·.dst) = some dj) (hg : lk σ dj = some (.bool (decide p)))
    (ht : p → JR c n ((dj, .bool true) :: σ) M L H Bs (RW P l.toArray Q (before m) (louds l) k0 (i :: rest)))
    (hf : ¬ p → JR c n ((dj, .bool false) :: σ) M L H Bs (RW P l.toArray Q (before m) (louds l) k0 (i :: rest))) : JR c n σ M L H Bs (RW P l.toArray Q (before m) (louds l) k0 (i :: rest)) :=
  JR.guard hi hj hg (fun h => ht (of_decide_eq_true h)) (fun h => hf (of_decide_eq_false h))

/-! loud operations -/
/-- o yields 'val x' for some x, and leaves the state (M' x, L' x) -/
def Loud (P : Program) (c : Ctx) (n : Sz) (σ : Fr) (M L : List Fact) (o : Oper) {A : Type} (val : A → Value) (M' L' : A → List Fact) : Prop :=
  ∀ a w, Sub n σ a → St c M L w → o.wp P a w (fun a' w' => ∃ x : A, a' = a.put o.dst (val x) ∧ St c (M' x) (L' x) w') NoQ

theorem J.loud {A : Type} {val : A → Value} {M' L' : A → List Fact} {ops : Array Oper} {rest : List Oper} {d : Nat} {op : Op} {ty : TypeId} {pos : String} {aft : Array Edge}
    (ho : Loud P c n σ M L ⟨some d, op, ty, pos, aft, none⟩ val M' L') (hd : Nat.blt d n.sz = true) (h : ∀ x, J c n ((d, val x) :: σ) (M' x) (L' x) (wpList P ops Q rest)) :
    J c n σ M L (wpList P ops Q (⟨some d, op, ty, pos, aft, none⟩ :: rest)) := fun a w s t =>
  wpList_take rfl (nwp_Q (nwp_mono (fun a' w' ⟨x, he, ht⟩ => by subst he; exact h x _ w' (s.put d _ hd) ht) (ho a w s t)))

theorem J.loudG {A : Type} {val : A → Value} {M' L' : A → List Fact} {ops : Array Oper} {rest : List Oper} {d : Nat} {op : Op} {ty : TypeId} {pos : String} {aft : Array Edge} {j : Nat} {b : Bool}
    (hg : gv ops σ j = some b) (ho : Loud P c n σ M L ⟨some d, op, ty, pos, aft, some (j, b)⟩ val M' L') (hd : Nat.blt d n.sz = true) (h : ∀ x, J c n ((d, val x) :: σ) (M' x) (L' x) (wpList P ops Q rest)) :
    J c n σ M L (wpList P ops Q (⟨some d, op, ty, pos, aft, some (j, b)⟩ :: rest)) := fun a w s t =>
  wpList_take (by simp [Region.wanted, gv_yielded s hg]) (nwp_Q (nwp_mono (fun a' w' ⟨x, he, ht⟩ => by subst he; exact h x _ w' (s.put d _ hd) ht) (ho a w s t)))

theorem JR.loud {A : Type} {val : A → Value} {M' L' : A → List Fact} {i : Nat} {rest : List Nat} {d : Nat} {op : Op} {ty : TypeId} {pos : String} {aft : Array Edge}
    (hi : l[i]? = some ⟨some d, op, ty, pos, aft, none⟩) (hk : Nat.blt i k0 = true) (hl : loudOp op = true) (ho : Loud P c n σ M L ⟨some d, op, ty, pos, aft, none⟩ val M' L') (hd : Nat.blt d n.sz = true)
    (hB : ∀ x, BsOk (before m i) (M' x) (L' x) Bs) (h : ∀ x, JR c n ((d, val x) :: σ) (M' x) (L' x) ((i, M, L) :: H) Bs (RW P l.toArray Q (before m) (louds l) k0 rest)) :
    JR c n σ M L H Bs (RW P l.toArray Q (before m) (louds l) k0 (i :: rest)) := fun a w X Y s t hX hY => by
  have hi' : l.toArray[i]? = some ⟨some d, op, ty, pos, aft, none⟩ := by simpa using hi
  simp only [RW, hi']
  rw [if_pos (by simp [Region.wanted])]
  refine .inr (.inr ⟨by simpa [Nat.blt_eq] using hk, by simp [louds, hi, hl], nwp_mono ?_ (ho a w s t)⟩)
  rintro a' w' ⟨x, rfl, ht⟩
  exact ⟨(hB x).use ht hY, h x _ w' _ Y (s.put d _ hd) ht ⟨rfl, t, hX⟩ hY⟩

theorem JR.loudG {A : Type} {val : A → Value} {M' L' : A → List Fact} {i : Nat} {rest : List Nat} {d : Nat} {op : Op} {ty : TypeId} {pos : String} {aft : Array Edge} {j : Nat} {b : Bool}
    (hi : l[i]? = some ⟨some d, op, ty, pos, aft, some (j, b)⟩) (hk : Nat.blt i k0 = true) (hl : loudOp op = true) (hg : gv l.toArray σ j = some b) (ho : Loud P c n σ M L ⟨some d, op, ty, pos, aft, some (j, b)⟩ val M' L') (hd : Nat.blt d n.sz = true)
    (hB : ∀ x, BsOk (before m i) (M' x) (L' x) Bs) (h : ∀ x, JR c n ((d, val x) :: σ) (M' x) (L' x) ((i, M, L) :: H) Bs (RW P l.toArray Q (before m) (louds l) k0 rest)) :
    JR c n σ M L H Bs (RW P l.toArray Q (before m) (louds l) k0 (i :: rest)) := fun a w X Y s t hX hY => by
  have hi' : l.toArray[i]? = some ⟨some d, op, ty, pos, aft, some (j, b)⟩ := by simpa using hi
  simp only [RW, hi']
  rw [if_pos (by simp [Region.wanted, gv_yielded s hg])]
  refine .inr (.inr ⟨by simpa [Nat.blt_eq] using hk, by simp [louds, hi, hl], nwp_mono ?_ (ho a w s t)⟩)
  rintro a' w' ⟨x, rfl, ht⟩
  exact ⟨(hB x).use ht hY, h x _ w' _ Y (s.put d _ hd) ht ⟨rfl, t, hX⟩ hY⟩

/-- the forced tail of a region is walked as a list -/
theorem RW.tail {X : List (Nat × World)} {Y : List (Nat × (World → Prop))} : ∀ (r : List Nat) (os : List Oper), (∀ i ∈ r, k0 ≤ i) → r.map (l[·]?) = os.map some → ∀ a w, wpList P l.toArray Q os a w → RW P l.toArray Q (before m) (louds l) k0 r a w X Y
  | [], [], _, _, _, _, h => h
  | [], _ :: _, _, e, _, _, _ => by simp at e
  | _ :: _, [], _, e, _, _, _ => by simp at e
  | i :: r, o :: os, hk, e, a, w, h => by
    simp only [List.map_cons, List.cons.injEq] at e
    have hi' : l.toArray[i]? = some o := by simpa using e.1
    have ih := fun a w => RW.tail (X := X) (Y := Y) r os (fun i hi => hk i (List.mem_cons_of_mem _ hi)) e.2 a w
    simp only [RW, hi']
    unfold wpList at h
    split
    · rename_i hw
      rw [if_pos hw] at h
      refine .inl ⟨hk i List.mem_cons_self, ?_⟩
      rcases h with h | h
      · exact .inl (Oper.wp_mono (fun a w h => ih a w h) h)
      · exact .inr (Oper.rnd_mono (fun a w h => ih a w h) h)
    · rename_i hw
      rw [if_neg hw] at h
      exact ih _ _ h

theorem JR.tail {r : List Nat} {os : List Oper} (hk : r.all (Nat.ble k0) = true) (he : r.map (l[·]?) = os.map some) (h : J c n σ M L (wpList P l.toArray Q os)) : JR c n σ M L H Bs (RW P l.toArray Q (before m) (louds l) k0 r) :=
  fun a w _ _ s t _ _ => RW.tail r os (fun i hi => by simpa using List.all_eq_true.1 hk i hi) he a w (h a w s t)
end
end Go.Sx
end
section
set_option linter.unusedVariables false
set_option linter.unusedSimpArgs false
set_option linter.unusedVariables false
set_option linter.unusedSimpArgs false
namespace Go.Sx
open Go.RowKit
/-! ## Encodings of elements by cells -/
structure Enc (α : Type) where
  sz : Nat
  pos : 0 < sz
  enc : α → List Value
  len : ∀ x, (enc x).length = sz

def Enc.int (k : IntKind) : Enc Int := ⟨1, Nat.one_pos, fun x => [.int k x], fun _ => rfl⟩
def Enc.bool : Enc Bool := ⟨1, Nat.one_pos, fun x => [.bool x], fun _ => rfl⟩
def Enc.raw : Enc Value := ⟨1, Nat.one_pos, fun x => [x], fun _ => rfl⟩
def Enc.link : Enc (Int × Int) := ⟨2, by decide, fun x => [.int .i64 x.1, .int .i64 x.2], fun _ => rfl⟩

def cellsOf {α : Type} (e : Enc α) (xs : List α) : List Value := xs.flatMap e.enc

theorem cellsOf_length {α : Type} (e : Enc α) (xs : List α) : (cellsOf e xs).length = xs.length * e.sz := by
  induction xs with
  | nil => simp [cellsOf]
  | cons x xs ih => simp only [cellsOf, List.flatMap_cons, List.length_append, e.len, List.length_cons, Nat.add_mul] at *; omega

theorem cellsOf_get {α : Type} (e : Enc α) (xs : List α) : ∀ (i : Nat) (x : α), xs[i]? = some x → ∀ j u, (e.enc x)[j]? = some u → (cellsOf e xs)[i * e.sz + j]? = some u := by
  induction xs with
  | nil => intro i x h; simp at h
  | cons y xs ih =>
    intro i x h j u hj
    simp only [cellsOf, List.flatMap_cons]
    cases i with
    | zero =>
      simp at h; subst h
      rw [List.getElem?_append_left (by have := getElem?_lt hj; omega)]
      simpa using hj
    | succ i =>
      simp only [List.getElem?_cons_succ] at h
      rw [List.getElem?_append_right (by rw [e.len, Nat.add_mul]; omega), e.len]
      have : (i + 1) * e.sz + j - e.sz = i * e.sz + j := by rw [Nat.add_mul]; omega
      rw [this]
      exact ih i x h j u hj

theorem cellsOf_append {α : Type} (e : Enc α) (xs ys : List α) : cellsOf e (xs ++ ys) = cellsOf e xs ++ cellsOf e ys := by simp [cellsOf]

/-! ## A slice of the call's own -/
def ArR {α : Type} (e : Enc α) (w : World) (F : Nat → Prop) (v : Value) (xs : List α) : Prop :=
  xs.length ≤ 140737488355328 ∧ (cellsOf e xs).all one = true ∧ ((v = .slice none 0 0 ∧ xs = []) ∨ ∃ b off cap T, ∃ cur : Array Value, v = .slice (some ⟨b, off, none⟩) xs.length cap ∧ F b ∧ w.heap[b]? = some (.cells cur T (0, 0)) ∧
    xs.length ≤ cap ∧ off + cap * e.sz ≤ cur.size ∧ (cur.toList.drop off).take (xs.length * e.sz) = cellsOf e xs)

def Ar {α : Type} (e : Enc α) (v : Value) (xs : List α) : Fact where
  p w F := ArR e w F v xs
  mono := fun ⟨h0, h1, h⟩ hs => ⟨h0, h1, by
    rcases h with h | ⟨b, off, cap, T, cur, hv, hF, hb, r⟩
    · exact .inl h
    · obtain ⟨h3, h4⟩ := hs b hF (Array.getElem?_eq_some_iff.1 hb).1
      exact .inr ⟨b, off, cap, T, cur, hv, h3, by rw [h4]; exact hb, r⟩⟩

section
variable {α : Type} {e : Enc α} {w : World} {F : Nat → Prop} {v : Value} {xs : List α}
theorem ArR.cell (h : ArR e w F v xs) {i : Nat} {x : α} (hx : xs[i]? = some x) {j : Nat} {u : Value} (hu : (e.enc x)[j]? = some u) : w.cell? (elA v (i * e.sz + j)) = some u := by
  obtain ⟨_, _, h⟩ := h
  rcases h with ⟨_, h⟩ | ⟨b, off, cap, T, cur, hv, _, hb, hk, hc, ht⟩
  · subst h; simp at hx
  · have hg := cellsOf_get e xs i x hx j u hu
    rw [← ht, List.getElem?_take] at hg
    split at hg
    · rw [List.getElem?_drop] at hg
      subst hv
      simp only [elA, add_none]
      simp [World.cell?, hb]
      simpa using hg
    · cases hg

theorem ArR.free (h : ArR e w F v xs) (hx : xs ≠ []) (o : Nat) : w.frozen? (elA v o) = false := by
  obtain ⟨_, _, h⟩ := h
  rcases h with ⟨_, h⟩ | ⟨b, off, cap, T, cur, hv, _, hb, _⟩
  · exact absurd h hx
  · subst hv; simp only [elA, add_none]; simp [World.frozen?, hb]
end
section
variable {P : Program} {rd : Option Nat} {c : Ctx} {n : Sz} {σ : Fr} {M L : List Fact} {Q : Exit → Act → World → Prop} {ops : Array Oper} {rest : List Oper}
variable {d : Option Tmp} {D : Nat} {ty : TypeId} {pos : String} {aft : Array Edge} {g : Option (Nat × Bool)}
variable {α : Type} {e : Enc α}
theorem Y.lenA [Tab P] (i : Nat) {T E : TypeId} {s1 s2 : Nat} {z : Value} {x : Operand} {v : Value} {xs : List α} (hx : ev σ x = some v) (hf : M[i]? = some (Ar e v xs))
    (hT : Tab.tab P T = some ⟨.slice E, s1, s2, z⟩) : Y P c n σ M L ⟨d, .call ⟨.builtin .len, #[x], #[T]⟩, ty, pos, aft, g⟩ (.int .i64 xs.length) := fun a w s t => by
  obtain ⟨S, _, _, h⟩ := t.res hf
  rcases h with ⟨rfl, rfl⟩ | ⟨b, off, cap, T', cur, rfl, _⟩
  · have := run_len w (Tab.ok hT) rfl none 0 0 ty
    simp [execOp, resolve, invoke, builtin, s.eval hx, this]
  · simp [execOp, resolve, invoke, builtin, s.eval hx, run_len w (Tab.ok hT) rfl]

theorem Y.indexA [Tab P] (j : Nat) {T E : TypeId} {s1 s2 s3 s4 : Nat} {z z' : Value} {dE : TypeDesc} {x y : Operand} {v : Value} {i : Int} {xs : List α} (hx : ev σ x = some v) (hy : ev σ y = some (.int .i64 i)) (hf : M[j]? = some (Ar e v xs))
    (hT : Tab.tab P T = some ⟨.slice E, s1, s2, z⟩) (hE : Tab.tab P E = some ⟨dE, s3, s4, z'⟩) (h0 : 0 ≤ i) (h1 : i < xs.length) :
    Y P c n σ M L ⟨d, .indexAddr T x y, ty, pos, aft, g⟩ (elq v (i.toNat * s3)) := fun a w s t => by
  obtain ⟨S, _, _, h⟩ := t.res hf
  rcases h with ⟨rfl, rfl⟩ | ⟨b, off, cap, T', cur, rfl, _⟩
  · simp at h1; omega
  · simp [execOp, s.eval hx, s.eval hy, run_index w (Tab.ok hT) rfl (Tab.ok hE) b off _ cap i h0 h1]

theorem Y.loadA [Tab P] [Inhabited α] (j : Nat) {T : TypeId} {s2 q o : Nat} {z : Value} {dT : TypeDesc} {x : Operand} {v : Value} {i : Int} {xs : List α} {u : Value} (hx : ev σ x = some (elq v (i.toNat * q + o))) (hf : M[j]? = some (Ar e v xs))
    (hT : Tab.tab P T = some ⟨dT, 1, s2, z⟩) (hd : aggD dT = false) (hq : e.sz = q) (hu : (e.enc (at' xs i))[o]? = some u) (h0 : 0 ≤ i) (h1 : i < xs.length) :
    Y P c n σ M L ⟨d, .load T x, ty, pos, aft, g⟩ u := fun a w s t => by
  obtain ⟨S, h⟩ := t.res hf
  have := ArR.cell h (at'_some h0 h1) hu
  rw [hq] at this
  simp [execOp, s.eval hx, elq, run_load1 (Tab.ok hT) hd this]

theorem Y.loadA0 [Tab P] [Inhabited α] (j : Nat) {T : TypeId} {s2 : Nat} {z : Value} {dT : TypeDesc} {x : Operand} {v : Value} {i : Int} {xs : List α} {u : Value} (hx : ev σ x = some (elq v (i.toNat * 1))) (hf : M[j]? = some (Ar e v xs))
    (hT : Tab.tab P T = some ⟨dT, 1, s2, z⟩) (hd : aggD dT = false) (hq : e.sz = 1) (hu : (e.enc (at' xs i))[0]? = some u) (h0 : 0 ≤ i) (h1 : i < xs.length) :
    Y P c n σ M L ⟨d, .load T x, ty, pos, aft, g⟩ u := Y.loadA j (q := 1) (o := 0) hx hf hT hd hq hu h0 h1

theorem cellsOf_set1 {xs : List α} (hq : e.sz = 1) {i : Nat} {y : α} {u : Value} (hu : e.enc y = [u]) : cellsOf e (xs.set i y) = (cellsOf e xs).set i u := by
  induction xs generalizing i with
  | nil => simp [cellsOf]
  | cons x xs ih =>
    obtain ⟨p, hp⟩ : ∃ p, e.enc x = [p] := by
      have := e.len x
      rw [hq] at this
      exact List.length_eq_one_iff.1 this
    cases i with
    | zero => simp [cellsOf, hp, hu]
    | succ i => simp only [List.set_cons_succ, cellsOf, List.flatMap_cons, hp, List.singleton_append] at *; rw [ih]

theorem take_set {β : Type} (l : List β) (k i : Nat) (u : β) : (l.set i u).take k = (l.take k).set i u := by
  rw [List.take_set]

/-- a store into an element of one cell -/
theorem J.storeA [Tab P] (j : Nat) {T : TypeId} {s2 : Nat} {z : Value} {dT : TypeDesc} {x y : Operand} {v u : Value} {i : Int} {xs : List α} (yv : α) (hx : ev σ x = some (elq v (i.toNat * 1))) (hy : ev σ y = some u) (hu : e.enc yv = [u]) (h1u : one u = true)
    (hf : M[j]? = some (Ar e v xs)) (hT : Tab.tab P T = some ⟨dT, 1, s2, z⟩) (hq : e.sz = 1) (h0 : 0 ≤ i) (h1 : i < xs.length)
    (h : J c n σ (M.set j (Ar e v (xs.set i.toNat yv))) L (wpList P ops Q rest)) :
    J c n σ M L (wpList P ops Q (⟨none, .store T x y, ty, pos, aft, none⟩ :: rest)) := fun a w s t => by
  refine wpList_take rfl ?_
  obtain ⟨F, hF⟩ := t.res hf
  have hi : i.toNat < xs.length := by omega
  have hget : xs[i.toNat]? = some xs[i.toNat] := List.getElem?_eq_getElem hi
  have hne : xs ≠ [] := by intro e; subst e; simp at hi
  obtain ⟨p, hp⟩ : ∃ p, e.enc xs[i.toNat] = [p] := List.length_eq_one_iff.1 ((e.len _).trans hq)
  have hcell := ArR.cell hF hget (j := 0) (u := p) (by rw [hp]; rfl)
  rw [hq, Nat.add_zero, Nat.mul_one] at hcell
  rw [Nat.mul_one] at hx
  have hfree := ArR.free hF hne i.toNat
  have hrun : (execOp a.eval ⟨none, .store T x y, ty, pos, aft, none⟩).run P w = .ok .skip (w.setCell (elA v i.toNat) u) := by
    simp only [execOp, s.eval hx, s.eval hy, elq]
    simp [run_store1 (Tab.ok hT) rfl h1u hcell hfree]
  simp only [Oper.wp, hrun, Oper.upon]
  refine h _ _ s (t.upd hf rfl rfl rfl (by simp [World.setCell]) fun F hF _ => ?_)
  obtain ⟨hl, h1, hh⟩ := hF
  rcases hh with ⟨_, hh⟩ | ⟨b, off, cap, T', cur, hv, hFb, hb, hk, hc, ht⟩
  · exact absurd hh hne
  · subst hv
    have ha : elA (.slice (some ⟨b, off, none⟩) xs.length cap) i.toNat = ⟨b, off + i.toNat, none⟩ := by simp [elA, add_none]
    rw [ha]
    refine ⟨fun k _ hk' => Below.heap_setCell _ _ _ _ (fun e => hk' (by simp only at e; subst e; exact hFb)), F, ⟨by simpa using hl, ?_, .inr ⟨b, off, cap, T', cur.setIfInBounds (off + i.toNat) u, by simp, hFb, ?_, by simpa using hk, by simpa using hc, ?_⟩⟩, fun _ h => .inl h⟩
    · rw [cellsOf_set1 hq hu, List.all_eq_true]
      intro q hq'
      rcases List.mem_or_eq_of_mem_set hq' with h' | h'
      · exact List.all_eq_true.1 h1 q h'
      · rw [h']; exact h1u
    · simp [World.setCell, Array.getElem?_modify, hb]
    · rw [cellsOf_set1 hq hu, ← ht, Array.toList_setIfInBounds, List.length_set, ← take_set]
      congr 1
      rw [List.drop_set, if_neg (by omega), Nat.add_sub_cancel_left]

/-! ## New slices -/
theorem St.allocAr {w : World} (t : St c M L w) (cs : List Value) (T : TypeId) {xs : List α} {k : Nat} (hk : xs.length = k) (hl : xs.length ≤ 140737488355328) (hc : cs = cellsOf e xs) (h1 : (cellsOf e xs).all one = true) :
    St c (Ar e (.slice (some ⟨w.heap.size, 0, none⟩) k k) xs :: M) L (w.alloc (.cells cs.toArray T)) := by
  have t' := t.alloc cs T
  obtain ⟨ho, F, hF, hL⟩ := t'
  refine ⟨ho, F, ⟨fun i m hm => ?_, hF.rng, hF.dis⟩, hL⟩
  cases i with
  | zero =>
    simp at hm; subst hm
    have hb := hF.res 0 _ rfl
    refine ⟨hl, h1, .inr ⟨w.heap.size, 0, k, T, cs.toArray, by rw [hk], hb.1, hb.2, by omega, ?_, ?_⟩⟩
    · simp only [Nat.zero_add, List.size_toArray, hc, cellsOf_length, hk]; exact Nat.le_refl _
    · simp only [List.drop_zero, hc]
      rw [List.take_of_length_le (by rw [cellsOf_length]; exact Nat.le_refl _)]
  | succ i => exact hF.res (i + 1) m (by simpa using hm)

theorem Loud.buildSlice [Tab P] {T E : TypeId} {k s1 s2 s3 s4 : Nat} {z z' : Value} {dE : TypeDesc} {ps : List (Nat × Operand)} {vs : List (Nat × Value)} (xs : List α)
    (hT : Tab.tab P T = some ⟨.slice E, s1, s2, z⟩) (hE : Tab.tab P E = some ⟨dE, s3, s4, z'⟩) (hs : Nat.ble (k * s3) 16777216 = true) (hv : ps.map (fun p => (p.1, ev σ p.2)) = vs.map (fun p => (p.1, some p.2)))
    (hfill : ∀ init : Array Value, init.size = k * s3 → Instr.fill (fun i => some (i * s3, s3)) init vs = some (cellsOf e xs).toArray)
    (hk : xs.length = k) (hl : Nat.ble xs.length 140737488355328 = true) (h1 : (cellsOf e xs).all one = true) :
    Loud P c n σ M L ⟨d, .buildSlice T k ps.toArray, ty, pos, aft, g⟩ (fun b : Nat => .slice (some ⟨b, 0, none⟩) k k) (fun b => Ar e (.slice (some ⟨b, 0, none⟩) k k) xs :: M) (fun _ => L) := fun a w s t => by
  have hps : ps.map (fun p => (p.1, a.eval p.2)) = vs := by
    clear hfill
    induction ps generalizing vs with
    | nil => cases vs <;> simp_all
    | cons p ps ih =>
      cases vs with
      | nil => simp at hv
      | cons q vs =>
        simp only [List.map_cons, List.cons.injEq, Prod.mk.injEq] at hv
        simp only [List.map_cons, s.eval hv.1.2, hv.1.1, ih hv.2]
  have hsz : ¬ (16777216 < k * s3) := by have : k * s3 ≤ 16777216 := by simpa using hs
                                         omega
  have hrun : (execOp a.eval ⟨d, .buildSlice T k ps.toArray, ty, pos, aft, g⟩).run P w = .ok (.value (.slice (some ⟨w.heap.size, 0, none⟩) k k)) (w.alloc (.cells (cellsOf e xs).toArray E)) := by
    simp only [execOp, List.map_toArray, hps, Instr.buildSlice]
    by_cases h0 : k * s3 = 0
    · have hf := hfill ((Array.range (k * s3)).map ((#[] : Array Value)[· % (#[] : Array Value).size]!)) (by simp)
      simp [(Tab.ok hT).run_und w, (Tab.ok hE).run_size w, h0] at hf ⊢
      simp [hf, newRow]
    · have hf := hfill ((Array.range (k * s3)).map (z'.cells[· % z'.cells.size]!)) (by simp)
      simp [(Tab.ok hT).run_und w, (Tab.ok hE).run_size w, (Tab.ok hE).run_zero w, h0, hsz, hf, newRow]
  simp only [Oper.wp, hrun, Oper.upon]
  exact ⟨w.heap.size, rfl, t.allocAr (cellsOf e xs) E hk (by simpa using hl) rfl h1⟩

theorem Loud.makeSlice [Tab P] {T E : TypeId} {s1 s2 s3 s4 : Nat} {z z' : Value} {dE : TypeDesc} {x : Operand} {k : Int} (xs : List α)
    (hT : Tab.tab P T = some ⟨.slice E, s1, s2, z⟩) (hE : Tab.tab P E = some ⟨dE, s3, s4, z'⟩) (hx : ev σ x = some (.int .i64 k)) (h0 : 0 ≤ k) (hb : (s4 : Int) * k ≤ 281474976710656) (h63 : k ≤ 140737488355328)
    (hk : xs.length = k.toNat) (hz : (madeCells z'.cells (k.toNat * s3)).toList = cellsOf e xs) (h1 : (cellsOf e xs).all one = true) :
    Loud P c n σ M L ⟨d, .makeSlice T x x, ty, pos, aft, g⟩ (fun b : Nat => .slice (some ⟨b, 0, none⟩) k.toNat k.toNat) (fun b => Ar e (.slice (some ⟨b, 0, none⟩) k.toNat k.toNat) xs :: M) (fun _ => L) := fun a w s t => by
  obtain ⟨iE, hiE, hs, hby, hze⟩ := (Tab.ok hE).info
  simp only at hs hby hze
  have hr := run_make (P := P) w T E iE z' (Tab.ok hT).und hiE hze .i64 .i64 k k h0 (Int.le_refl _) (by rw [hby]; exact hb) (by omega)
  have hrun : (execOp a.eval ⟨d, .makeSlice T x x, ty, pos, aft, g⟩).run P w = .ok (.value (.slice (some ⟨w.heap.size, 0, none⟩) k.toNat k.toNat)) (w.alloc (.cells (cellsOf e xs).toArray E)) := by
    simp only [execOp, s.eval hx]
    have : madeCells z'.cells (k.toNat * iE.size) = (cellsOf e xs).toArray := by rw [← hz, hs]
    simp [hr, this]
  simp only [Oper.wp, hrun, Oper.upon]
  exact ⟨w.heap.size, rfl, t.allocAr (cellsOf e xs) E hk (by omega) rfl h1⟩

/-! ## append -/
theorem run_room {T ty E : TypeId} {dT dE : Ty} {w : World} (hT : TyOk P T dT) (hd : dT.desc = .slice E) (hE : TyOk P E dE) {b off k cap : Nat} {cur : Array Value} {T' : TypeId} (hb : w.heap[b]? = some (.cells cur T' (0, 0))) {m : Nat} {x : Value} {ns : List Value} (hs : Src P dE.size T x m ns w)
    (hroom : k + m ≤ cap) (hc : off + cap * dE.size ≤ cur.size) :
    (Builtin.append_ #[T, T] ty #[.slice (some ⟨b, off, none⟩) k cap, x]).run P w = .ok (.slice (some ⟨b, off, none⟩) (k + m) cap) (w.setRow b (cur.toList.take (off + k * dE.size) ++ ns ++ cur.toList.drop (off + k * dE.size + ns.length)).toArray) := by
  have hfit : off + k * dE.size + 0 + ns.length ≤ cur.size := by
    rw [hs.newsLen]
    have := Nat.mul_le_mul_right dE.size hroom
    rw [Nat.add_mul] at this
    omega
  have hst := run_storeCells_at P b (off + k * dE.size) T' ns 0 cur w hb hfit hs.one
  simp only [Nat.add_zero] at hst
  have hu := hT.run_und w
  rw [hd] at hu
  simp [Builtin.append_, hu, hE.run_size w, hs.len, hroom, hs.cells, add_none, hst]

theorem run_grow {T ty E : TypeId} {dT dE : Ty} {w : World} (hT : TyOk P T dT) (hd : dT.desc = .slice E) (hE : TyOk P E dE) {base : Option Addr} {k cap : Nat} {olds : List Value}
    (hold : (Builtin.firstCells dE.size k (.slice base k cap)).run P w.drew = .ok olds.toArray w.drew) {m : Nat} {x : Value} {ns : List Value} (hs : Src P dE.size T x m ns w) (hg : cap < k + m) (hb : (k + m) * dE.bytes ≤ 140737488355328) (h63 : k + m ≤ 140737488355328) :
    (Builtin.append_ #[T, T] ty #[.slice base k cap, x]).run P w = .ok (.slice (some ⟨w.heap.size, 0, none⟩) (k + m) (grownCap w (k + m) cap E))
      (w.drew.alloc (.cells ((olds ++ ns).toArray ++ Builtin.zeroCells dE.zero.cells (grownCap w (k + m) cap E - (k + m))) E)) := by
  obtain ⟨iE, hiE, hsz, hby, hz⟩ := hE.info
  have hfit := growslice_fits (need := k + m) (old := cap) (bytes := dE.bytes) hg hb
  exact run_append_grow_src w T T ty E iE dE.zero (by rw [hT.und, hd]) hiE hz base k cap olds (by rw [hsz]; exact hold) x m ns (by rw [hsz]; exact hs) hg (by omega) (by rw [hby]; exact hfit)

theorem ArR.src [Tab P] {w : World} {F : Nat → Prop} {v : Value} {xs : List α} {T E : TypeId} {s1 s2 : Nat} {z : Value} (h : ArR e w F v xs) (hT : Tab.tab P T = some ⟨.slice E, s1, s2, z⟩) : Src P e.sz T v xs.length (cellsOf e xs) w := by
  obtain ⟨_, h1, h⟩ := h
  have hone : ∀ u ∈ cellsOf e xs, u.oneCell' = true := fun u hu => one_oneCell (List.all_eq_true.1 h1 u hu)
  rcases h with ⟨rfl, rfl⟩ | ⟨b, off, cap, T', cur, rfl, _, hb, hk, hc, ht⟩
  · exact Src.ofNil w (Tab.ok hT).und 0
  · refine Src.ofSlice w (Tab.ok hT).und _ _ _ _ (cellsOf_length e xs) (fun j u hu => ?_) hone
    rw [← ht, List.getElem?_take] at hu
    split at hu
    · rw [List.getElem?_drop] at hu
      rw [add_none]
      simp [World.cell?, hb]
      simpa using hu
    · cases hu

theorem ArR.old [Tab P] {w : World} {F : Nat → Prop} {v : Value} {xs : List α} (h : ArR e w F v xs) : ∃ base cap, v = .slice base xs.length cap ∧ (Builtin.firstCells e.sz xs.length v).run P w.drew = .ok (cellsOf e xs).toArray w.drew := by
  obtain ⟨_, h1, h⟩ := h
  rcases h with ⟨rfl, rfl⟩ | ⟨b, off, cap, T', cur, rfl, _, hb, hk, hc, ht⟩
  · exact ⟨none, 0, rfl, run_firstCells_none w.drew e.sz 0 0 0⟩
  · refine ⟨_, cap, rfl, run_firstCells_some w.drew e.sz xs.length _ _ _ _ (cellsOf_length e xs) (fun j u hu => ?_)⟩
    rw [← ht, List.getElem?_take] at hu
    split at hu
    · rw [List.getElem?_drop] at hu
      rw [add_none]
      have hb' : w.drew.heap[b]? = some (.cells cur T' (0, 0)) := hb
      simp [World.cell?, hb']
      simpa using hu
    · cases hu

theorem drop_room (cur : List Value) (off len : Nat) (ns : List Value) (h : off + len + ns.length ≤ cur.length) :
    ((cur.take (off + len) ++ ns ++ cur.drop (off + len + ns.length)).drop off).take (len + ns.length) = (cur.drop off).take len ++ ns := by
  have e1 : off + len - off = len := by omega
  have e2 : ((cur.drop off).take len).length = len := by simp; omega
  rw [List.append_assoc, List.drop_append_of_le_length (by simp; omega), List.drop_take, e1, List.take_append, e2, List.take_of_length_le (by omega)]
  have e3 : len + ns.length - len = ns.length := by omega
  rw [e3, List.take_append_of_le_length (Nat.le_refl _), List.take_of_length_le (Nat.le_refl _)]

/-- what append does to a slice of the call's own -/
structure Grown (w w' : World) (F F' : Nat → Prop) : Prop where
  os : w'.os = w.os
  tape : w'.tape = w.tape
  out : w'.output = w.output
  size : w.heap.size ≤ w'.heap.size
  same : ∀ k, k < w.heap.size → ¬ F k → w'.heap[k]? = w.heap[k]?
  sub : ∀ k, F' k → F k ∨ (w.heap.size ≤ k ∧ k < w'.heap.size)

theorem ArR.append [Tab P] {w : World} {F : Nat → Prop} {v x : Value} {xs ys : List α} {T E ty : TypeId} {s1 s2 s4 : Nat} {z z' : Value} {dE : TypeDesc} (hF0 : ArR e w F v xs) (hs : Src P e.sz T x ys.length (cellsOf e ys) w) (h1y : (cellsOf e ys).all one = true)
    (hT : Tab.tab P T = some ⟨.slice E, s1, s2, z⟩) (hE : Tab.tab P E = some ⟨dE, e.sz, s4, z'⟩) (hb : (xs.length + ys.length) * s4 ≤ 140737488355328) (hl : xs.length + ys.length ≤ 140737488355328) (hz : z'.cells.size = e.sz) :
    ∃ v' w' F', (Builtin.append_ #[T, T] ty #[v, x]).run P w = .ok v' w' ∧ ArR e w' F' v' (xs ++ ys) ∧ Grown w w' F F' := by
  have hall : (cellsOf e (xs ++ ys)).all one = true := by
    rw [cellsOf_append, List.all_append, hF0.2.1, h1y]; rfl
  obtain ⟨base, cap, rfl, hold⟩ := ArR.old (P := P) hF0
  by_cases hroom : xs.length + ys.length ≤ cap
  · have hF1 := hF0
    obtain ⟨_, _, hh⟩ := hF0
    rcases hh with ⟨hv, rfl⟩ | ⟨b, off, cap', T', cur, hv, hFb, hbk, hk, hc, ht⟩
    · cases hv
      have hy : ys = [] := List.eq_nil_of_length_eq_zero (by simpa using hroom)
      subst hy
      refine ⟨.slice none 0 0, w, F, ?_, hF1, ⟨rfl, rfl, rfl, Nat.le_refl _, fun _ _ _ => rfl, fun _ h => .inl h⟩⟩
      have hu := (Tab.ok hT).run_und w
      have hlen := hs.len w
      have hcl := hs.cells
      simp only [List.length_nil] at hlen hcl
      have hcc : cellsOf e ([] : List α) = [] := rfl
      rw [hcc] at hcl
      simp [Builtin.append_, hu, (Tab.ok hE).run_size w, hlen, hcl]
    · cases hv
      have hr := run_room (P := P) (ty := ty) (Tab.ok hT) rfl (Tab.ok hE) hbk hs hroom hc
      have hfit : off + xs.length * e.sz + (cellsOf e ys).length ≤ cur.toList.length := by
        rw [cellsOf_length]
        have := Nat.mul_le_mul_right e.sz hroom
        rw [Nat.add_mul] at this
        simp; omega
      refine ⟨_, _, F, hr, ⟨by simpa using hl, hall, .inr ⟨b, off, cap, T', _, by simp, hFb, setRow_heap w b _ _ T' _ hbk, by simpa using hroom, ?_, ?_⟩⟩, ⟨rfl, rfl, rfl, by simp, fun k _ hk' => setRow_other w b k _ (fun e => hk' (by subst e; exact hFb)), fun _ h => .inl h⟩⟩
      · simp only [List.size_toArray, List.length_append, List.length_take, List.length_drop]
        have : cur.size = cur.toList.length := by simp
        omega
      · have := drop_room cur.toList off (xs.length * e.sz) (cellsOf e ys) hfit
        rw [List.length_append, Nat.add_mul, ← cellsOf_length e ys, cellsOf_append, ← ht]
        exact this
  · have hr := run_grow (P := P) (ty := ty) (Tab.ok hT) rfl (Tab.ok hE) hold hs (by omega) hb hl
    have hge := grownCap_ge w (xs.length + ys.length) cap E
    refine ⟨_, _, fun k => k = w.heap.size, hr, ⟨by simpa using hl, hall, .inr ⟨w.heap.size, 0, grownCap w (xs.length + ys.length) cap E, E, _, by simp, rfl, heap_alloc_new w.drew _, by simpa using hge, ?_, ?_⟩⟩,
      ⟨rfl, rfl, rfl, by simp, fun k hk _ => Below.heap_alloc w.drew _ k hk, fun k hk => .inr ⟨by omega, by subst hk; simp⟩⟩⟩
    · simp only [Nat.zero_add, Array.size_append, List.size_toArray, List.length_append, cellsOf_length, size_zeroCells, hz]
      rw [← Nat.add_mul, ← Nat.add_mul]
      exact Nat.mul_le_mul_right _ (by omega)
    · simp only [List.drop_zero, Array.toList_append, List.length_append]
      rw [← cellsOf_append, List.take_append_of_le_length (by rw [cellsOf_length]; simp), List.take_of_length_le (by rw [cellsOf_length]; simp)]

theorem ArR.det [Tab P] {w : World} {F1 F2 : Nat → Prop} {v : Value} {xs : List α} (h1 : ArR e w F1 v xs) (h2 : ArR e w F2 v xs) : ArR e w (fun k => F1 k ∧ F2 k) v xs := by
  obtain ⟨a1, a2, a3⟩ := h1
  obtain ⟨_, _, b3⟩ := h2
  refine ⟨a1, a2, ?_⟩
  rcases a3 with a3 | ⟨b, off, cap, T, cur, rfl, hF, r⟩
  · exact .inl a3
  · rcases b3 with ⟨b3, _⟩ | ⟨b', off', cap', T', cur', hv, hF', _⟩
    · cases b3
    · cases hv
      exact .inr ⟨b, off, cap, T, cur, rfl, ⟨hF, hF'⟩, r⟩

theorem St.append [Tab P] {w : World} (t : St c M L w) {i : Nat} {v x : Value} {xs ys : List α} {T E ty : TypeId} {s1 s2 s4 : Nat} {z z' : Value} {dE : TypeDesc} (hf : M[i]? = some (Ar e v xs)) (hs : Src P e.sz T x ys.length (cellsOf e ys) w) (h1y : (cellsOf e ys).all one = true)
    (hT : Tab.tab P T = some ⟨.slice E, s1, s2, z⟩) (hE : Tab.tab P E = some ⟨dE, e.sz, s4, z'⟩) (hb : (xs.length + ys.length) * s4 ≤ 140737488355328) (hl : xs.length + ys.length ≤ 140737488355328) (hz : z'.cells.size = e.sz) :
    ∃ v' w', (Builtin.append_ #[T, T] ty #[v, x]).run P w = .ok v' w' ∧ St c (M.set i (Ar e v' (xs ++ ys))) L w' := by
  have t0 := t
  obtain ⟨ho, FF, hO, hLL⟩ := t0
  obtain ⟨v', w', F', hr, hA, hG⟩ := ArR.append (ty := ty) (hO.res i _ hf) hs h1y hT hE hb hl hz
  refine ⟨v', w', hr, ?_⟩
  exact St.updF ho hO hLL hf hG.os hG.tape hG.out hG.size hG.same hA hG.sub
end
end Go.Sx
end
section
set_option linter.unusedVariables false
set_option linter.unusedSimpArgs false
set_option linter.unusedVariables false
set_option linter.unusedSimpArgs false
namespace Go.Sx
open Go.RowKit
section
variable {P : Program} {rd : Option Nat} {c : Ctx} {n : Sz} {σ : Fr} {M L : List Fact} {Q : Exit → Act → World → Prop} {ops : Array Oper} {rest : List Oper}
variable {d : Option Tmp} {D : Nat} {ty : TypeId} {pos : String} {aft : Array Edge} {g : Option (Nat × Bool)}
variable {α : Type} {e : Enc α}
theorem Loud.alloc [Tab P] {T : TypeId} {dT : Ty} {cs : List Value} (hT : Tab.tab P T = some dT) (hz : dT.zero.cells = cs.toArray) :
    Loud P c n σ M L ⟨d, .alloc T, ty, pos, aft, g⟩ (fun b : Nat => .pointer (some ⟨b, 0, none⟩)) (fun b => Blk b cs T :: M) (fun _ => L) := fun a w s t => by
  have hrun : (execOp a.eval ⟨d, .alloc T, ty, pos, aft, g⟩).run P w = .ok (.value (.pointer (some ⟨w.heap.size, 0, none⟩))) (w.alloc (.cells cs.toArray T)) := by
    simp [execOp, run_alloc w (Tab.ok hT), hz]
  simp only [Oper.wp, hrun, Oper.upon]
  exact ⟨w.heap.size, rfl, t.alloc cs T⟩

theorem Loud.box {T : TypeId} {x : Operand} {v : Value} {cs : List Value} (hx : ev σ x = some v) (hz : v.cells = cs.toArray) :
    Loud P c n σ M L ⟨d, .box T x, ty, pos, aft, g⟩ (fun b : Nat => .pointer (some ⟨b, 0, none⟩)) (fun b => Blk b cs T :: M) (fun _ => L) := fun a w s t => by
  have hrun : (execOp a.eval ⟨d, .box T x, ty, pos, aft, g⟩).run P w = .ok (.value (.pointer (some ⟨w.heap.size, 0, none⟩))) (w.alloc (.cells cs.toArray T)) := by
    simp [execOp, s.eval hx, Instr.box, newVar, newRow, hz]
  simp only [Oper.wp, hrun, Oper.upon]
  exact ⟨w.heap.size, rfl, t.alloc cs T⟩

theorem Loud.call {A : Type} {ret : A → Value} {MO LO : A → List Fact → List Fact} {f : FuncId} {xs : List Operand} {vs : List Value} {ats : Array TypeId} {L0 : List Fact} (hb : HasBody P f)
    (hs : Meets P f vs.toArray L0 ret MO LO) (hx : xs.map (ev σ) = vs.map some) (hL : SubL L L0) (hMO : ∀ x l, MO x l = MO x [] ++ l) (hLO : ∀ x l, LO x l = LO x [] ++ l) :
    Loud P c n σ M L ⟨d, .call ⟨.value (.func f), xs.toArray, ats⟩, ty, pos, aft, g⟩ ret (fun x => MO x M) (fun x => LO x L) := fun a w s t => by
  have hrun : (execOp a.eval ⟨d, .call ⟨.value (.func f), xs.toArray, ats⟩, ty, pos, aft, g⟩).run P w = .ok (.enter f vs.toArray) w := by
    have e := evs s hx
    simp [execOp, resolve, Act.eval, Deferred.ofValue, invoke, hb _ w, e]
  simp only [Oper.wp, hrun, Oper.upon]
  obtain ⟨ho, F, hF, hLF⟩ := t
  refine (hs w (Free c F) (fun f hf => hLF f (hL f hf))).mono ?_
  rintro e w' ⟨x, rfl, ht⟩
  refine ⟨x, rfl, ?_⟩
  rw [hMO, hLO]
  exact St.call ho hF hLF ht

theorem run_appendOp [Tab P] {x y : Operand} {T : TypeId} {vx vy : Value} {a : Act} (s : Sub n σ a) (hx : ev σ x = some vx) (hy : ev σ y = some vy) (w : World) :
    (execOp a.eval ⟨d, .call ⟨.builtin .append, #[x, y], #[T, T]⟩, ty, pos, aft, g⟩).run P w = ((Builtin.append_ #[T, T] ty #[vx, vy]).run P w).andThen fun v w' => .ok (.value v) w' := by
  simp [execOp, resolve, invoke, builtin, s.eval hx, s.eval hy]

/-- append to a slice of the call's own; what is appended is the call's own too -/
theorem Loud.append [Tab P] (i j : Nat) {x y : Operand} {v u : Value} {xs ys : List α} {T E : TypeId} {s1 s2 s3 s4 : Nat} {z z' : Value} {dE : TypeDesc} (hx : ev σ x = some v) (hy : ev σ y = some u) (hf : M[i]? = some (Ar e v xs)) (hg : M[j]? = some (Ar e u ys))
    (hT : Tab.tab P T = some ⟨.slice E, s1, s2, z⟩) (hE : Tab.tab P E = some ⟨dE, s3, s4, z'⟩) (h3 : e.sz = s3) (hb : (xs.length + ys.length) * s4 ≤ 140737488355328) (hl : xs.length + ys.length ≤ 140737488355328) (hz : z'.cells.size = s3) :
    Loud P c n σ M L ⟨d, .call ⟨.builtin .append, #[x, y], #[T, T]⟩, ty, pos, aft, g⟩ (fun v' : Value => v') (fun v' => M.set i (Ar e v' (xs ++ ys))) (fun _ => L) := fun a w s t => by
  subst h3
  obtain ⟨F, hF⟩ := t.res hg
  obtain ⟨v', w', hr, ht⟩ := t.append (ty := ty) hf (ArR.src hF hT) hF.2.1 hT hE hb hl hz
  simp only [Oper.wp, run_appendOp s hx hy w, hr, Result.andThen_ok, Oper.upon]
  exact ⟨v', rfl, ht⟩

/-! ## Slices that are read: as a source -/
theorem SlR.src [Tab P] {β : Type} {r : Rep β} {w : World} {S : Nat → Prop} {v : Value} {xs : List β} {T E : TypeId} {s1 s2 : Nat} {z : Value} (h : SlR r w S v xs) (hT : Tab.tab P T = some ⟨.slice E, s1, s2, z⟩) (hr : ∀ {w S es x}, r.R w S es x → es.all one = true) :
    ∃ cs, Src P r.sz T v xs.length cs w ∧ cs.all one = true ∧ cs.length = xs.length * r.sz ∧ ∀ i x, xs[i]? = some x → ∃ es, r.R w S es x ∧ ∀ j u, es[j]? = some u → cs[i * r.sz + j]? = some u := by
  obtain ⟨a, cap, rfl, hlen, h⟩ := h
  rcases h with rfl | ⟨b, off, rfl, _, h⟩
  · cases a with
    | none =>
      refine ⟨[], ?_, rfl, by simp, fun i x hx => by simp at hx⟩
      exact Src.ofNil w (Tab.ok hT).und cap
    | some a =>
      refine ⟨[], ?_, rfl, by simp, fun i x hx => by simp at hx⟩
      exact Src.ofSlice w (Tab.ok hT).und a 0 cap [] (by simp) (fun j u hu => by simp at hu) (fun u hu => by simp at hu)
  · -- the cells, one after the other
    have key : ∀ (ys : List β) (k : Nat), (∀ i x, ys[i]? = some x → ∃ es, (∀ j e, es[j]? = some e → w.cell? ⟨b, off + ((k + i) * r.sz + j), none⟩ = some e) ∧ r.R w S es x) →
        ∃ cs : List Value, cs.all one = true ∧ cs.length = ys.length * r.sz ∧ (∀ j u, cs[j]? = some u → w.cell? ⟨b, off + (k * r.sz + j), none⟩ = some u) ∧ ∀ i x, ys[i]? = some x → ∃ es, r.R w S es x ∧ ∀ j u, es[j]? = some u → cs[i * r.sz + j]? = some u := by
      intro ys
      induction ys with
      | nil => intro k _; exact ⟨[], rfl, by simp, fun j u hu => by simp at hu, fun i x hx => by simp at hx⟩
      | cons y ys ih =>
        intro k hk
        obtain ⟨es, hes, hre⟩ := hk 0 y rfl
        obtain ⟨cs, h1, h2, h3, h4⟩ := ih (k + 1) (fun i x hx => by
          obtain ⟨es', hes', hre'⟩ := hk (i + 1) x (by simpa using hx)
          refine ⟨es', fun j u hu => ?_, hre'⟩
          have := hes' j u hu
          rwa [show k + (i + 1) = k + 1 + i from by omega] at this)
        have hl := r.len hre
        refine ⟨es ++ cs, by rw [List.all_append, hr hre, h1]; rfl, by rw [List.length_append, h2, hl, List.length_cons, Nat.add_mul]; omega, ?_, ?_⟩
        · intro j u hu
          by_cases hj : j < es.length
          · rw [List.getElem?_append_left hj] at hu
            have := hes j u hu
            rwa [Nat.add_zero] at this
          · rw [List.getElem?_append_right (by omega)] at hu
            have := h3 _ u hu
            rw [Nat.add_mul, hl] at this
            rwa [show off + (k * r.sz + 1 * r.sz + (j - r.sz)) = off + (k * r.sz + j) from by omega] at this
        · intro i x hx
          cases i with
          | zero =>
            simp at hx; subst hx
            refine ⟨es, hre, fun j u hu => ?_⟩
            rw [List.getElem?_append_left (by have := getElem?_lt hu; omega)]
            simpa using hu
          | succ i =>
            obtain ⟨es', hre', h5⟩ := h4 i x (by simpa using hx)
            refine ⟨es', hre', fun j u hu => ?_⟩
            rw [List.getElem?_append_right (by rw [hl, Nat.add_mul]; omega), hl]
            rw [show (i + 1) * r.sz + j - r.sz = i * r.sz + j from by rw [Nat.add_mul]; omega]
            exact h5 j u hu
    obtain ⟨cs, h1, h2, h3, h4⟩ := key xs 0 (fun i x hx => by
      obtain ⟨es, hes, hre⟩ := h i x hx
      exact ⟨es, fun j u hu => by rw [Nat.zero_add]; exact hes j u hu, hre⟩)
    refine ⟨cs, ?_, h1, h2, h4⟩
    refine Src.ofSlice w (Tab.ok hT).und _ _ _ _ h2 (fun j u hu => ?_) (fun u hu => one_oneCell (List.all_eq_true.1 h1 u hu))
    rw [add_none]
    have := h3 j u hu
    rwa [Nat.zero_mul, Nat.zero_add] at this

/-- r represents x by the cells that e gives -/
def Enc.Fits (e : Enc α) (r : Rep α) : Prop := r.sz = e.sz ∧ (∀ {w S es x}, r.R w S es x → es = e.enc x) ∧ (∀ {w S x}, r.R w S (e.enc x) x) ∧ ∀ x, (e.enc x).all one = true

theorem Enc.int_fits (k : IntKind) : (Enc.int k).Fits (Rep.int k) := ⟨rfl, fun h => h, rfl, fun _ => rfl⟩
theorem cellsOf_ext {cs : List Value} {xs : List α} (hl : cs.length = xs.length * e.sz) (h : ∀ i x, xs[i]? = some x → ∀ j u, (e.enc x)[j]? = some u → cs[i * e.sz + j]? = some u) : cs = cellsOf e xs := by
  apply List.ext_getElem?
  intro k
  by_cases hk : k < xs.length * e.sz
  · have hpos := e.pos
    have hi : k / e.sz < xs.length := Nat.div_lt_of_lt_mul (by rw [Nat.mul_comm]; exact hk)
    have hm : k % e.sz < e.sz := Nat.mod_lt _ hpos
    have hx : xs[k / e.sz]? = some (xs[k / e.sz]) := List.getElem?_eq_getElem hi
    have hlen := e.len xs[k / e.sz]
    have hu : (e.enc xs[k / e.sz])[k % e.sz]? = some ((e.enc xs[k / e.sz])[k % e.sz]'(by omega)) := List.getElem?_eq_getElem _
    have ek : k / e.sz * e.sz + k % e.sz = k := by rw [Nat.mul_comm]; exact Nat.div_add_mod k e.sz
    have h1 := h _ _ hx _ _ hu
    have h2 := cellsOf_get e xs _ _ hx _ _ hu
    rw [ek] at h1 h2
    rw [h1, h2]
  · rw [List.getElem?_eq_none (by omega), List.getElem?_eq_none (by rw [cellsOf_length]; omega)]

theorem SlR.srcE [Tab P] {r : Rep α} (hfit : e.Fits r) {w : World} {S : Nat → Prop} {v : Value} {xs : List α} {T E : TypeId} {s1 s2 : Nat} {z : Value} (h : SlR r w S v xs) (hT : Tab.tab P T = some ⟨.slice E, s1, s2, z⟩) :
    Src P e.sz T v xs.length (cellsOf e xs) w ∧ (cellsOf e xs).all one = true := by
  obtain ⟨hsz, h1, _, h3⟩ := hfit
  obtain ⟨cs, hs, ho, hl, hc⟩ := SlR.src h hT (fun {w S es x} hr => by rw [h1 hr]; exact h3 x)
  have : cs = cellsOf e xs := cellsOf_ext (by rw [hl, hsz]) (fun i x hx j u hu => by
    obtain ⟨es, hre, he⟩ := hc i x hx
    rw [← hsz]
    exact he j u (by rw [h1 hre]; exact hu))
  subst this
  rw [← hsz]
  exact ⟨hs, ho⟩

/-- the nil slice is the call's own -/
theorem J.nilAr (e : Enc α) {G : Act → World → Prop} (h : J c n σ (Ar e (.slice none 0 0) [] :: M) L G) : J c n σ M L G := fun a w s t => h a w s (by
  obtain ⟨ho, F, hF, hL⟩ := t
  refine ⟨ho, fun i k => match i with | 0 => False | i + 1 => F i k, ⟨?_, ?_, ?_⟩, fun f hf => Fact.same (hL f hf) (fun k hk => ⟨hk.1, fun i hi => by
      cases i with
      | zero => exact hi
      | succ i => exact hk.2 i hi⟩) (fun _ _ _ => rfl)⟩
  · intro i m hm
    cases i with
    | zero => simp at hm; subst hm; exact ⟨by simp, rfl, .inl ⟨rfl, rfl⟩⟩
    | succ i => exact hF.res i m (by simpa using hm)
  · intro i k hk
    cases i with
    | zero => exact hk.elim
    | succ i => exact hF.rng i k hk
  · intro i j k hi hj
    cases i with
    | zero => exact hi.elim
    | succ i =>
      cases j with
      | zero => exact hj.elim
      | succ j => exact congrArg (· + 1) (hF.dis i j k hi hj))

theorem ArR.sl {r : Rep α} (hfit : e.Fits r) {w : World} {F : Nat → Prop} {v : Value} {xs : List α} (h : ArR e w F v xs) : SlR r w F v xs := by
  obtain ⟨hsz, _, h2, _⟩ := hfit
  have h' := h
  obtain ⟨hl, _, hh⟩ := h
  rcases hh with ⟨rfl, rfl⟩ | ⟨b, off, cap, T, cur, rfl, hF, hb, hk, hc, ht⟩
  · exact ⟨none, 0, rfl, by simp, .inl rfl⟩
  · refine ⟨_, cap, rfl, by omega, .inr ⟨b, off, rfl, hF, fun i x hx => ⟨e.enc x, fun j u hu => ?_, h2⟩⟩⟩
    have := ArR.cell h' hx hu
    simp only [elA, add_none] at this
    rw [hsz]
    exact this

/-! ## Rws: slices of the call's own in a slice of the call's own -/
def Rws {α : Type} (e : Enc α) (vs : List Value) (xss : List (List α)) : Fact where
  p w F := vs.length = xss.length ∧ ∃ G : Nat → Nat → Prop, (∀ i v xs, vs[i]? = some v → xss[i]? = some xs → ArR e w (G i) v xs) ∧ (∀ i k, G i k → F k) ∧ ∀ i j k, G i k → G j k → i = j
  mono := by
    rintro w w' S S' ⟨hl, G, h1, h2, h3⟩ hs
    refine ⟨hl, fun i k => G i k ∧ k < w.heap.size, fun i v xs hv hx => (Ar e v xs).mono (h1 i v xs hv hx) (fun k hk hlt => ⟨⟨hk, hlt⟩, (hs k (h2 i k hk) hlt).2⟩), fun i k hk => (hs k (h2 i k hk.1) hk.2).1, fun i j k hi hj => h3 i j k hi.1 hj.1⟩

theorem J.rowsNew (e : Enc α) (k : Nat) {G : Act → World → Prop} (h : J c n σ (Rws e (List.replicate k (.slice none 0 0)) (List.replicate k []) :: M) L G) : J c n σ M L G := fun a w s t => h a w s (by
  obtain ⟨ho, F, hF, hL⟩ := t
  refine ⟨ho, fun i k => match i with | 0 => False | i + 1 => F i k, ⟨?_, ?_, ?_⟩, fun f hf => Fact.same (hL f hf) (fun k hk => ⟨hk.1, fun i hi => by
      cases i with
      | zero => exact hi
      | succ i => exact hk.2 i hi⟩) (fun _ _ _ => rfl)⟩
  · intro i m hm
    cases i with
    | zero =>
      simp at hm; subst hm
      refine ⟨by simp, fun _ _ => False, fun i v xs hv hx => ?_, fun _ _ h => h, fun _ _ _ h => h.elim⟩
      rw [List.getElem?_replicate] at hv hx
      split at hv
      · split at hx
        · cases hv; cases hx
          exact ⟨by simp, rfl, .inl ⟨rfl, rfl⟩⟩
        · omega
      · cases hv
    | succ i => exact hF.res i m (by simpa using hm)
  · intro i k hk
    cases i with
    | zero => exact hk.elim
    | succ i => exact hF.rng i k hk
  · intro i j k hi hj
    cases i with
    | zero => exact hi.elim
    | succ i =>
      cases j with
      | zero => exact hj.elim
      | succ j => exact congrArg (· + 1) (hF.dis i j k hi hj))

theorem Rws.row {w : World} {F : Nat → Prop} {vs : List Value} {xss : List (List α)} (h : (Rws e vs xss).p w F) {k : Int} (h0 : 0 ≤ k) (h1 : k < vs.length) : ∃ F', ArR e w F' (at' vs k) (at' xss k) := by
  obtain ⟨hl, G, h1', _, _⟩ := h
  exact ⟨_, h1' k.toNat _ _ (at'_some h0 h1) (at'_some h0 (by omega))⟩

/-- append to a row -/
theorem Loud.appendRow [Tab P] (i j : Nat) {x y : Operand} {u : Value} {k : Int} {vs : List Value} {xss : List (List α)} {ys : List α} {T E : TypeId} {s1 s2 s3 s4 : Nat} {z z' : Value} {dE : TypeDesc} (hx : ev σ x = some (at' vs k)) (hy : ev σ y = some u) (hf : M[i]? = some (Rws e vs xss)) (hg : M[j]? = some (Ar e u ys))
    (hT : Tab.tab P T = some ⟨.slice E, s1, s2, z⟩) (hE : Tab.tab P E = some ⟨dE, s3, s4, z'⟩) (h3 : e.sz = s3) (h0 : 0 ≤ k) (h1 : k < vs.length) (hb : ((at' xss k).length + ys.length) * s4 ≤ 140737488355328) (hl : (at' xss k).length + ys.length ≤ 140737488355328) (hz : z'.cells.size = s3) :
    Loud P c n σ M L ⟨d, .call ⟨.builtin .append, #[x, y], #[T, T]⟩, ty, pos, aft, g⟩ (fun v' : Value => v') (fun v' => M.set i (Rws e (vs.set k.toNat v') (xss.set k.toNat (at' xss k ++ ys)))) (fun _ => L) := fun a w s t => by
  subst h3
  obtain ⟨F, hF⟩ := t.res hg
  have hsrc := ArR.src hF hT
  have hone := hF.2.1
  have t0 := t
  obtain ⟨ho, FF, hO, hLL⟩ := t0
  have hR := hO.res i _ hf
  obtain ⟨hlen, G, g1, g2, g3⟩ := hR
  have hkl : k.toNat < vs.length := by omega
  have hrow := g1 k.toNat _ _ (at'_some h0 h1) (at'_some h0 (by omega))
  obtain ⟨v', w', F', hr, hA, hG⟩ := ArR.append (ty := ty) hrow hsrc hone hT hE hb hl hz
  simp only [Oper.wp, run_appendOp s hx hy w, hr, Result.andThen_ok, Oper.upon]
  refine ⟨v', rfl, ?_⟩
  refine St.updF ho hO hLL hf hG.os hG.tape hG.out hG.size (fun q hq hn => hG.same q hq (fun h => hn (g2 _ q h))) (F' := fun q => (F' q) ∨ ∃ j', j' ≠ k.toNat ∧ G j' q) ?_ ?_
  · refine ⟨by simp [hlen], fun j' q => (j' = k.toNat ∧ F' q) ∨ (j' ≠ k.toNat ∧ G j' q ∧ q < w.heap.size), ?_, ?_, ?_⟩
    · intro j' v2 xs2 hv2 hx2
      by_cases ej : j' = k.toNat
      · subst ej
        rw [List.getElem?_set_self hkl] at hv2
        rw [List.getElem?_set_self (by omega)] at hx2
        cases hv2; cases hx2
        exact Fact.same (f := Ar e v' (at' xss k ++ ys)) hA (fun q hq => .inl ⟨rfl, hq⟩) (fun _ _ _ => rfl)
      · rw [List.getElem?_set_ne (Ne.symm ej)] at hv2 hx2
        exact (Ar e v2 xs2).mono (g1 j' v2 xs2 hv2 hx2) (fun q hq hlt => ⟨.inr ⟨ej, hq, hlt⟩, hG.same q hlt (fun h => ej (g3 _ _ q hq h))⟩)
    · rintro j' q (⟨_, hq⟩ | ⟨hne, hq, _⟩)
      · exact .inl hq
      · exact .inr ⟨j', hne, hq⟩
    · rintro j1 j2 q (⟨e1, q1⟩ | ⟨e1, q1, l1⟩) (⟨e2, q2⟩ | ⟨e2, q2, l2⟩)
      · rw [e1, e2]
      · rcases hG.sub q q1 with h | ⟨h, _⟩
        · exact absurd (g3 _ _ q q2 h) e2
        · omega
      · rcases hG.sub q q2 with h | ⟨h, _⟩
        · exact absurd (g3 _ _ q q1 h) e1
        · omega
      · exact g3 _ _ q q1 q2
  · rintro q (hq | ⟨j', _, hq⟩)
    · rcases hG.sub q hq with h | h
      · exact .inl (g2 _ q h)
      · exact .inr h
    · exact .inl (g2 _ q hq)

/-- two resources become one -/
theorem St.merge {w : World} (t : St c M L w) (i j : Nat) {m1 m2 m' : Fact} (hij : i ≠ j) (hf : M[i]? = some m1) (hg : M[j]? = some m2)
    (hm : ∀ {w F1 F2}, m1.p w F1 → m2.p w F2 → (∀ k, F1 k → ¬ F2 k) → m'.p w (fun k => F1 k ∨ F2 k)) : St c ((M.set i m').eraseIdx j) L w := by
  obtain ⟨ho, F, hO, hL⟩ := t
  have hi := getElem?_lt hf
  have hj := getElem?_lt hg
  have hA := hm (hO.res i _ hf) (hO.res j _ hg) (fun k h1 h2 => hij (hO.dis _ _ k h1 h2))
  let up : Nat → Nat := fun q => if q < j then q else q + 1
  refine ⟨ho, fun q b => q + 1 < M.length ∧ (F (up q) b ∨ (up q = i ∧ F j b)), ⟨?_, ?_, ?_⟩, fun f hf' => ?_⟩
  · intro q m hm
    have hq := getElem?_lt hm
    rw [List.length_eraseIdx_of_lt (by simpa using hj), List.length_set] at hq
    have hq' : q + 1 < M.length := by omega
    have hm' : (M.set i m')[up q]? = some m := by
      rw [List.getElem?_eraseIdx] at hm
      simp only [up]
      split
      · rename_i h'; rwa [if_pos h'] at hm
      · rename_i h'; rwa [if_neg h'] at hm
    by_cases eq : up q = i
    · rw [eq, List.getElem?_set_self hi] at hm'
      cases hm'
      refine Fact.same hA (fun b hb => ⟨hq', ?_⟩) (fun _ _ _ => rfl)
      rcases hb with hb | hb
      · exact .inl (by rw [eq]; exact hb)
      · exact .inr ⟨eq, hb⟩
    · rw [List.getElem?_set_ne (Ne.symm eq)] at hm'
      exact Fact.same (hO.res (up q) m hm') (fun b hb => ⟨hq', .inl hb⟩) (fun _ _ _ => rfl)
  · rintro q b ⟨_, hb | ⟨_, hb⟩⟩
    · exact hO.rng _ b hb
    · exact hO.rng _ b hb
  · have upj : ∀ q, up q ≠ j := by intro q; simp only [up]; split <;> omega
    have upi : ∀ q r, up q = up r → q = r := by intro q r; simp only [up]; split <;> split <;> omega
    rintro q r b ⟨_, hb | ⟨e1, hb⟩⟩ ⟨_, hb' | ⟨e2, hb'⟩⟩
    · exact upi _ _ (hO.dis _ _ b hb hb')
    · exact absurd (hO.dis _ _ b hb hb') (upj q)
    · exact absurd (hO.dis _ _ b hb' hb) (upj r)
    · exact upi _ _ (e1.trans e2.symm)
  · exact Fact.same (hL f hf') (fun b hb => ⟨hb.1, by
      rintro q ⟨_, h | ⟨_, h⟩⟩
      · exact hb.2 _ h
      · exact hb.2 _ h⟩) (fun _ _ _ => rfl)

/-- a whole slice of the call's own becomes a row -/
theorem J.putRow (i j : Nat) {u : Value} {k : Int} {vs : List Value} {xss : List (List α)} {ys : List α} {G : Act → World → Prop} (hij : Nat.beq i j = false) (hf : M[i]? = some (Rws e vs xss)) (hg : M[j]? = some (Ar e u ys)) (h0 : 0 ≤ k) (h1 : k < vs.length)
    (h : J c n σ ((M.set i (Rws e (vs.set k.toNat u) (xss.set k.toNat ys))).eraseIdx j) L G) : J c n σ M L G := fun a w s t =>
  h a w s (t.merge i j (fun e => by subst e; simp at hij) hf hg (by
    rintro w F1 F2 ⟨hlen, G, g1, g2, g3⟩ hA hd
    have hkl : k.toNat < vs.length := by omega
    refine ⟨by simp [hlen], fun r b => (r = k.toNat ∧ F2 b) ∨ (r ≠ k.toNat ∧ G r b), ?_, ?_, ?_⟩
    · intro r v2 xs2 hv2 hx2
      by_cases er : r = k.toNat
      · subst er
        rw [List.getElem?_set_self hkl] at hv2
        rw [List.getElem?_set_self (by omega)] at hx2
        cases hv2; cases hx2
        exact Fact.same (f := Ar e u ys) hA (fun b hb => .inl ⟨rfl, hb⟩) (fun _ _ _ => rfl)
      · rw [List.getElem?_set_ne (Ne.symm er)] at hv2 hx2
        exact Fact.same (f := Ar e v2 xs2) (g1 r v2 xs2 hv2 hx2) (fun b hb => .inr ⟨er, hb⟩) (fun _ _ _ => rfl)
    · rintro r b (⟨_, hb⟩ | ⟨_, hb⟩)
      · exact .inr hb
      · exact .inl (g2 r b hb)
    · rintro r1 r2 b (⟨e1, b1⟩ | ⟨e1, b1⟩) (⟨e2, b2⟩ | ⟨e2, b2⟩)
      · rw [e1, e2]
      · exact absurd b1 (hd b (g2 _ b b2))
      · exact absurd b2 (hd b (g2 _ b b1))
      · exact g3 _ _ b b1 b2))

theorem rows_sl {r : Rep α} (hfit : e.Fits r) {v : Value} {vs : List Value} {xss : List (List α)} {w : World} {F1 F2 : Nat → Prop} (hA : (Ar Enc.raw v vs).p w F1) (hR : (Rws e vs xss).p w F2) : SlR (Rep.sl r) w (fun k => F1 k ∨ F2 k) v (vs.zip xss) := by
  obtain ⟨hlen, G, g1, g2, _⟩ := hR
  have hz : (vs.zip xss).length = vs.length := by simp [hlen]
  have hA' := hA
  obtain ⟨hl, _, hh⟩ := hA
  rcases hh with ⟨rfl, rfl⟩ | ⟨b, off, cap, T, cur, rfl, hFb, hb, hk, hc, ht⟩
  · exact ⟨none, 0, rfl, by simp, .inl rfl⟩
  · refine ⟨_, cap, by rw [hz], by rw [hz]; omega, .inr ⟨b, off, rfl, .inl hFb, fun q x hx => ?_⟩⟩
    have hv : vs[q]? = some x.1 := by rw [List.getElem?_zip_eq_some] at hx; exact hx.1
    have hxx : xss[q]? = some x.2 := by rw [List.getElem?_zip_eq_some] at hx; exact hx.2
    refine ⟨[x.1], fun jj u hu => ?_, rfl, ?_⟩
    · have := ArR.cell hA' hv (j := jj) (u := u) hu
      simp only [elA, add_none] at this
      exact this
    · exact (Sl r x.1 x.2).mono (ArR.sl hfit (g1 q _ _ hv hxx)) (fun k hk _ => ⟨.inr (g2 _ k hk), rfl⟩)

/-- a plain proposition among the facts -/
def Pure (p : Prop) : Fact := ⟨fun _ _ => p, fun h _ => h⟩

theorem J.pure {p : Prop} {G : Act → World → Prop} (hf : Pure p ∈ L) (h : p → J c n σ M L G) : J c n σ M L G := fun a w s t => h (by obtain ⟨_, hp⟩ := t.fact hf; exact hp) a w s t

/-! blocks that are only read -/
theorem Y.loadBL [Tab P] {T T' : TypeId} {s1 s2 : Nat} {z : Value} {dT : TypeDesc} {x : Operand} {b o : Nat} {cs : List Value} {v : Value} (hx : ev σ x = some (.pointer (some ⟨b, o, none⟩)))
    (hM : Blk b cs T' ∈ L) (hT : Tab.tab P T = some ⟨dT, s1, s2, z⟩) (hd : aggD dT = false) (hv : cs[o]? = some v) : Y P c n σ M L ⟨d, .load T x, ty, pos, aft, g⟩ v := fun a w s t => by
  obtain ⟨F, hF⟩ := t.fact hM
  simp [execOp, s.eval hx, run_load1 (Tab.ok hT) hd (Blk.cell hF hv)]

end
end Go.Sx
end
