/- The layer Sx, part 0: weakest preconditions in a round's frame (Code.wpr), from the kit's fenced ones; the wide fence. Conditions: none. -/
import Derived.WalkKit
import Derived.RangeFuncRecord
import Derived.OrdersIn
import Derived.TacticsIn
import Derived.DefersIn
set_option linter.unusedVariables false
set_option linter.unusedSimpArgs false
namespace Go.Sx
open Go.RowKit

/-- no fence, but the round of a range over a function -/
def FR (r : Option Nat) : Fence := { Fence.wide with round := r }
theorem FR_none : FR none = Fence.wide := rfl
theorem FR_fenced (P : Program) (r : Option Nat) : Machine.fenced P (FR r) = Machine.fenced P Fence.wide := rfl
theorem FR_in (r : Option Nat) (l : Nat) : (FR r).inRound l = FR (some l) := rfl
theorem FR_depth (r : Option Nat) : (FR r).depth = none := rfl
theorem FR_room (r : Option Nat) (n : Nat) : (FR r).room n := fun _ h => by cases h
theorem FR_fn (r : Option Nat) (f : FuncId) : (FR r).fn f := trivial

theorem callsFR {r : Option Nat} {n : Nat} {P : Program} {f : FuncId} {args : Array Value} {w : World} {R : Ending → World → Prop} (h : Calls P f args w R) : CallsIn (FR r) n P f args w R :=
  ⟨trivial, fun cs _ => let ⟨e, w', fr, hr, s, x⟩ := h cs; ⟨e, w', fr, hr, (FR_fenced P r ▸ comesIn_wide.2 s), x⟩⟩
theorem callsFR' {r : Option Nat} {n : Nat} {P : Program} {f : FuncId} {args : Array Value} {w : World} {R : Ending → World → Prop} (h : CallsIn (FR r) n P f args w R) : Calls P f args w R :=
  fun cs => let ⟨e, w', fr, hr, s, x⟩ := h.2 cs (FR_room r _); ⟨e, w', fr, hr, ComesIn.comes s, x⟩

/-- the code's weakest precondition, in a frame of the round r -/
def _root_.Go.Code.wpr (r : Option Nat) (P : Program) (c : Code) (Q : Exit → Act → World → Prop) (a : Act) (w : World) : Prop := c.wpIn (FR r) 0 P Q a w

section
variable {r : Option Nat} {P : Program} {Q : Exit → Act → World → Prop} {a : Act} {w : World}

theorem wpr_wp {c : Code} (h : c.wpr none P Q a w) : c.wp P Q a w := wpIn_wide.1 h
theorem wp_wpr {c : Code} (h : c.wp P Q a w) : c.wpr none P Q a w := wpIn_wide.2 h
theorem wpr_mono {c : Code} {Q' : Exit → Act → World → Prop} (hq : ∀ e a w, Q e a w → Q' e a w) (h : c.wpr r P Q a w) : c.wpr r P Q' a w := Code.wpIn_mono hq h
theorem wpr_seq {x y : Code} (h : x.wpr r P (Exit.then (y.wpr r P Q) Q) a w) : (Code.seq x y).wpr r P Q a w := wpIn_seq h
theorem wpr_block {id : Nat} {x : Code} (h : x.wpr r P (Exit.inBlock id Q) a w) : (Code.block id x).wpr r P Q a w := wpIn_block h
theorem wpr_skip (h : Q .normal a w) : Code.skip.wpr r P Q a w := wpIn_skip h
theorem wpr_exit {id : Nat} (h : Q (.exit id) a w) : (Code.exit id).wpr r P Q a w := wpIn_exit h
theorem wpr_ret (h : Q .ret a w) : Code.ret.wpr r P Q a w := wpIn_ret h
theorem wpr_cond_split {x : Operand} {th el : Code} {b : Bool} (hc : a.eval x = .bool b) (ht : b = true → th.wpr r P Q a w) (hf : b = false → el.wpr r P Q a w) : (Code.cond x th el).wpr r P Q a w := wpIn_cond_split hc ht hf

/-! ## Operations -/
/-- a call of yield: a round -/
def _root_.Go.Oper.rnd (P : Program) (o : Oper) (a : Act) (w : World) (K : Act → World → Prop) : Prop :=
  ∃ l f tmps assign body w', (execOp a.eval o).run P w = .ok (.round l f tmps assign body) w' ∧ RoundIn (FR none) 0 P l f tmps assign body w' fun e w'' => ∃ v, e = .returned v ∧ K (a.put o.dst v) w''

theorem _root_.Go.Oper.rnd_mono {o : Oper} {K K' : Act → World → Prop} (hk : ∀ a w, K a w → K' a w) (h : o.rnd P a w K) : o.rnd P a w K' := by
  obtain ⟨l, f, tmps, assign, body, w', h1, h2⟩ := h
  exact ⟨l, f, tmps, assign, body, w', h1, h2.mono fun e w'' ⟨v, he, hv⟩ => ⟨v, he, hk _ _ hv⟩⟩

def noDefer (o : Oper) : Bool := match o.op with | .defer _ => false | _ => true

theorem semAt_no {o : Oper} (h : noDefer o = true) (r : Option Nat) (ρ : Operand → Value) : o.semAt r ρ = execOp ρ o :=
  Oper.semAt_eq r ρ o fun c hc => by unfold noDefer at h; rw [hc] at h; cases h

theorem rowsFR {n : Nat} {row : String} {args : Array Value} {R : Value → World → Prop} (h : Rows P row args w R) : RowsIn (FR r) n P row args w R := fun c cs _ =>
  let ⟨v, w', hr, s⟩ := h c cs; ⟨v, w', hr, (FR_fenced P r ▸ stepsIn_wide.2 s)⟩

theorem wp_in {o : Oper} {K : Act → World → Prop} (hd : noDefer o = true) (h : o.wp P a w K Q ∨ o.rnd P a w K) : o.wpIn (FR r) 0 P a w K Q := by
  refine ⟨fun _ _ => trivial, ?_⟩
  rw [semAt_no hd]
  rcases h with h | h
  · unfold Oper.wp at h
    cases hr : (execOp a.eval o).run P w with
    | ok x w' =>
      rw [hr] at h
      cases x with
      | value v => exact h
      | skip => exact h
      | defer d => exact h
      | enter f args =>
        refine ⟨(fun hc => by cases hc), (callsFR h).mono ?_⟩
        intro e w'' he
        cases e <;> exact he
      | row rw args => exact ⟨(fun hc => by cases hc), rowsFR h⟩
      | _ => exact h.elim
    | halt x w' =>
      rw [hr] at h
      cases x <;> first | exact h | exact h.elim
  · obtain ⟨l, f, tmps, assign, body, w', h1, h2⟩ := h
    rw [h1]
    refine ⟨(fun hc => by cases hc), ?_⟩
    exact ⟨trivial, fun c cs _ => by
      obtain ⟨e, w'', ⟨v, he, hv⟩, s⟩ := h2.2 c cs (FR_room none _)
      subst he
      exact ⟨.returned v, w'', hv, s⟩⟩
end

/-- a region's list, walked -/
def wpList (P : Program) (ops : Array Oper) (Q : Exit → Act → World → Prop) : List Oper → Act → World → Prop
  | [], a, w => Q .normal a w
  | o :: rest, a, w =>
    if Region.wanted o (yielded ops a.tmps) then o.wp P a w (wpList P ops Q rest) Q ∨ o.rnd P a w (wpList P ops Q rest) else wpList P ops Q rest (a.put o.dst undef) w

theorem wpList_in {r : Option Nat} {P : Program} {ops : Array Oper} {Q : Exit → Act → World → Prop} : ∀ (l : List Oper) (a : Act) (w : World), l.all noDefer = true → wpList P ops Q l a w → wpListIn (FR r) 0 P ops Q l a w
  | [], _, _, _, h => h
  | o :: rest, a, w, hd, h => by
    simp only [List.all_cons, Bool.and_eq_true] at hd
    unfold wpList at h
    unfold wpListIn
    by_cases hw : Region.wanted o (yielded ops a.tmps) = true
    · rw [if_pos hw] at h ⊢
      refine wp_in hd.1 ?_
      rcases h with h | h
      · exact .inl (Oper.wp_mono (fun a w h => wpList_in rest a w hd.2 h) h)
      · exact .inr (Oper.rnd_mono (fun a w h => wpList_in rest a w hd.2 h) h)
    · rw [if_neg hw] at h ⊢
      exact ⟨fun _ _ => trivial, wpList_in rest _ w hd.2 h⟩

theorem wpr_region_lit {r : Option Nat} {P : Program} {Q : Exit → Act → World → Prop} {a : Act} {w : World} {id : Nat} {l : List Oper} (hd : l.all noDefer = true) (h : wpList P l.toArray Q l a w) : (Code.region id l.toArray false).wpr r P Q a w :=
  wpIn_region_lit (wpList_in l a w hd h)

/-! ## Regions whose order is drawn -/
def wpOp (P : Program) (ops : Array Oper) (Q : Exit → Act → World → Prop) (i : Nat) (K : Act → World → Prop) (a : Act) (w : World) : Prop :=
  match ops[i]? with
  | none => K a w
  | some o => if Region.wanted o (yielded ops a.tmps) then o.wp P a w K Q ∨ o.rnd P a w K else K (a.put o.dst undef) w

def wpOps (P : Program) (ops : Array Oper) (Q : Exit → Act → World → Prop) : List Nat → Act → World → Prop
  | [], a, w => Q .normal a w
  | i :: rest, a, w => wpOp P ops Q i (wpOps P ops Q rest) a w

theorem wpOps_cons {P : Program} {ops : Array Oper} {Q : Exit → Act → World → Prop} (i : Nat) (rest : List Nat) (a : Act) (w : World) : wpOps P ops Q (i :: rest) a w = wpOp P ops Q i (wpOps P ops Q rest) a w := rfl

def wpAny (P : Program) (md : Region.Mode) (ops : Array Oper) (Q : Exit → Act → World → Prop) : Nat → Array Bool → Act → World → Prop
  | 0, listed, a, w => Region.ready md ops listed = [] ∧ Q .normal a w
  | fuel + 1, listed, a, w =>
    (Region.ready md ops listed = [] → Q .normal a w) ∧
    ∀ i ∈ Region.ready md ops listed, wpOp P ops Q i (wpAny P md ops Q fuel (listed.setIfInBounds i true)) a w

section
variable {r : Option Nat} {P : Program} {ops : Array Oper} {Q : Exit → Act → World → Prop}
theorem wpOp_in {i : Nat} {K K' : Act → World → Prop} {a : Act} {w : World} (hd : ∀ o, ops[i]? = some o → noDefer o = true) (hk : ∀ a w, K a w → K' a w) (h : wpOp P ops Q i K a w) : wpOpIn (FR r) 0 P ops Q i K' a w := by
  unfold wpOp at h
  unfold wpOpIn
  cases ho : ops[i]? with
  | none => rw [ho] at h; exact hk _ _ h
  | some o =>
    rw [ho] at h
    dsimp only at h ⊢
    by_cases hw : Region.wanted o (yielded ops a.tmps) = true
    · rw [if_pos hw] at h ⊢
      refine wp_in (hd o ho) ?_
      rcases h with h | h
      · exact .inl (Oper.wp_mono hk h)
      · exact .inr (Oper.rnd_mono hk h)
    · rw [if_neg hw] at h ⊢
      exact ⟨fun _ _ => trivial, hk _ _ h⟩

theorem wpOps_in (hd : ∀ (i : Nat) (o : Oper), ops[i]? = some o → noDefer o = true) : ∀ (s : List Nat) (a : Act) (w : World), wpOps P ops Q s a w → wpOpsIn (FR r) 0 P ops Q s a w
  | [], _, _, h => h
  | i :: rest, a, w, h => by
    rw [wpOpsIn_cons]
    exact wpOp_in (hd i) (fun a w h => wpOps_in hd rest a w h) h

theorem wpAny_in {md : Region.Mode} (hd : ∀ (i : Nat) (o : Oper), ops[i]? = some o → noDefer o = true) : ∀ (fuel : Nat) (listed : Array Bool) (a : Act) (w : World), wpAny P md ops Q fuel listed a w → wpAnyIn (FR r) 0 P md ops Q fuel listed a w
  | 0, _, _, _, h => h
  | fuel + 1, listed, a, w, h => ⟨h.1, fun i hi => wpOp_in (hd i) (fun a w h => wpAny_in hd fuel _ a w h) (h.2 i hi)⟩

theorem noDefer_all {l : List Oper} (h : l.all noDefer = true) (i : Nat) (o : Oper) (ho : l.toArray[i]? = some o) : noDefer o = true := by
  have hm : o ∈ l := by
    rw [List.getElem?_toArray] at ho
    exact List.mem_of_getElem? ho
  exact List.all_eq_true.1 h o hm

theorem wpr_region_any {id : Nat} {l : List Oper} {a : Act} {w : World} (hd : l.all noDefer = true) (hm : P.follows .mixedOrders = true)
    (h : wpAny P .any l.toArray Q l.toArray.size (Array.replicate l.toArray.size false) a { w with drawn := w.drawn + 1 }) : (Code.region id l.toArray true).wpr r P Q a w :=
  wpIn_region_any hm (wpAny_in (noDefer_all hd) _ _ _ _ h)

theorem wpr_region_draw {id : Nat} {l : List Oper} {a : Act} {w : World} (hd : l.all noDefer = true)
    (h : ∀ t, wpOps P l.toArray Q (Region.schedule (P.follows .mixedOrders) l.toArray t) a { w with drawn := w.drawn + 1 }) : (Code.region id l.toArray true).wpr r P Q a w :=
  wpIn_region_draw fun t => wpOps_in (noDefer_all hd) _ _ _ (h t)
end

/-! ## The end of a function -/
def bodyPost (P : Program) (fn : Func) (R : Ending → World → Prop) : Exit → Act → World → Prop := bodyPostM (FR none) 0 P fn R

theorem calls_of_wpr {P : Program} {f : FuncId} {fn : Func} {c : Code} {args : Array Value} {w : World} {R : Ending → World → Prop} (hf : P.funcs[f]? = some fn) (hb : fn.body = some c)
    (h : c.wpr none P (bodyPost P fn R) { tmps := args ++ Array.replicate (fn.ntmps - args.size) undef, defers := [] } w) : Calls P f args w R :=
  callsFR' (r := none) (callsIn_of_wp_marks hf hb trivial h)

theorem body_end {P : Program} {fn : Func} {R : Ending → World → Prop} {a : Act} {w : World} {v : Value} {e : Exit} (he : e = .ret ∨ e = .normal) (hd : a.defers = []) (hr : (results fn a.tmps).run P w = .ok v w) (hR : R (.returned v) w) : bodyPost P fn R e a w := by
  rcases he with rfl | rfl
  · show LeavesInM (FR none) 0 P fn a.tmps R a.defers .returning w
    rw [hd]; exact ⟨v, hr, hR⟩
  · show LeavesInM (FR none) 0 P fn a.tmps R a.defers .returning w
    rw [hd]; exact ⟨v, hr, hR⟩

/-- with the mark of a range over a function among the deferred calls -/
theorem body_endM {P : Program} {fn : Func} {R : Ending → World → Prop} {a : Act} {w : World} {e : Exit} {D : Nat} {ds : List Deferred} (he : e = .ret ∨ e = .normal) (hd : a.defers = { target := .collected D, args := #[] } :: ds) (hD : w.heap[D]? = some (.deferred (some [])))
    (h : LeavesInM (FR none) 0 P fn a.tmps R ds .returning (w.putObj D (.deferred none))) : bodyPost P fn R e a w := by
  have key : LeavesInM (FR none) 0 P fn a.tmps R a.defers .returning w := by
    rw [hd]
    exact ⟨(fun hc => by cases hc), .inl ⟨D, _, rfl, run_takeDeferred hD, h⟩⟩
  rcases he with rfl | rfl <;> exact key
end Go.Sx
