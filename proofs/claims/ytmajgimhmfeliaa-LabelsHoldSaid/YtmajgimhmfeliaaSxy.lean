/- The layer Sx, part 25: ranges over functions, walked in place: the loop's record, the call of the iterator, the rounds. Conditions: none of its own. -/
import Derived.Test.YtmajgimhmfeliaaSxw
set_option linter.unusedVariables false
set_option linter.unusedSimpArgs false
namespace Go.Sx
open Go.RowKit

/-- the block for the calls that rounds defer: there are none -/
def Dfr (D : Nat) : Fact where
  p w F := F D ∧ w.heap[D]? = some (.deferred (some []))
  mono := fun ⟨h1, h2⟩ h => by
    obtain ⟨h3, h4⟩ := h D h1 (Array.getElem?_eq_some_iff.1 h2).1
    exact ⟨h3, by rw [h4]; exact h2⟩

/-- what a loop's record says: the frame at its beginning, its code, its state -/
structure Rec where
  n : Nat
  σ : Fr
  ps : Array Tmp
  assign : Code
  body : Code
  D : Nat

/-- the record of a range over a function -/
def Lp (l : Nat) (R : Rec) (st : LoopState) (pend : Option Code) : Fact where
  p w F := F l ∧ ∃ (fn : FuncId) (tmps : Array Value), tmps.size = R.n ∧ (∀ t v, lk R.σ t = some v → tmps[t]? = some v) ∧
    w.heap[l]? = some (.loop { state := st, pending := pend, fn := fn, tmps := tmps, params := R.ps, assign := R.assign, body := R.body, defers := R.D })
  mono := fun ⟨h1, fn, tmps, h2, h3, h4⟩ h => by
    obtain ⟨h5, h6⟩ := h l h1 (Array.getElem?_eq_some_iff.1 h4).1
    exact ⟨h5, fn, tmps, h2, h3, by rw [h6]; exact h4⟩

def mark (D : Nat) : Deferred := { target := .collected D, args := #[] }
def yieldV (l : Nat) : Value := .func (.yield l) #[] #[]

section
variable {P : Program} {rd : Option Nat} {c : Ctx} {n m : Sz} {σ σ' : Fr} {M L : List Fact} {Q : Exit → Act → World → Prop} {K G : Act → World → Prop}

/-- an own block is turned -/
theorem St.putLp {w : World} {l i : Nat} {R : Rec} {st st' : LoopState} {pend pend' : Option Code} (t : St c M L w) (hi : M[i]? = some (Lp l R st pend)) {r : Loop} (hr : w.heap[l]? = some (.loop r)) :
    St c (M.set i (Lp l R st' pend')) L (w.putObj l (.loop { r with state := st', pending := pend' })) := by
  refine t.upd hi rfl rfl rfl (by simp) fun F hF _ => ⟨fun k _ hk => ?_, F, ?_, fun _ h => .inl h⟩
  · exact World.putObj_heap_other (fun e => hk (by subst e; exact hF.1))
  · obtain ⟨h1, fn, tmps, h2, h3, h4⟩ := hF
    rw [h4] at hr
    cases hr
    exact ⟨h1, fn, tmps, h2, h3, World.putObj_heap_same (Array.getElem?_eq_some_iff.1 h4).1⟩

/-- what is asked where the iterator has returned: the frame of the loop goes on -/
def RetF (P : Program) (n : Sz) (σ : Fr) (l D : Nat) (Q : Exit → Act → World → Prop) (e : Ending) (w : World) : Prop :=
  ∀ a, Sub ⟨n.sz, mark D :: n.ds⟩ σ a → rangePost (FR none) 0 P l Q a e w

/-- the statement: the iterator's body is walked in place -/
theorem J.rangeFunc {g : Operand} {ps : Array Tmp} {assign body : Code} {f : FuncId} {fn : Func} {code : Code} {cs : List Value} {k : Nat} (hb : HasBody P f) (hx : ev σ g = some (.func (.func f) #[] cs.toArray)) (hf : P.funcs[f]? = some fn) (hbd : fn.body = some code) (hn : fn.ntmps = k) (hm : Nat.ble (cs.length + 1) k = true)
    (h : ∀ l D, J c ⟨k, []⟩ (frame0 0 (yieldV l :: cs)) (Lp l ⟨n.sz, σ, ps, assign, body, D⟩ .ready none :: Dfr D :: M) L (code.wpr none P (bodyPost P fn (RetF P n σ l D Q)))) :
    J c n σ M L ((Code.rangeFunc g ps assign body).wpr none P Q) := fun a w s t => by
  refine wpIn_rangeFunc fun fn' _ => ?_
  have hev : a.eval g = .func (.func f) #[] cs.toArray := s.eval hx
  let W : World := (w.alloc (.deferred (some []))).alloc (.loop { state := .ready, pending := none, fn := fn', tmps := a.tmps, params := ps, assign := assign, body := body, defers := w.heap.size })
  refine ⟨_, _, _, { target := .fn (.func f) cs.toArray, args := #[yieldV (w.heap.size + 1)] }, W, f, (yieldV (w.heap.size + 1) :: cs).toArray, W, run_enterLoop_outer fn' a.tmps ps assign body, ?_, fun _ _ => trivial, ?_, (fun hc => by cases hc), ?_⟩
  · have hc : ∀ v, a.eval (.const v) = v := fun _ => rfl
    simp [resolve, hev, hc, Deferred.ofValue, yieldV, W]
  · simp [invoke, hb _ _, yieldV]
  · have t1 : St c (Dfr w.heap.size :: M) L (w.alloc (.deferred (some []))) := t.push _ ⟨rfl, heap_alloc_new w _⟩
    have t2 : St c (Lp (w.heap.size + 1) ⟨n.sz, σ, ps, assign, body, w.heap.size⟩ .ready none :: Dfr w.heap.size :: M) L ((w.alloc (.deferred (some []))).alloc (.loop { state := .ready, pending := none, fn := fn', tmps := a.tmps, params := ps, assign := assign, body := body, defers := w.heap.size })) := by
      have := t1.push (.loop { state := .ready, pending := none, fn := fn', tmps := a.tmps, params := ps, assign := assign, body := body, defers := w.heap.size }) (m := Lp (w.heap.size + 1) ⟨n.sz, σ, ps, assign, body, w.heap.size⟩ .ready none)
        ⟨by simp, fn', a.tmps, s.size, s.slot, by rw [← World.size_alloc w (.deferred (some []))]; exact heap_alloc_new _ _⟩
      exact this
    refine callsFR ((calls_of_wpr hf hbd (h (w.heap.size + 1) w.heap.size _ _ (frame0_sub hn (by simpa using hm)) t2)).mono ?_)
    intro e w' he
    exact he _ ⟨by simp [mark, s.defers], s.size, s.slot⟩

/-- the iterator has returned, all rounds are done -/
theorem J.retF {fn : Func} {ex : Exit} {v : Value} {l D i : Nat} {R : Rec} (hex : ex = .ret ∨ ex = .normal) (hi : M[i]? = some (Lp l R .ready none)) (hr : Res P c m σ' M L fn v) (h : J c ⟨n.sz, mark D :: n.ds⟩ σ (M.set i (Lp l R .exhausted none)) L (Q .normal)) (hds : m.ds = [] := by rfl) :
    J c m σ' M L (bodyPost P fn (RetF P n σ l D Q) ex) := fun a w s t => by
  refine body_end hex (s.defers.trans hds) (hr a w s t) fun a' s' => ?_
  obtain ⟨F, h1, fn', tmps, h2, h3, h4⟩ := t.res hi
  exact ⟨none, _, run_endLoop h4 (by simp), h a' _ s' (t.putLp hi h4)⟩

/-- the iterator has returned after a round that returns -/
theorem J.retFR {fn : Func} {ex : Exit} {v : Value} {l D i : Nat} {R : Rec} (hex : ex = .ret ∨ ex = .normal) (hi : M[i]? = some (Lp l R .done (some .ret))) (hr : Res P c m σ' M L fn v) (h : J c ⟨n.sz, mark D :: n.ds⟩ σ (M.set i (Lp l R .exhausted (some .ret))) L (Q .ret)) (hds : m.ds = [] := by rfl) :
    J c m σ' M L (bodyPost P fn (RetF P n σ l D Q) ex) := fun a w s t => by
  refine body_end hex (s.defers.trans hds) (hr a w s t) fun a' s' => ?_
  obtain ⟨F, h1, fn', tmps, h2, h3, h4⟩ := t.res hi
  exact ⟨some .ret, _, run_endLoop h4 (by simp), wpIn_ret (h a' _ s' (t.putLp hi h4))⟩

/-- the iterator has returned after a round that leaves a block -/
theorem J.retFX {fn : Func} {ex : Exit} {v : Value} {l D i id : Nat} {R : Rec} (hex : ex = .ret ∨ ex = .normal) (hi : M[i]? = some (Lp l R .done (some (.exit id)))) (hr : Res P c m σ' M L fn v) (h : J c ⟨n.sz, mark D :: n.ds⟩ σ (M.set i (Lp l R .exhausted (some (.exit id)))) L (Q (.exit id))) (hds : m.ds = [] := by rfl) :
    J c m σ' M L (bodyPost P fn (RetF P n σ l D Q) ex) := fun a w s t => by
  refine body_end hex (s.defers.trans hds) (hr a w s t) fun a' s' => ?_
  obtain ⟨F, h1, fn', tmps, h2, h3, h4⟩ := t.res hi
  exact ⟨some (.exit id), _, run_endLoop h4 (by simp), wpIn_exit (h a' _ s' (t.putLp hi h4))⟩

/-- the record becomes busy -/
def Begin (P : Program) (l : Nat) (G : Act → World → Prop) (a : Act) (w : World) : Prop := ∃ w', (Instr.beginRound l).run P w = .ok () w' ∧ G a w'
theorem J.begin {l i : Nat} {R : Rec} {pend : Option Code} (hi : M[i]? = some (Lp l R .ready pend)) (h : J c n σ (M.set i (Lp l R .busy pend)) L G) : J c n σ M L (Begin P l G) := fun a w s t => by
  obtain ⟨F, h1, fn', tmps, h2, h3, h4⟩ := t.res hi
  exact ⟨_, run_beginRound h4 rfl, h a _ s (t.putLp hi h4)⟩

/-- what is asked where a round ends: the iterator's frame goes on with what yield hands back -/
def RetY (n : Sz) (σ : Fr) (d : Nat) (K : Act → World → Prop) (e : Ending) (w : World) : Prop := ∃ v, e = .returned v ∧ ∀ a, Sub n ((d, v) :: σ) a → K a w

theorem J.roundN {l i d : Nat} {R : Rec} {pend : Option Code} (hi : M[i]? = some (Lp l R .busy pend)) (h : J c m ((d, .bool true) :: σ') (M.set i (Lp l R .ready none)) L K) : J c n σ M L (roundPost P l (RetY m σ' d K) .normal) := fun a w s t => by
  obtain ⟨F, h1, fn', tmps, h2, h3, h4⟩ := t.res hi
  exact ⟨_, _, run_endRound none h4, _, rfl, fun a' s' => h a' _ s' (t.putLp hi h4)⟩
theorem J.roundR {l i d : Nat} {R : Rec} {pend : Option Code} (hi : M[i]? = some (Lp l R .busy pend)) (h : J c m ((d, .bool false) :: σ') (M.set i (Lp l R .done (some .ret))) L K) : J c n σ M L (roundPost P l (RetY m σ' d K) .ret) := fun a w s t => by
  obtain ⟨F, h1, fn', tmps, h2, h3, h4⟩ := t.res hi
  exact ⟨_, _, run_endRound (some .ret) h4, _, rfl, fun a' s' => h a' _ s' (t.putLp hi h4)⟩
theorem J.roundX {l i d id : Nat} {R : Rec} {pend : Option Code} (hi : M[i]? = some (Lp l R .busy pend)) (h : J c m ((d, .bool false) :: σ') (M.set i (Lp l R .done (some (.exit id)))) L K) : J c n σ M L (roundPost P l (RetY m σ' d K) (.exit id)) := fun a w s t => by
  obtain ⟨F, h1, fn', tmps, h2, h3, h4⟩ := t.res hi
  exact ⟨_, _, run_endRound (some (.exit id)) h4, _, rfl, fun a' s' => h a' _ s' (t.putLp hi h4)⟩

/-- a frame's slots are overwritten by what yield is handed -/
def putAll : List Tmp → List Value → Fr → Fr
  | t :: ts, v :: vs, σ => putAll ts vs ((t, v) :: σ)
  | _, _, σ => σ

theorem fold_slots : ∀ (ps : List Tmp) (vs : List Value) (tmps : Array Value) (σ : Fr) (k : Nat), tmps.size = k → ps.all (fun t => Nat.blt t k) = true → (∀ t v, lk σ t = some v → tmps[t]? = some v) →
    ((ps.zip vs).foldl (fun tmps (x : Tmp × Value) => tmps.setIfInBounds x.1 x.2) tmps).size = k ∧ ∀ t v, lk (putAll ps vs σ) t = some v → ((ps.zip vs).foldl (fun tmps (x : Tmp × Value) => tmps.setIfInBounds x.1 x.2) tmps)[t]? = some v
  | [], _, tmps, σ, k, h1, _, h3 => by simpa [putAll] using ⟨h1, h3⟩
  | _ :: _, [], tmps, σ, k, h1, _, h3 => by simpa [putAll] using ⟨h1, h3⟩
  | p :: ps, x :: vs, tmps, σ, k, h1, h2, h3 => by
    simp only [List.all_cons, Bool.and_eq_true] at h2
    have hp : p < k := by simpa [Nat.blt_eq] using h2.1
    simp only [List.zip_cons_cons, List.foldl_cons, putAll]
    refine fold_slots ps vs _ _ k (by simp [h1]) h2.2 fun t v hv => ?_
    simp only [lk] at hv
    by_cases e : t = p
    · subst e
      simp at hv
      subst hv
      simp [h1, hp]
    · rw [beq_ne e] at hv
      simp only [cond_false] at hv
      rw [Array.getElem?_setIfInBounds_ne (Ne.symm e)]
      exact h3 t v hv

/-- a call of yield: the round is walked in place -/
theorem J.yield {ops : Array Oper} {rest : List Oper} {t : Tmp} {xs : List Operand} {us : List Value} {ats : Array TypeId} {d : Nat} {ty : TypeId} {pos : String} {aft : Array Edge} {l i : Nat} {R : Rec} {ps : List Tmp} (ht : lk σ t = some (yieldV l)) (hx : xs.map (ev σ) = us.map some) (hi : M[i]? = some (Lp l R .ready none)) (hps : R.ps = ps.toArray) (hlen : us.length = ps.length) (hall : ps.all (fun t => Nat.blt t R.n) = true) (hd : Nat.blt d n.sz = true)
    (h : J c ⟨R.n, []⟩ (putAll ps us R.σ) M L (R.assign.wpr (some l) P (Exit.then (Begin P l (R.body.wpr (some l) P (roundPost P l (RetY n σ d (wpList P ops Q rest))))) (fun _ _ _ => False)))) :
    J c n σ M L (wpList P ops Q (⟨some d, .call ⟨.value (.tmp t), xs.toArray, ats⟩, ty, pos, aft, none⟩ :: rest)) := fun a w s tt => by
  obtain ⟨F, h1, fn', tmps, h2, h3, h4⟩ := tt.res hi
  have e := evs s hx
  have e2 : a.eval (.tmp t) = yieldV l := s.eval (x := .tmp t) ht
  have hy := run_yield (P := P) (args := us.toArray) h4 (by simp [hps, hlen])
  have hrun : (execOp a.eval ⟨some d, .call ⟨.value (.tmp t), xs.toArray, ats⟩, ty, pos, aft, none⟩).run P w = (Instr.yield l us.toArray).run P w := by
    simp [execOp, resolve, e2, yieldV, Deferred.ofValue, invoke, e]
  unfold wpList
  rw [if_pos (show Region.wanted _ _ = true from rfl)]
  refine .inr ⟨_, _, _, _, _, _, hrun.trans hy, ?_⟩
  refine RoundIn.mono (R := RetY n σ d (wpList P ops Q rest)) (roundIn_of_wpIn (F := FR none) trivial ?_) ?_
  · obtain ⟨f1, f2⟩ := fold_slots ps us tmps R.σ R.n h2 hall h3
    have := h { tmps := (ps.zip us).foldl (fun tmps (x : Tmp × Value) => tmps.setIfInBounds x.1 x.2) tmps, defers := [] } w ⟨rfl, f1, f2⟩ tt
    simp only [hps, List.zip_toArray, List.foldl_toArray]
    exact this
  · rintro e w'' ⟨v, rfl, hv⟩
    exact ⟨v, rfl, hv _ (s.put d v hd)⟩

/-- a block that is of no more use -/
def Used (D : Nat) : Fact where
  p w F := F D ∧ D < w.heap.size ∧ ∃ o, w.heap[D]? = some o
  mono := fun ⟨h1, h2, o, h3⟩ h => by
    obtain ⟨h4, h5⟩ := h D h1 h2
    have h6 := h5.trans h3
    exact ⟨h4, (Array.getElem?_eq_some_iff.1 h6).1, o, h6⟩

/-- the mark is taken off at the function's end -/
theorem J.unmark {fn : Func} {R : Ending → World → Prop} {ex : Exit} {D i k : Nat} {ds : List Deferred} (hex : ex = .ret ∨ ex = .normal) (hi : M[i]? = some (Dfr D)) (h : J c ⟨k, ds⟩ σ (M.set i (Used D)) L (bodyPost P fn R ex)) : J c ⟨k, mark D :: ds⟩ σ M L (bodyPost P fn R ex) := fun a w s t => by
  obtain ⟨F, h1, h2⟩ := t.res hi
  refine body_endM hex s.defers h2 ?_
  have t' : St c (M.set i (Used D)) L (w.putObj D (.deferred none)) := by
    refine t.upd hi rfl rfl rfl (by simp) fun F hF _ => ⟨fun k _ hk => ?_, F, ?_, fun _ h => .inl h⟩
    · exact World.putObj_heap_other (fun e => hk (by subst e; exact hF.1))
    · have hlt := (Array.getElem?_eq_some_iff.1 hF.2).1
      exact ⟨hF.1, by simpa using hlt, _, World.putObj_heap_same hlt⟩
  have := h { tmps := a.tmps, defers := ds } _ ⟨rfl, s.size, s.slot⟩ t'
  rcases hex with rfl | rfl <;> exact this

/-- the statement, its record by name -/
theorem J.rangeFuncR {g : Operand} {ps : Array Tmp} {assign body : Code} {f : FuncId} {fn : Func} {code : Code} {cs : List Value} {k : Nat} (hb : HasBody P f) (hx : ev σ g = some (.func (.func f) #[] cs.toArray)) (hf : P.funcs[f]? = some fn) (hbd : fn.body = some code) (hn : fn.ntmps = k) (hm : Nat.ble (cs.length + 1) k = true)
    (h : ∀ (l D : Nat) (R : Rec), R.n = n.sz ∧ R.σ = σ ∧ R.ps = ps ∧ R.assign = assign ∧ R.body = body → J c ⟨k, []⟩ (frame0 0 (yieldV l :: cs)) (Lp l R .ready none :: Dfr D :: M) L (code.wpr none P (bodyPost P fn (RetF P n σ l D Q)))) :
    J c n σ M L ((Code.rangeFunc g ps assign body).wpr none P Q) := J.rangeFunc hb hx hf hbd hn hm fun l D => h l D _ ⟨rfl, rfl, rfl, rfl, rfl⟩

theorem J.yieldR {ops : Array Oper} {rest : List Oper} {t : Tmp} {xs : List Operand} {us : List Value} {ats : Array TypeId} {d : Nat} {ty : TypeId} {pos : String} {aft : Array Edge} {l i k : Nat} {R : Rec} {ps : List Tmp} {σR : Fr} {assign body : Code} (hR : R.n = k ∧ R.σ = σR ∧ R.ps = ps.toArray ∧ R.assign = assign ∧ R.body = body) (ht : lk σ t = some (yieldV l)) (hx : xs.map (ev σ) = us.map some) (hi : M[i]? = some (Lp l R .ready none)) (hlen : us.length = ps.length) (hall : ps.all (fun t => Nat.blt t k) = true) (hd : Nat.blt d n.sz = true)
    (h : J c ⟨k, []⟩ (putAll ps us σR) M L (assign.wpr (some l) P (Exit.then (Begin P l (body.wpr (some l) P (roundPost P l (RetY n σ d (wpList P ops Q rest))))) (fun _ _ _ => False)))) :
    J c n σ M L (wpList P ops Q (⟨some d, .call ⟨.value (.tmp t), xs.toArray, ats⟩, ty, pos, aft, none⟩ :: rest)) := by
  obtain ⟨rfl, rfl, h3, rfl, rfl⟩ := hR
  exact J.yield ht hx hi h3 hlen hall hd h
end
end Go.Sx
