/- The layer Sx, part 21: nil slices; calls to which memory is handed over; calls that are walked in place. Conditions: a table of types that is right for the program. -/
import Derived.Test.YtmajgimhmfeliaaSxt
set_option linter.unusedVariables false
set_option linter.unusedSimpArgs false
namespace Go.Sx
open Go.RowKit
section
variable {P : Program} {rd : Option Nat} {c : Ctx} {n : Sz} {σ σ' : Fr} {M L M' L' : List Fact} {Q : Exit → Act → World → Prop} {ops : Array Oper} {rest : List Oper} {K : Act → World → Prop} {G : Act → World → Prop}
variable {d : Option Tmp} {D : Nat} {ty : TypeId} {pos : String} {aft : Array Edge} {g : Option (Nat × Bool)}
variable {α β : Type} {e : Enc α} {r : Rep α}

/-! ## Slices that are nil -/
def isNilS : Value → Bool
  | .slice none _ _ => true
  | _ => false

theorem J.nilCase {v : Value} {xs : List α} (hf : Lent M L (Sl r v xs)) (h1 : isNilS v = true → xs = [] → J c n σ M L G) (h2 : isNilS v = false → J c n σ M L G) : J c n σ M L G := fun a w s t => by
  cases hb : isNilS v with
  | false => exact h2 hb a w s t
  | true =>
    refine h1 hb ?_ a w s t
    obtain ⟨S, a', cap, hv, _, hx⟩ := hf.st t
    subst hv
    rcases hx with hx | ⟨b, off, ha, _⟩
    · exact hx
    · subst ha; cases hb

theorem run_eqNil {T E : TypeId} {dT : Ty} {w : World} {a : Option Addr} {l k : Nat} (hT : TyOk P T dT) (hd : dT.desc = .slice E) : (binOp .eql T (.slice a l k) (.slice none 0 0)).run P w = .ok (.bool (isNilS (.slice a l k))) w := by
  have hu := hT.run_und w
  have key : ∀ m : Nat, (Op.equalIn (m + 1) T (.slice a l k) (.slice none 0 0)).run P w = .ok (isNilS (.slice a l k)) w := by
    intro m
    unfold Op.equalIn
    rw [hd] at hu
    cases a <;> simp [hu, isNilS]
  have h : (Op.equal T (.slice a l k) (.slice none 0 0)).run P w = .ok (isNilS (.slice a l k)) w := key 9999
  simp [binOp, h]

theorem Y.eqNil [Tab P] {T E : TypeId} {s1 s2 : Nat} {z : Value} {x : Operand} {v : Value} {xs : List α} {b : Bool} {t' : TypeId} (hx : ev σ x = some v) (hf : Lent M L (Sl r v xs)) (hb : isNilS v = b) (hT : Tab.tab P T = some ⟨.slice E, s1, s2, z⟩) :
    Y P c n σ M L ⟨d, .binOp .eql T x (.const (.slice none 0 0)) t', ty, pos, aft, g⟩ (.bool b) := fun a w s t => by
  obtain ⟨S, a', cap, hv, _, _⟩ := hf.st t
  subst hv
  have hr := run_eqNil (w := w) (a := a') (l := xs.length) (k := cap) (Tab.ok hT) rfl
  have hc : a.eval (.const (.slice none 0 0)) = .slice none 0 0 := rfl
  rw [hb] at hr
  simp [execOp, s.eval hx, hc, eqGuard, hr]

/-! ## Calls to which memory is handed over -/
/-- Called where the resources Min and the facts L stand, f returns 'ret x' for some x, and the resources MO x in their place. -/
def MeetsM (P : Program) (f : FuncId) (args : Array Value) (Min L : List Fact) {A : Type} (ret : A → Value) (MO : A → List Fact → List Fact) : Prop :=
  ∀ c : Ctx, St c Min L c.w0 → Calls P f args c.w0 fun e w' => ∃ x : A, e = .returned (ret x) ∧ St c (MO x []) [] w'

theorem MeetsM.of {A : Type} {ret : A → Value} {MO : A → List Fact → List Fact} {f : FuncId} {fn : Func} {code : Code} {vs : List Value} {m : Nat} {Min : List Fact}
    (hf : P.funcs[f]? = some fn) (hb : fn.body = some code) (hn : fn.ntmps = m) (hm : Nat.ble vs.length m = true)
    (h : ∀ c : Ctx, J c ⟨m, []⟩ (frame0 0 vs) Min L (code.wpr none P (bodyPost P fn (Post c ret MO (fun _ l => l))))) : MeetsM P f vs.toArray Min L ret MO := fun c t => by
  have hle : vs.length ≤ m := by simpa using hm
  refine calls_of_wpr hf hb (h c _ _ ⟨rfl, by simp [hn, hle], ?_⟩ t)
  intro t v hv
  obtain ⟨_, h2⟩ := frame0_slot vs 0 t v hv
  rw [Nat.sub_zero] at h2
  have hlt : t < vs.length := by
    rcases Nat.lt_or_ge t vs.length with h' | h'
    · exact h'
    · rw [List.getElem?_eq_none h'] at h2; cases h2
  rw [Array.getElem?_append_left (by simpa using hlt)]
  simpa using h2

/-- the state behind such a call -/
theorem St.callM {w w' : World} {Min Mr M1 : List Fact} {F : Nat → Nat → Prop} {U : Nat → Prop} (ho : Kept c.O c.w0 w) (hF : Own c w (Min ++ Mr) F) (hL : ∀ f ∈ L, f.p w (Free c F))
    (t : St ⟨w, U, fun k => ∃ i, i < Min.length ∧ F i k⟩ M1 [] w') : St c (M1 ++ Mr) L w' := by
  obtain ⟨ho', F', hF', _⟩ := t
  have hsz := ho'.size
  have hbl : ∀ k, k < w.heap.size → (∀ i, i < Min.length → ¬ F i k) → w'.heap[k]? = w.heap[k]? := fun k hk hn => ho'.block k hk (fun ⟨i, hi, hF⟩ => hn i hi hF)
  have hmine : ∀ i k, F' i k → w.heap.size ≤ k ∨ ∃ j, j < Min.length ∧ F j k := fun i k hk => (hF'.rng i k hk).1
  refine ⟨⟨ho'.os.trans ho.os, ho'.tape.trans ho.tape, ho'.output.trans ho.output, Nat.le_trans ho.size hsz, fun k hk hO => ?_⟩,
    fun i k => (i < M1.length ∧ F' i k) ∨ (M1.length ≤ i ∧ F (i - M1.length + Min.length) k), ⟨?_, ?_, ?_⟩, fun f hf => ?_⟩
  · refine (hbl k (Nat.lt_of_lt_of_le hk ho.size) (fun i _ hFi => ?_)).trans (ho.block k hk hO)
    rcases (hF.rng i k hFi).1 with h | h
    · omega
    · exact hO h
  · intro i m hm
    by_cases hi : i < M1.length
    · rw [List.getElem?_append_left hi] at hm
      exact Fact.same (hF'.res i m hm) (fun k hk => .inl ⟨hi, hk⟩) (fun _ _ _ => rfl)
    · rw [List.getElem?_append_right (by omega)] at hm
      have hm' : (Min ++ Mr)[i - M1.length + Min.length]? = some m := by
        rw [List.getElem?_append_right (by omega), Nat.add_sub_cancel]; exact hm
      exact Fact.same (hF.res _ m hm') (fun k hk => .inr ⟨by omega, hk⟩) (fun k hk hl => hbl k hl (fun j hj hFj => by have := hF.dis _ _ k hFj hk; omega))
  · rintro i k (⟨_, hk⟩ | ⟨_, hk⟩)
    · refine ⟨?_, (hF'.rng i k hk).2⟩
      rcases hmine i k hk with h | ⟨j, _, h⟩
      · exact .inl (Nat.le_trans ho.size h)
      · exact (hF.rng j k h).1
    · exact ⟨(hF.rng _ k hk).1, Nat.lt_of_lt_of_le (hF.rng _ k hk).2 hsz⟩
  · rintro i j k (⟨hi, h1⟩ | ⟨hi, h1⟩) (⟨hj, h2⟩ | ⟨hj, h2⟩)
    · exact hF'.dis i j k h1 h2
    · rcases hmine i k h1 with h | ⟨q, hq, h⟩
      · have := (hF.rng _ k h2).2; omega
      · have := hF.dis _ _ k h h2; omega
    · rcases hmine j k h2 with h | ⟨q, hq, h⟩
      · have := (hF.rng _ k h1).2; omega
      · have := hF.dis _ _ k h h1; omega
    · have := hF.dis _ _ k h1 h2; omega
  · refine f.mono (hL f hf) fun k hk hl => ⟨⟨hk.1, ?_⟩, hbl k hl (fun i _ => hk.2 i)⟩
    rintro i (⟨_, h⟩ | ⟨_, h⟩)
    · rcases hmine i k h with h' | ⟨q, _, h'⟩
      · omega
      · exact hk.2 q h'
    · exact hk.2 _ h

/-- the state in which such a call begins -/
theorem St.enterM {w : World} {Min Mr L0 : List Fact} {F : Nat → Nat → Prop} (hF : Own c w (Min ++ Mr) F) (hL : ∀ f ∈ L, f.p w (Free c F)) (hl : LentAll Mr L L0) :
    St ⟨w, fun k => ∀ i, i < Min.length → ¬ F i k, fun k => ∃ i, i < Min.length ∧ F i k⟩ Min L0 w := by
  refine ⟨Kept.refl _, fun i k => i < Min.length ∧ F i k, ⟨fun i m hm => ?_, fun i k hk => ⟨.inr ⟨i, hk⟩, (hF.rng i k hk.2).2⟩, fun i j k h1 h2 => hF.dis i j k h1.2 h2.2⟩, fun f hf => ?_⟩
  · have hi : i < Min.length := by
      rcases Nat.lt_or_ge i Min.length with h' | h'
      · exact h'
      · rw [List.getElem?_eq_none h'] at hm; cases hm
    exact Fact.same (hF.res i m (by rw [List.getElem?_append_left hi]; exact hm)) (fun k hk => ⟨hi, hk⟩) (fun _ _ _ => rfl)
  · refine hl f hf w (Free c F) (fun j k => F (j + Min.length) k) _ hL (fun j m hj => ?_) (fun k hk => ?_) (fun j k hk => ?_)
    · exact hF.res _ m (by rw [List.getElem?_append_right (by omega), Nat.add_sub_cancel]; exact hj)
    · exact ⟨.inl fun i _ => hk.2 i, fun i hi => hk.2 i hi.2⟩
    · exact ⟨.inl fun i hi h => by have := hF.dis _ _ k h hk; omega, fun i hi => by have := hF.dis _ _ k hi.2 hk; omega⟩

theorem Loud.callM {A : Type} {ret : A → Value} {MO : A → List Fact → List Fact} {f : FuncId} {xs : List Operand} {vs : List Value} {ats : Array TypeId} {L0 Min Mr : List Fact} (hb : HasBody P f)
    (hs : MeetsM P f vs.toArray Min L0 ret MO) (hx : xs.map (ev σ) = vs.map some) (hM : SubM M (Min ++ Mr)) (hL : LentAll Mr L L0) (hMO : ∀ x l, MO x l = MO x [] ++ l) :
    Loud P c n σ M L ⟨d, .call ⟨.value (.func f), xs.toArray, ats⟩, ty, pos, aft, g⟩ ret (fun x => MO x Mr) (fun _ => L) := fun a w s t => by
  have hrun : (execOp a.eval ⟨d, .call ⟨.value (.func f), xs.toArray, ats⟩, ty, pos, aft, g⟩).run P w = .ok (.enter f vs.toArray) w := by
    have e := evs s hx
    simp [execOp, resolve, Act.eval, Deferred.ofValue, invoke, hb _ w, e]
  simp only [Oper.wp, hrun, Oper.upon]
  obtain ⟨ho, F, hF, hLF⟩ := t.weak (L' := L) hM (fun _ h => h)
  refine (hs _ (St.enterM hF hLF hL)).mono ?_
  rintro e w' ⟨x, rfl, ht⟩
  refine ⟨x, rfl, ?_⟩
  rw [hMO]
  exact St.callM ho hF hLF ht

theorem Loud.callVM {A : Type} {ret : A → Value} {MO : A → List Fact → List Fact} {f : FuncId} {t : Tmp} {xs : List Operand} {vs cs : List Value} {ats : Array TypeId} {L0 Min Mr : List Fact} (hb : HasBody P f)
    (ht : lk σ t = some (.func (.func f) #[] cs.toArray)) (hs : MeetsM P f (vs ++ cs).toArray Min L0 ret MO) (hx : xs.map (ev σ) = vs.map some) (hM : SubM M (Min ++ Mr)) (hL : LentAll Mr L L0) (hMO : ∀ x l, MO x l = MO x [] ++ l) :
    Loud P c n σ M L ⟨d, .call ⟨.value (.tmp t), xs.toArray, ats⟩, ty, pos, aft, g⟩ ret (fun x => MO x Mr) (fun _ => L) := fun a w s t' => by
  have hrun : (execOp a.eval ⟨d, .call ⟨.value (.tmp t), xs.toArray, ats⟩, ty, pos, aft, g⟩).run P w = .ok (.enter f (vs ++ cs).toArray) w := by
    have e := evs s hx
    have e2 : a.eval (.tmp t) = .func (.func f) #[] cs.toArray := s.eval (x := .tmp t) ht
    simp [execOp, resolve, e2, Deferred.ofValue, invoke, hb _ w, e]
  simp only [Oper.wp, hrun, Oper.upon]
  obtain ⟨ho, F, hF, hLF⟩ := t'.weak (L' := L) hM (fun _ h => h)
  refine (hs _ (St.enterM hF hLF hL)).mono ?_
  rintro e w' ⟨x, rfl, ht⟩
  refine ⟨x, rfl, ?_⟩
  rw [hMO]
  exact St.callM ho hF hLF ht

/-! ## Calls that are walked in place -/
/-- a call returns a value with which the caller goes on -/
def RetI (n : Sz) (σ : Fr) (D : Nat) (K : Act → World → Prop) (e : Ending) (w : World) : Prop := ∃ v, e = .returned v ∧ ∀ a, Sub n ((D, v) :: σ) a → K a w
def RetI0 (n : Sz) (σ : Fr) (K : Act → World → Prop) (e : Ending) (w : World) : Prop := ∃ v, e = .returned v ∧ ∀ a, Sub n σ a → K a w
/-- a call returns, at one of several places -/
def MidR {A B : Type} (c : Ctx) (C : A → Prop) (val : A → B → Value) (MI LI : A → B → List Fact) (e : Ending) (w : World) : Prop := ∃ x y, C x ∧ e = .returned (val x y) ∧ St c (MI x y) (LI x y) w

theorem frame0_sub {fn : Func} {vs : List Value} {m : Nat} (hn : fn.ntmps = m) (hm : Nat.ble vs.length m = true) : Sub ⟨m, []⟩ (frame0 0 vs) { tmps := vs.toArray ++ Array.replicate (fn.ntmps - vs.toArray.size) undef, defers := [] } := by
  have hle : vs.length ≤ m := by simpa using hm
  refine ⟨rfl, by simp [hn, hle], ?_⟩
  intro t v hv
  obtain ⟨_, h2⟩ := frame0_slot vs 0 t v hv
  rw [Nat.sub_zero] at h2
  have hlt : t < vs.length := by
    rcases Nat.lt_or_ge t vs.length with h' | h'
    · exact h'
    · rw [List.getElem?_eq_none h'] at h2; cases h2
  rw [Array.getElem?_append_left (by simpa using hlt)]
  simpa using h2

/-- what is asked of a call, so that it can be walked in place -/
structure Enter (P : Program) (c : Ctx) (n : Sz) (σ : Fr) (M L : List Fact) (o : Oper) (f : FuncId) (vs : List Value) : Prop where
  run : ∀ a w, Sub n σ a → St c M L w → (execOp a.eval o).run P w = .ok (.enter f vs.toArray) w

theorem Enter.fn {f : FuncId} {xs : List Operand} {vs : List Value} {ats : Array TypeId} (hb : HasBody P f) (hx : xs.map (ev σ) = vs.map some) : Enter P c n σ M L ⟨d, .call ⟨.value (.func f), xs.toArray, ats⟩, ty, pos, aft, g⟩ f vs := ⟨fun a w s _ => by
  have e := evs s hx
  simp [execOp, resolve, Act.eval, Deferred.ofValue, invoke, hb _ w, e]⟩
theorem Enter.clo {f : FuncId} {t : Tmp} {xs : List Operand} {us cs vs : List Value} {ats : Array TypeId} (hb : HasBody P f) (ht : lk σ t = some (.func (.func f) #[] cs.toArray)) (hx : xs.map (ev σ) = us.map some) (hv : us ++ cs = vs) : Enter P c n σ M L ⟨d, .call ⟨.value (.tmp t), xs.toArray, ats⟩, ty, pos, aft, g⟩ f vs := ⟨fun a w s _ => by
  have e := evs s hx
  have e2 : a.eval (.tmp t) = .func (.func f) #[] cs.toArray := s.eval (x := .tmp t) ht
  subst hv
  simp [execOp, resolve, e2, Deferred.ofValue, invoke, hb _ w, e]⟩

theorem J.inl {f : FuncId} {fn : Func} {code : Code} {vs : List Value} {m : Nat} {op : Op} (he : Enter P c n σ M L ⟨some D, op, ty, pos, aft, none⟩ f vs) (hf : P.funcs[f]? = some fn) (hb : fn.body = some code) (hn : fn.ntmps = m) (hm : Nat.ble vs.length m = true) (hD : Nat.blt D n.sz = true)
    (h : J c ⟨m, []⟩ (frame0 0 vs) M L (code.wpr none P (bodyPost P fn (RetI n σ D (wpList P ops Q rest))))) : J c n σ M L (wpList P ops Q (⟨some D, op, ty, pos, aft, none⟩ :: rest)) := fun a w s t => by
  refine wpList_take rfl ?_
  have hrun := he.run a w s t
  simp only [Oper.wp, hrun, Oper.upon]
  refine (calls_of_wpr hf hb (h _ w (frame0_sub hn hm) t)).mono ?_
  rintro e w' ⟨v, rfl, hk⟩
  exact hk _ (s.put D v hD)

theorem J.inl0 {f : FuncId} {fn : Func} {code : Code} {vs : List Value} {m : Nat} {op : Op} (he : Enter P c n σ M L ⟨none, op, ty, pos, aft, none⟩ f vs) (hf : P.funcs[f]? = some fn) (hb : fn.body = some code) (hn : fn.ntmps = m) (hm : Nat.ble vs.length m = true)
    (h : J c ⟨m, []⟩ (frame0 0 vs) M L (code.wpr none P (bodyPost P fn (RetI0 n σ (wpList P ops Q rest))))) : J c n σ M L (wpList P ops Q (⟨none, op, ty, pos, aft, none⟩ :: rest)) := fun a w s t => by
  refine wpList_take rfl ?_
  have hrun := he.run a w s t
  simp only [Oper.wp, hrun, Oper.upon]
  refine (calls_of_wpr hf hb (h _ w (frame0_sub hn hm) t)).mono ?_
  rintro e w' ⟨v, rfl, hk⟩
  exact hk _ s

theorem J.inlM {A B : Type} {f : FuncId} {fn : Func} {code : Code} {vs : List Value} {m : Nat} {op : Op} (C : A → Prop) (val : A → B → Value) (MI LI : A → B → List Fact) (he : Enter P c n σ M L ⟨some D, op, ty, pos, aft, none⟩ f vs) (hf : P.funcs[f]? = some fn) (hb : fn.body = some code) (hn : fn.ntmps = m) (hm : Nat.ble vs.length m = true) (hD : Nat.blt D n.sz = true)
    (h1 : J c ⟨m, []⟩ (frame0 0 vs) M L (code.wpr none P (bodyPost P fn (MidR c C val MI LI)))) (h2 : ∀ a b, C a → J c n ((D, val a b) :: σ) (MI a b) (LI a b) (wpList P ops Q rest)) : J c n σ M L (wpList P ops Q (⟨some D, op, ty, pos, aft, none⟩ :: rest)) := fun a w s t => by
  refine wpList_take rfl ?_
  have hrun := he.run a w s t
  simp only [Oper.wp, hrun, Oper.upon]
  refine (calls_of_wpr hf hb (h1 _ w (frame0_sub hn hm) t)).mono ?_
  rintro e w' ⟨x, y, hC, rfl, ht⟩
  exact h2 x y hC _ w' (s.put D _ hD) ht

theorem J.inlM0 {A B : Type} {f : FuncId} {fn : Func} {code : Code} {vs : List Value} {m : Nat} {op : Op} (C : A → Prop) (val : A → B → Value) (MI LI : A → B → List Fact) (he : Enter P c n σ M L ⟨none, op, ty, pos, aft, none⟩ f vs) (hf : P.funcs[f]? = some fn) (hb : fn.body = some code) (hn : fn.ntmps = m) (hm : Nat.ble vs.length m = true)
    (h1 : J c ⟨m, []⟩ (frame0 0 vs) M L (code.wpr none P (bodyPost P fn (MidR c C val MI LI)))) (h2 : ∀ a b, C a → J c n σ (MI a b) (LI a b) (wpList P ops Q rest)) : J c n σ M L (wpList P ops Q (⟨none, op, ty, pos, aft, none⟩ :: rest)) := fun a w s t => by
  refine wpList_take rfl ?_
  have hrun := he.run a w s t
  simp only [Oper.wp, hrun, Oper.upon]
  refine (calls_of_wpr hf hb (h1 _ w (frame0_sub hn hm) t)).mono ?_
  rintro e w' ⟨x, y, hC, rfl, ht⟩
  exact h2 x y hC _ w' s ht

/-! the results of a function -/
def Res (P : Program) (c : Ctx) (n : Sz) (σ : Fr) (M L : List Fact) (fn : Func) (v : Value) : Prop := ∀ a w, Sub n σ a → St c M L w → (results fn a.tmps).run P w = .ok v w
variable {fn : Func}
theorem Res.r0 (hres : fn.results = #[]) : Res P c n σ M L fn (.tuple #[]) := fun a w _ _ => by simp [results, hres]
theorem Res.r1 {r1 : ResultVar} {v1 : Value} (hres : fn.results = #[r1]) (h1 : RV P c n σ M L r1 v1) : Res P c n σ M L fn v1 := fun a w s t => by
  have := h1 a w s t
  simp only [results_rv, hres]
  simp [this]
theorem Res.r2 {r1 r2 : ResultVar} {v1 v2 : Value} (hres : fn.results = #[r1, r2]) (h1 : RV P c n σ M L r1 v1) (h2 : RV P c n σ M L r2 v2) : Res P c n σ M L fn (.tuple #[v1, v2]) := fun a w s t => by
  have h1 := h1 a w s t
  have h2 := h2 a w s t
  simp only [results_rv, hres]
  simp [h1, h2]
theorem Res.r3 {r1 r2 r3 : ResultVar} {v1 v2 v3 : Value} (hres : fn.results = #[r1, r2, r3]) (h1 : RV P c n σ M L r1 v1) (h2 : RV P c n σ M L r2 v2) (h3 : RV P c n σ M L r3 v3) : Res P c n σ M L fn (.tuple #[v1, v2, v3]) := fun a w s t => by
  have h1 := h1 a w s t
  have h2 := h2 a w s t
  have h3 := h3 a w s t
  simp only [results_rv, hres]
  simp [h1, h2, h3]

theorem J.retI {m : Sz} {v : Value} {ex : Exit} (hex : ex = .ret ∨ ex = .normal) (hr : Res P c m σ' M L fn v) (h : J c n ((D, v) :: σ) M L K) (hds : m.ds = [] := by rfl) : J c m σ' M L (bodyPost P fn (RetI n σ D K) ex) := fun a w s t => by
  exact body_end hex (s.defers.trans hds) (hr a w s t) ⟨v, rfl, fun a' s' => h a' w s' t⟩
theorem J.retI0 {m : Sz} {v : Value} {ex : Exit} (hex : ex = .ret ∨ ex = .normal) (hr : Res P c m σ' M L fn v) (h : J c n σ M L K) (hds : m.ds = [] := by rfl) : J c m σ' M L (bodyPost P fn (RetI0 n σ K) ex) := fun a w s t => by
  exact body_end hex (s.defers.trans hds) (hr a w s t) ⟨v, rfl, fun a' s' => h a' w s' t⟩
theorem J.retM {A B : Type} {m : Sz} {v : Value} {ex : Exit} {C : A → Prop} {val : A → B → Value} {MI LI : A → B → List Fact} (x : A) (y : B) (hC : C x) (hex : ex = .ret ∨ ex = .normal) (hr : Res P c m σ' M L fn v) (hv : v = val x y) (hM : SubM M (MI x y)) (hL : LentAll [] L (LI x y)) (hds : m.ds = [] := by rfl) :
    J c m σ' M L (bodyPost P fn (MidR c C val MI LI) ex) := fun a w s t => by
  exact body_end hex (s.defers.trans hds) (hr a w s t) ⟨x, y, hC, by rw [hv], t.weakE hM hL⟩
end
end Go.Sx
