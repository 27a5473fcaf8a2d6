/- The layer Sx, part 26: ranges over functions any number of times: the marks of a frame as one resource; ways that meet and loops whose frames differ in their marks. Conditions: none of its own. -/
import Derived.Test.YtmajgimhmfeliaaSxy
set_option linter.unusedVariables false
set_option linter.unusedSimpArgs false
namespace Go.Sx
open Go.RowKit

def marks (Ds : List Nat) : List Deferred := Ds.map mark

/-- the blocks of the marks of a frame -/
def Dfs (Ds : List Nat) : Fact where
  p w F := Ds.Nodup ∧ ∀ D ∈ Ds, F D ∧ w.heap[D]? = some (.deferred (some []))
  mono := fun ⟨h1, h2⟩ h => ⟨h1, fun D hD => by
    obtain ⟨h3, h4⟩ := h D (h2 D hD).1 (Array.getElem?_eq_some_iff.1 (h2 D hD).2).1
    exact ⟨h3, by rw [h4]; exact (h2 D hD).2⟩⟩

section
variable {P : Program} {rd : Option Nat} {c : Ctx} {n m : Sz} {σ σ' : Fr} {M L : List Fact} {Q : Exit → Act → World → Prop} {K G : Act → World → Prop}

theorem Stp.dfs0 : Stp M L (Dfs [] :: M) L := Stp.add fun _ => ⟨List.nodup_nil, by simp⟩

theorem Stp.dfsCons (i j : Nat) {D : Nat} {Ds : List Nat} (hij : i ≠ j) (hf : M[i]? = some (Dfs Ds)) (hg : M[j]? = some (Dfr D)) : Stp M L ((M.set i (Dfs (D :: Ds))).eraseIdx j) L := fun c w t =>
  t.merge i j hij hf hg (by
    rintro w F1 F2 ⟨h1, h2⟩ ⟨h3, h4⟩ hd
    refine ⟨List.nodup_cons.2 ⟨fun hm => hd D (h2 D hm).1 h3, h1⟩, fun E hE => ?_⟩
    rcases List.mem_cons.1 hE with rfl | hE
    · exact ⟨.inr h3, h4⟩
    · exact ⟨.inl (h2 E hE).1, (h2 E hE).2⟩)

/-- the statement, the frame's marks as one resource -/
theorem J.rangeFuncD {g : Operand} {ps : Array Tmp} {assign body : Code} {f : FuncId} {fn : Func} {code : Code} {cs : List Value} {k i s : Nat} (Ds : List Nat) (hi : M[i]? = some (Dfs Ds)) (hb : HasBody P f) (hx : ev σ g = some (.func (.func f) #[] cs.toArray)) (hf : P.funcs[f]? = some fn) (hbd : fn.body = some code) (hn : fn.ntmps = k) (hm : Nat.ble (cs.length + 1) k = true)
    (h : ∀ (l D : Nat) (R : Rec), R.n = s ∧ R.σ = σ ∧ R.ps = ps ∧ R.assign = assign ∧ R.body = body → J c ⟨k, []⟩ (frame0 0 (yieldV l :: cs)) (Lp l R .ready none :: M.set i (Dfs (D :: Ds))) L (code.wpr none P (bodyPost P fn (RetF P ⟨s, marks Ds⟩ σ l D Q)))) :
    J c ⟨s, marks Ds⟩ σ M L ((Code.rangeFunc g ps assign body).wpr none P Q) := J.rangeFuncR hb hx hf hbd hn hm fun l D R hR =>
  J.stp (Stp.dfsCons (i + 2) 1 (by omega) hi rfl) (h l D R hR)

theorem J.unmarkAll {fn : Func} {R : Ending → World → Prop} {ex : Exit} {i k : Nat} (hex : ex = .ret ∨ ex = .normal) : ∀ {Ds : List Nat} {M : List Fact}, M[i]? = some (Dfs Ds) → J c ⟨k, []⟩ σ (M.set i (Dfs [])) L (bodyPost P fn R ex) → J c ⟨k, marks Ds⟩ σ M L (bodyPost P fn R ex)
  | [], M, hi, h => by
    have : M.set i (Dfs []) = M := by
      apply List.ext_getElem?
      intro j
      by_cases e : i = j
      · subst e
        rw [hi]
        simp [(List.getElem?_eq_some_iff.1 hi).1]
      · simp [List.getElem?_set_ne e]
    rw [this] at h
    exact h
  | D :: Ds, M, hi, h => fun a w s t => by
    obtain ⟨F, h1, h2⟩ := t.res hi
    have t' : St c (M.set i (Dfs Ds)) L (w.putObj D (.deferred none)) := by
      refine t.upd hi rfl rfl rfl (by simp) fun F hF _ => ⟨fun k _ hk => ?_, F, ?_, fun _ h => .inl h⟩
      · exact World.putObj_heap_other (fun e => hk (e ▸ (hF.2 D (by simp)).1))
      · obtain ⟨hn, hF⟩ := hF
        refine ⟨(List.nodup_cons.1 hn).2, fun E hE => ⟨(hF E (by simp [hE])).1, ?_⟩⟩
        rw [World.putObj_heap_other (fun e => (List.nodup_cons.1 hn).1 (by subst e; exact hE))]
        exact (hF E (by simp [hE])).2
    refine body_endM hex s.defers (h2 D (by simp)).2 ?_
    have hi' : (M.set i (Dfs Ds))[i]? = some (Dfs Ds) := by simp [(List.getElem?_eq_some_iff.1 hi).1]
    have := J.unmarkAll hex hi' (by rw [List.set_set]; exact h) { tmps := a.tmps, defers := marks Ds } _ ⟨rfl, s.size, s.slot⟩ t'
    rcases hex with rfl | rfl <;> exact this

def MidN {A B : Type} (c : Ctx) (nI : A → B → Sz) (C : A → Prop) (σI : A → B → Fr) (MI LI : A → B → List Fact) (a : Act) (w : World) : Prop := ∃ x y, C x ∧ Sub (nI x y) (σI x y) a ∧ St c (MI x y) (LI x y) w

theorem J.midN {A B : Type} {x : Code} (nI : A → B → Sz) (C : A → Prop) (σI : A → B → Fr) (MI LI : A → B → List Fact) (h1 : J c n σ M L (x.wpr rd P (Exit.then (MidN c nI C σI MI LI) Q))) (h2 : ∀ a b, C a → J c (nI a b) (σI a b) (MI a b) (LI a b) K) :
    J c n σ M L (x.wpr rd P (Exit.then K Q)) := fun a w s t => wpr_mono (fun e a' w' q => by
  cases e with
  | normal => obtain ⟨z, y, hC, hs, ht⟩ := q; exact h2 z y hC a' w' hs ht
  | exit id => exact q
  | goto l => exact q
  | ret => exact q
  | panic ch => exact q
  | outgrown => exact q) (h1 a w s t)

theorem J.meetN {A B : Type} {nI : A → B → Sz} {C : A → Prop} {σI : A → B → Fr} {MI LI : A → B → List Fact} (x : A) (y : B) (hn : n = nI x y) (hC : C x) (hs : SubF σ (σI x y)) (hM : SubM M (MI x y)) (hL : LentAll [] L (LI x y)) : J c n σ M L (MidN c nI C σI MI LI) :=
  fun _ _ s t => ⟨x, y, hC, hn ▸ s.weak hs, t.weakE hM hL⟩

def InvN {A B R : Type} (c : Ctx) (nI : A → B → Sz) (step : A → (A → Option R) → Option R) (r : R) (σI : A → B → Fr) (MI LI : A → B → List Fact) (k : Nat) (a : Act) (w : World) : Prop :=
  ∃ x y, iter step k x = some r ∧ Sub (nI x y) (σI x y) a ∧ St c (MI x y) (LI x y) w

theorem J.loopN {A B R : Type} {body : Code} (nI : A → B → Sz) (step : A → (A → Option R) → Option R) {r : R} {fuel : Nat} (σI : A → B → Fr) (MI LI : A → B → List Fact) (a0 : A) (b0 : B) (hn0 : n = nI a0 b0) (h : iter step fuel a0 = some r)
    (hs : SubF σ (σI a0 b0)) (hM : SubM M (MI a0 b0)) (hL : LentAll [] L (LI a0 b0))
    (round : ∀ k a b, step a (iter step k) = some r → J c (nI a b) (σI a b) (MI a b) (LI a b) (body.wpr rd P (Exit.then (InvN c nI step r σI MI LI k) Q))) : J c n σ M L ((Code.loop body).wpr rd P Q) := by
  subst hn0
  intro a w s t b k cs hro hb hr
  have key : ∀ m x y a w, iter step m x = some r → Sub (nI x y) (σI x y) a → St c (MI x y) (LI x y) w →
      ∃ e a' w', Q e a' w' ∧ ArrivesIn (Machine.fenced P (FR rd)) P (lone (b.atR a (.code body :: .inLoop body :: k)) cs w) b k cs e a' w' := by
    intro m
    induction m with
    | zero => intro x y a w hC; cases hC
    | succ m ih =>
      intro x y a w hC hs ht
      obtain ⟨e, a₁, w₁, hq, harr⟩ := round m x y hC a w hs ht b (.inLoop body :: k) cs hro hb hr
      cases e with
      | normal =>
        obtain ⟨x', y', hCy, hsy, hty⟩ := hq
        obtain ⟨e₂, a₂, w₂, hq₂, harr₂⟩ := ih x' y' a₁ w₁ hCy hsy hty
        exact ⟨e₂, a₂, w₂, hq₂, .of_steps (StepsIn.trans harr (.one (fenced_calm hb hr rfl) stepR_inLoop)) harr₂⟩
      | exit id => exact ⟨_, a₁, w₁, hq, .pass (x := .inLoop body) rfl (fun _ _ => .inl (by simp)) harr⟩
      | goto l => exact ⟨_, a₁, w₁, hq, .pass (x := .inLoop body) rfl (fun _ _ => .inl (by simp)) harr⟩
      | ret => exact ⟨_, a₁, w₁, hq, .pass (x := .inLoop body) rfl (fun _ _ => .inl (by simp)) harr⟩
      | panic ch => exact ⟨_, a₁, w₁, hq, .pass (x := .inLoop body) rfl (fun _ _ => .inl (by simp)) harr⟩
      | outgrown => exact ⟨_, a₁, w₁, hq, .pass (x := .inLoop body) rfl (fun _ _ => .inl (by simp)) harr⟩
  obtain ⟨e, a', w', hq, harr⟩ := key fuel a0 b0 a w h (s.weak hs) (t.weakE hM hL)
  exact ⟨e, a', w', hq, .of_steps (.one (fenced_calm hb hr rfl) stepR_loop) harr⟩

theorem J.againN {A B R : Type} {nI : A → B → Sz} {step : A → (A → Option R) → Option R} {r : R} {k : Nat} {σI : A → B → Fr} {MI LI : A → B → List Fact} (x : A) (y : B) (hn : n = nI x y) (h : iter step k x = some r) (hs : SubF σ (σI x y)) (hM : SubM M (MI x y)) (hL : LentAll [] L (LI x y)) :
    J c n σ M L (InvN c nI step r σI MI LI k) := fun _ _ s t => ⟨x, y, h, hn ▸ s.weak hs, t.weakE hM hL⟩
end
end Go.Sx
