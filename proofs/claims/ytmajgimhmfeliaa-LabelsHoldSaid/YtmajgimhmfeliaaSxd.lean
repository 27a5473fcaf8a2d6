/- The layer Sx, part 4: stores into blocks of the call's own, contracts, calls, entering and leaving a function. Conditions: a table of types that is right for the program. -/
import Derived.Test.YtmajgimhmfeliaaSxc
set_option linter.unusedVariables false
set_option linter.unusedSimpArgs false
namespace Go.Sx
open Go.RowKit

section
variable {P : Program} {rd : Option Nat} {c : Ctx} {n : Sz} {σ : Fr} {M L : List Fact} {Q : Exit → Act → World → Prop} {ops : Array Oper} {rest : List Oper}
variable {d : Option Tmp} {D : Nat} {ty : TypeId} {pos : String} {aft : Array Edge} {g : Option (Nat × Bool)}

/-- a value of one cell -/
def one : Value → Bool
  | .agg _ | .tuple _ => false
  | _ => true

@[simp] theorem one_slice (a : Option Addr) (k c : Nat) : one (.slice a k c) = true := rfl
@[simp] theorem one_int (k : IntKind) (x : Int) : one (.int k x) = true := rfl
theorem one_cells {v : Value} (h : one v = true) : v.cells = #[v] := by cases v <;> first | rfl | cases h
theorem one_oneCell {v : Value} (h : one v = true) : v.oneCell' = true := by cases v <;> first | rfl | cases h

theorem heap_setCell_same {w : World} {b o : Nat} {cs : List Value} {T : TypeId} (h : w.heap[b]? = some (.cells cs.toArray T (0, 0))) (v : Value) :
    (w.setCell ⟨b, o, none⟩ v).heap[b]? = some (.cells (cs.set o v).toArray T (0, 0)) := by
  simp [World.setCell, Array.getElem?_modify, h]

theorem St.store {w : World} (t : St c M L w) {i b o : Nat} {cs : List Value} {T : TypeId} (hi : M[i]? = some (Blk b cs T)) (v : Value) :
    St c (M.set i (Blk b (cs.set o v) T)) L (w.setCell ⟨b, o, none⟩ v) :=
  t.upd hi rfl rfl rfl (by simp [World.setCell]) fun F hF _ => ⟨fun k _ hk => Below.heap_setCell _ _ _ _ (fun e => hk (by simp only at e; subst e; exact hF.1)),
    F, ⟨hF.1, heap_setCell_same hF.2 v⟩, fun _ h => .inl h⟩

theorem run_store1 {T : TypeId} {dT : Ty} {w : World} (hT : TyOk P T dT) (hs : dT.size = 1) {A : Addr} {v e : Value} (hv : one v = true) (h : w.cell? A = some e) (hf : w.frozen? A = false) :
    (Instr.storeAt T (.pointer (some A)) v).run P w = .ok () (w.setCell A v) := by
  have h0 : A.add 0 = A := rfl
  have hst : (store A v).run P w = .ok () (w.setCell A v) := by
    unfold store
    cases v <;> first | (simp only [Sem.run, h, hf]; rfl) | cases hv
  simp only [Instr.storeAt, Instr.sureAddr, storeVar, one_cells hv]
  simp [hT.run_size w, hs, storeCells, h0, hst]

theorem J.store1 [Tab P] (i : Nat) {T T' : TypeId} {s2 : Nat} {z : Value} {dT : TypeDesc} {x y : Operand} {b o : Nat} {cs : List Value} {v : Value} (hx : ev σ x = some (.pointer (some ⟨b, o, none⟩)))
    (hy : ev σ y = some v) (hv : one v = true) (hM : M[i]? = some (Blk b cs T')) (hT : Tab.tab P T = some ⟨dT, 1, s2, z⟩) (ho : Nat.blt o cs.length = true)
    (h : J c n σ (M.set i (Blk b (cs.set o v) T')) L (wpList P ops Q rest)) :
    J c n σ M L (wpList P ops Q (⟨none, .store T x y, ty, pos, aft, none⟩ :: rest)) := fun a w s t => by
  refine wpList_take rfl ?_
  obtain ⟨F, hF⟩ := t.res hM
  have hlt : o < cs.length := by simpa [Nat.blt_eq] using ho
  have hrun : (execOp a.eval ⟨none, .store T x y, ty, pos, aft, none⟩).run P w = .ok .skip (w.setCell ⟨b, o, none⟩ v) := by
    simp [execOp, s.eval hx, s.eval hy, run_store1 (Tab.ok hT) rfl hv (Blk.cell hF (List.getElem?_eq_getElem hlt)) (Blk.free hF o)]
  simp only [Oper.wp, hrun, Oper.upon]
  exact h _ _ s (t.store hM v)

theorem St.fill {w : World} (t : St c M L w) {i b : Nat} {cs cs' : List Value} {T : TypeId} (hi : M[i]? = some (Blk b cs T)) :
    St c (M.set i (Blk b cs' T)) L (w.setRow b cs'.toArray) :=
  t.upd hi rfl rfl rfl (by simp) fun F hF _ => ⟨fun k _ hk => setRow_other w b k _ (fun e => hk (by subst e; exact hF.1)),
    F, ⟨hF.1, setRow_heap w b _ _ T _ hF.2⟩, fun _ h => .inl h⟩

theorem J.storeAll [Tab P] (i : Nat) {T T' : TypeId} {s2 : Nat} {z : Value} {dT : TypeDesc} {x y : Operand} {b : Nat} {cs vs : List Value} (hx : ev σ x = some (.pointer (some ⟨b, 0, none⟩)))
    (hy : ev σ y = some (.agg vs.toArray)) (hv : vs.all one = true) (hM : M[i]? = some (Blk b cs T')) (hT : Tab.tab P T = some ⟨dT, vs.length, s2, z⟩) (hl : Nat.beq vs.length cs.length = true)
    (h : J c n σ (M.set i (Blk b vs T')) L (wpList P ops Q rest)) :
    J c n σ M L (wpList P ops Q (⟨none, .store T x y, ty, pos, aft, none⟩ :: rest)) := fun a w s t => by
  refine wpList_take rfl ?_
  obtain ⟨F, hF⟩ := t.res hM
  have hlen : vs.length = cs.length := Nat.eq_of_beq_eq_true hl
  have hone : ∀ v ∈ vs, v.oneCell' = true := fun v hvm => one_oneCell (by simpa using List.all_eq_true.1 hv v hvm)
  obtain ⟨iT, hiT, hsz, _, _⟩ := (Tab.ok hT).info
  have hst := run_storeVar_row (P := P) w b T' T cs.toArray vs.toArray hF.2 (by simp [hiT, hsz]) (by simp [hlen]) (by simpa using hone)
  have hrun : (execOp a.eval ⟨none, .store T x y, ty, pos, aft, none⟩).run P w = .ok .skip (w.setRow b vs.toArray) := by
    simp [execOp, s.eval hx, s.eval hy, Instr.storeAt, Instr.sureAddr, hst]
  simp only [Oper.wp, hrun, Oper.upon]
  exact h _ _ s (t.fill hM)

/-! ## Contracts -/
/-- Called where the facts L stand, f returns 'ret x' for some x, with the resources MO x and the facts LO x. -/
def Meets (P : Program) (f : FuncId) (args : Array Value) (L : List Fact) {A : Type} (ret : A → Value) (MO LO : A → List Fact → List Fact) : Prop :=
  ∀ (w0 : World) (S0 : Nat → Prop), (∀ h ∈ L, h.p w0 S0) → Calls P f args w0 fun e w' => ∃ x : A, e = .returned (ret x) ∧ St ⟨w0, S0, fun _ => False⟩ (MO x []) (LO x []) w'

def joinF (m : Nat) (F' F : Nat → Nat → Prop) (i k : Nat) : Prop := (i < m ∧ F' i k) ∨ (m ≤ i ∧ F (i - m) k)

theorem Own.new {w : World} {M : List Fact} {F : Nat → Nat → Prop} {w0 : World} {S0 : Nat → Prop} (h : Own ⟨w0, S0, fun _ => False⟩ w M F) {i k : Nat} (hk : F i k) : w0.heap.size ≤ k := by
  rcases (h.rng i k hk).1 with h | h
  · exact h
  · exact h.elim

theorem St.call {w w' : World} {M1 L1 : List Fact} {F : Nat → Nat → Prop} (ho : Kept c.O c.w0 w) (hF : Own c w M F) (hL : ∀ f ∈ L, f.p w (Free c F))
    (t : St ⟨w, Free c F, fun _ => False⟩ M1 L1 w') : St c (M1 ++ M) (L1 ++ L) w' := by
  obtain ⟨ho', F', hF', hL'⟩ := t
  have ho' := ho'.ext
  have hb := ho'.block
  refine ⟨ho.trans ho', joinF M1.length F' F, ⟨?_, ?_, ?_⟩, fun f hf => ?_⟩
  · intro i m hm
    by_cases hi : i < M1.length
    · rw [List.getElem?_append_left hi] at hm
      exact Fact.same (hF'.res i m hm) (fun k hk => .inl ⟨hi, hk⟩) (fun _ _ _ => rfl)
    · rw [List.getElem?_append_right (by omega)] at hm
      exact Fact.same (hF.res _ m hm) (fun k hk => .inr ⟨by omega, hk⟩) (fun k _ hl => hb k hl)
  · rintro i k (⟨_, hk⟩ | ⟨_, hk⟩)
    · exact ⟨.inl (Nat.le_trans ho.size (hF'.new hk)), (hF'.rng i k hk).2⟩
    · exact ⟨(hF.rng _ k hk).1, Nat.lt_of_lt_of_le (hF.rng _ k hk).2 ho'.size⟩
  · rintro i j k (⟨hi, h1⟩ | ⟨hi, h1⟩) (⟨hj, h2⟩ | ⟨hj, h2⟩)
    · exact hF'.dis i j k h1 h2
    · have := hF'.new h1; have := (hF.rng _ k h2).2; simp only at *; omega
    · have := hF'.new h2; have := (hF.rng _ k h1).2; simp only at *; omega
    · have := hF.dis _ _ k h1 h2; omega
  · rcases List.mem_append.1 hf with hf | hf
    · refine Fact.same (hL' f hf) (fun k hk => ?_) (fun _ _ _ => rfl)
      obtain ⟨hall, hno⟩ := hk
      have hall' : Free c F k ∨ w.heap.size ≤ k := by
        rcases hall with h | h | h
        · exact .inl h
        · exact .inr h
        · exact h.elim
      refine ⟨?_, ?_⟩
      · rcases hall' with h | h
        · exact h.1
        · exact .inr (.inl (Nat.le_trans ho.size h))
      · rintro i (⟨_, hi⟩ | ⟨_, hi⟩)
        · exact hno i hi
        · rcases hall' with h | h
          · exact h.2 _ hi
          · have := (hF.rng _ k hi).2; omega
    · refine f.mono (hL f hf) fun k hk hl => ⟨⟨hk.1, ?_⟩, hb k hl⟩
      rintro i (⟨_, hi⟩ | ⟨_, hi⟩)
      · have := hF'.new hi; omega
      · exact hk.2 _ hi

theorem evs {xs : List Operand} {vs : List Value} {a : Act} (s : Sub n σ a) (h : xs.map (ev σ) = vs.map some) : xs.map a.eval = vs := by
  induction xs generalizing vs with
  | nil => cases vs <;> simp_all
  | cons x xs ih =>
    cases vs with
    | nil => simp at h
    | cons v vs => simp at h; simp [s.eval h.1, ih h.2]

/-- f has a body -/
def HasBody (P : Program) (f : FuncId) : Prop := ∀ args w, (callFunc f args).run P w = .ok (.enter f args) w

theorem J.call {A : Type} {ret : A → Value} {MO LO : A → List Fact → List Fact} {f : FuncId} {xs : List Operand} {vs : List Value} {ats : Array TypeId} {L0 : List Fact} (hb : HasBody P f)
    (hs : Meets P f vs.toArray L0 ret MO LO) (hx : xs.map (ev σ) = vs.map some) (hL : ∀ h ∈ L0, h ∈ L) (hD : Nat.blt D n.sz = true)
    (hMO : ∀ x l, MO x l = MO x [] ++ l) (hLO : ∀ x l, LO x l = LO x [] ++ l)
    (h : ∀ x, J c n ((D, ret x) :: σ) (MO x M) (LO x L) (wpList P ops Q rest)) :
    J c n σ M L (wpList P ops Q (⟨some D, .call ⟨.value (.func f), xs.toArray, ats⟩, ty, pos, aft, none⟩ :: rest)) := fun a w s t => by
  refine wpList_take rfl ?_
  have hrun : (execOp a.eval ⟨some D, .call ⟨.value (.func f), xs.toArray, ats⟩, ty, pos, aft, none⟩).run P w = .ok (.enter f vs.toArray) w := by
    have e := evs s hx
    simp [execOp, resolve, Act.eval, Deferred.ofValue, invoke, hb _ w, e]
  simp only [Oper.wp, hrun, Oper.upon]
  obtain ⟨ho, F, hF, hLF⟩ := t
  refine (hs w (Free c F) (fun f hf => hLF f (hL f hf))).mono ?_
  rintro e w' ⟨x, rfl, ht⟩
  refine h x _ w' (s.put D _ hD) ?_
  rw [hMO, hLO]
  exact St.call ho hF hLF ht

/-! ## Entering and leaving -/
def Post {A : Type} (c : Ctx) (ret : A → Value) (MO LO : A → List Fact → List Fact) (e : Ending) (w : World) : Prop := ∃ x : A, e = .returned (ret x) ∧ St c (MO x []) (LO x []) w

def frame0 : Nat → List Value → Fr
  | _, [] => []
  | k, v :: vs => (k, v) :: frame0 (k + 1) vs

theorem frame0_slot (vs : List Value) : ∀ k t v, lk (frame0 k vs) t = some v → k ≤ t ∧ vs[t - k]? = some v := by
  induction vs with
  | nil => intro k t v h; simp [frame0, lk] at h
  | cons u vs ih =>
    intro k t v h
    simp only [frame0, lk] at h
    by_cases e : t = k
    · subst e; simp at h; subst h; simp
    · rw [beq_ne e] at h
      obtain ⟨h1, h2⟩ := ih (k + 1) t v h
      refine ⟨by omega, ?_⟩
      have : t - k = (t - (k + 1)) + 1 := by omega
      rw [this, List.getElem?_cons_succ]; exact h2

theorem Meets.of {A : Type} {ret : A → Value} {MO LO : A → List Fact → List Fact} {f : FuncId} {fn : Func} {code : Code} {vs : List Value} {m : Nat}
    (hf : P.funcs[f]? = some fn) (hb : fn.body = some code) (hn : fn.ntmps = m) (hm : Nat.ble vs.length m = true)
    (h : ∀ c : Ctx, J c ⟨m, []⟩ (frame0 0 vs) [] L (code.wpr none P (bodyPost P fn (Post c ret MO LO)))) : Meets P f vs.toArray L ret MO LO := fun w0 S0 hL => by
  have hle : vs.length ≤ m := by simpa using hm
  refine calls_of_wpr hf hb (h ⟨w0, S0, fun _ => False⟩ _ _ ⟨rfl, by simp [hn, hle], ?_⟩ ⟨Kept.refl _, fun _ _ => False, ⟨?_, ?_, ?_⟩, ?_⟩)
  · intro t v hv
    obtain ⟨_, h2⟩ := frame0_slot vs 0 t v hv
    rw [Nat.sub_zero] at h2
    have hlt : t < vs.length := by
      rcases Nat.lt_or_ge t vs.length with h' | h'
      · exact h'
      · rw [List.getElem?_eq_none h'] at h2; cases h2
    rw [Array.getElem?_append_left (by simpa using hlt)]
    simpa using h2
  · intro i m h; simp at h
  · intro i k h; exact h.elim
  · intro i j k h; exact h.elim
  · intro f hf
    exact Fact.same (hL f hf) (fun k hk => ⟨.inl hk, fun _ h => h⟩) (fun _ _ _ => rfl)

theorem J.post {A : Type} {ret : A → Value} {MO LO : A → List Fact → List Fact} {fn : Func} (x : A) (e : Exit) (he : e = .ret ∨ e = .normal)
    (hr : ∀ a w, Sub n σ a → St c M L w → (results fn a.tmps).run P w = .ok (ret x) w) (hM : SubM M (MO x [])) (hL : ∀ f ∈ LO x [], f ∈ L) (hds : n.ds = [] := by rfl) :
    J c n σ M L (bodyPost P fn (Post c ret MO LO) e) := fun a w s t =>
  body_end he (s.defers.trans hds) (hr a w s t) ⟨x, rfl, t.weak hM hL⟩

theorem J.ret1 {A : Type} {ret : A → Value} {MO LO : A → List Fact → List Fact} {fn : Func} (x : A) {r : Tmp} (hres : fn.results = #[.tmp r]) (hv : lk σ r = some (ret x))
    (hM : SubM M (MO x [])) (hL : ∀ f ∈ LO x [], f ∈ L) (hds : n.ds = [] := by rfl) : J c n σ M L (bodyPost P fn (Post c ret MO LO) .ret) :=
  J.post x .ret (.inl rfl) (fun a w s _ => by rw [results_tmp hres]; simp [s.slot r _ hv]) hM hL hds

theorem J.ret2 {A : Type} {ret : A → Value} {MO LO : A → List Fact → List Fact} {fn : Func} (x : A) {r q : Tmp} {u v : Value} (hres : fn.results = #[.tmp r, .tmp q]) (hu : lk σ r = some u) (hv : lk σ q = some v) (hx : ret x = .tuple #[u, v])
    (hM : SubM M (MO x [])) (hL : ∀ f ∈ LO x [], f ∈ L) (hds : n.ds = [] := by rfl) : J c n σ M L (bodyPost P fn (Post c ret MO LO) .ret) :=
  J.post x .ret (.inl rfl) (fun a w s _ => by rw [results_tmp2 hres, hx]; simp [s.slot r _ hu, s.slot q _ hv]) hM hL hds

theorem run_cell [Tab P] {T T' : TypeId} {s2 : Nat} {z : Value} {dT : TypeDesc} {w : World} {b : Nat} {cs : List Value} {F : Nat → Prop} (hF : (Blk b cs T').p w F)
    (hT : Tab.tab P T = some ⟨dT, cs.length, s2, z⟩) (hd : aggD dT = true) : (loadVar T ⟨b, 0, none⟩).run P w = .ok (.agg cs.toArray) w := by
  have hl := run_loadCells_list (P := P) w ⟨b, 0, none⟩ cs (fun j v hv => by rw [add_none, Nat.zero_add]; exact Blk.cell hF hv)
  simp [loadVar, (Tab.ok hT).run_agg w, hd, (Tab.ok hT).run_size w, hl]

theorem J.retC [Tab P] {A : Type} {ret : A → Value} {MO LO : A → List Fact → List Fact} {fn : Func} (x : A) (i : Nat) {r : Tmp} {T T' : TypeId} {s2 : Nat} {z : Value} {dT : TypeDesc} {b : Nat} {cs : List Value}
    (hres : fn.results = #[.cell r T]) (hr : lk σ r = some (.pointer (some ⟨b, 0, none⟩))) (hB : M[i]? = some (Blk b cs T')) (hT : Tab.tab P T = some ⟨dT, cs.length, s2, z⟩) (hd : aggD dT = true) (hx : ret x = .agg cs.toArray)
    (hM : SubM M (MO x [])) (hL : ∀ f ∈ LO x [], f ∈ L) (hds : n.ds = [] := by rfl) : J c n σ M L (bodyPost P fn (Post c ret MO LO) .ret) :=
  J.post x .ret (.inl rfl) (fun a w s t => by
    obtain ⟨F, hF⟩ := t.res hB
    simp [results, hres, hx, s.slot r _ hr, asAddr, run_cell hF hT hd]) hM hL hds

theorem J.retCT [Tab P] {A : Type} {ret : A → Value} {MO LO : A → List Fact → List Fact} {fn : Func} (x : A) (i : Nat) {r q : Tmp} {T T' : TypeId} {s2 : Nat} {z v : Value} {dT : TypeDesc} {b : Nat} {cs : List Value}
    (hres : fn.results = #[.cell r T, .tmp q]) (hr : lk σ r = some (.pointer (some ⟨b, 0, none⟩))) (hq : lk σ q = some v) (hB : M[i]? = some (Blk b cs T')) (hT : Tab.tab P T = some ⟨dT, cs.length, s2, z⟩) (hd : aggD dT = true) (hx : ret x = .tuple #[.agg cs.toArray, v])
    (hM : SubM M (MO x [])) (hL : ∀ f ∈ LO x [], f ∈ L) (hds : n.ds = [] := by rfl) : J c n σ M L (bodyPost P fn (Post c ret MO LO) .ret) :=
  J.post x .ret (.inl rfl) (fun a w s t => by
    obtain ⟨F, hF⟩ := t.res hB
    simp [results, hres, hx, s.slot r _ hr, asAddr, run_cell hF hT hd, s.slot q _ hq]) hM hL hds
end
end Go.Sx
