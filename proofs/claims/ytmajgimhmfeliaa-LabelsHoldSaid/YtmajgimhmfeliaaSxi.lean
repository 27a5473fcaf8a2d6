/- The layer Sx, part 9: loud operations as facts; rows of slices; handing over what was made. Conditions: a table of types that is right for the program. -/
import Derived.Test.YtmajgimhmfeliaaSxh
set_option linter.unusedVariables false
set_option linter.unusedSimpArgs false
namespace Go.Sx
open Go.RowKit

section
variable {P : Program} {rd : Option Nat} {c : Ctx} {n : Sz} {σ : Fr} {M L : List Fact} {Q : Exit → Act → World → Prop} {ops : Array Oper} {rest : List Oper}
variable {d : Option Tmp} {D : Nat} {ty : TypeId} {pos : String} {aft : Array Edge} {g : Option (Nat × Bool)}
variable {α : Type} {e : Enc α}

theorem Loud.alloc [Tab P] {T : TypeId} {dT : Ty} {cs : List Value} (hT : Tab.tab P T = some dT) (hz : dT.zero.cells = cs.toArray) :
    Loud P c n σ M L ⟨d, .alloc T, ty, pos, aft, g⟩ (fun b : Nat => .pointer (some ⟨b, 0, none⟩)) (fun b => Blk b cs T :: M) (fun _ => L) := fun a w s t => by
  have hrun : (execOp a.eval ⟨d, .alloc T, ty, pos, aft, g⟩).run P w = .ok (.value (.pointer (some ⟨w.heap.size, 0, none⟩))) (w.alloc (.cells cs.toArray T)) := by
    simp [execOp, run_alloc w (Tab.ok hT), hz]
  simp only [Oper.wp, hrun, Oper.upon]
  exact ⟨w.heap.size, rfl, t.alloc cs T⟩

theorem Loud.box {T : TypeId} {x : Operand} {v : Value} {cs : List Value} (hx : ev σ x = some v) (hz : v.cells = cs.toArray) :
    Loud P c n σ M L ⟨d, .box T x, ty, pos, aft, g⟩ (fun b : Nat => .pointer (some ⟨b, 0, none⟩)) (fun b => Blk b cs T :: M) (fun _ => L) := fun a w s t => by
  have hrun : (execOp a.eval ⟨d, .box T x, ty, pos, aft, g⟩).run P w = .ok (.value (.pointer (some ⟨w.heap.size, 0, none⟩))) (w.alloc (.cells cs.toArray T)) := by
    simp [execOp, s.eval hx, Instr.box, newVar, newRow, hz]
  simp only [Oper.wp, hrun, Oper.upon]
  exact ⟨w.heap.size, rfl, t.alloc cs T⟩

theorem Loud.call {A : Type} {ret : A → Value} {MO LO : A → List Fact → List Fact} {f : FuncId} {xs : List Operand} {vs : List Value} {ats : Array TypeId} {L0 : List Fact} (hb : HasBody P f)
    (hs : Meets P f vs.toArray L0 ret MO LO) (hx : xs.map (ev σ) = vs.map some) (hL : SubL L L0) (hMO : ∀ x l, MO x l = MO x [] ++ l) (hLO : ∀ x l, LO x l = LO x [] ++ l) :
    Loud P c n σ M L ⟨d, .call ⟨.value (.func f), xs.toArray, ats⟩, ty, pos, aft, g⟩ ret (fun x => MO x M) (fun x => LO x L) := fun a w s t => by
  have hrun : (execOp a.eval ⟨d, .call ⟨.value (.func f), xs.toArray, ats⟩, ty, pos, aft, g⟩).run P w = .ok (.enter f vs.toArray) w := by
    have e := evs s hx
    simp [execOp, resolve, Act.eval, Deferred.ofValue, invoke, hb _ w, e]
  simp only [Oper.wp, hrun, Oper.upon]
  obtain ⟨ho, F, hF, hLF⟩ := t
  refine (hs w (Free c F) (fun f hf => hLF f (hL f hf))).mono ?_
  rintro e w' ⟨x, rfl, ht⟩
  refine ⟨x, rfl, ?_⟩
  rw [hMO, hLO]
  exact St.call ho hF hLF ht

/-- a call of a function value -/
theorem Loud.callV {A : Type} {ret : A → Value} {MO LO : A → List Fact → List Fact} {f : FuncId} {t : Tmp} {xs : List Operand} {vs cs : List Value} {ats : Array TypeId} {L0 : List Fact} (hb : HasBody P f)
    (ht : lk σ t = some (.func (.func f) #[] cs.toArray)) (hs : Meets P f (vs ++ cs).toArray L0 ret MO LO) (hx : xs.map (ev σ) = vs.map some) (hL : SubL L L0) (hMO : ∀ x l, MO x l = MO x [] ++ l) (hLO : ∀ x l, LO x l = LO x [] ++ l) :
    Loud P c n σ M L ⟨d, .call ⟨.value (.tmp t), xs.toArray, ats⟩, ty, pos, aft, g⟩ ret (fun x => MO x M) (fun x => LO x L) := fun a w s t' => by
  have hrun : (execOp a.eval ⟨d, .call ⟨.value (.tmp t), xs.toArray, ats⟩, ty, pos, aft, g⟩).run P w = .ok (.enter f (vs ++ cs).toArray) w := by
    have e := evs s hx
    have e2 : a.eval (.tmp t) = .func (.func f) #[] cs.toArray := s.eval (x := .tmp t) ht
    simp [execOp, resolve, e2, Deferred.ofValue, invoke, hb _ w, e]
  simp only [Oper.wp, hrun, Oper.upon]
  obtain ⟨ho, F, hF, hLF⟩ := t'
  refine (hs w (Free c F) (fun f hf => hLF f (hL f hf))).mono ?_
  rintro e w' ⟨x, rfl, ht⟩
  refine ⟨x, rfl, ?_⟩
  rw [hMO, hLO]
  exact St.call ho hF hLF ht

theorem run_appendOp [Tab P] {x y : Operand} {T : TypeId} {vx vy : Value} {a : Act} (s : Sub n σ a) (hx : ev σ x = some vx) (hy : ev σ y = some vy) (w : World) :
    (execOp a.eval ⟨d, .call ⟨.builtin .append, #[x, y], #[T, T]⟩, ty, pos, aft, g⟩).run P w = ((Builtin.append_ #[T, T] ty #[vx, vy]).run P w).andThen fun v w' => .ok (.value v) w' := by
  simp [execOp, resolve, invoke, builtin, s.eval hx, s.eval hy]

/-- append to a slice of the call's own; what is appended is the call's own too -/
theorem Loud.append [Tab P] (i j : Nat) {x y : Operand} {v u : Value} {xs ys : List α} {T E : TypeId} {s1 s2 s3 s4 : Nat} {z z' : Value} {dE : TypeDesc} (hx : ev σ x = some v) (hy : ev σ y = some u) (hf : M[i]? = some (Ar e v xs)) (hg : M[j]? = some (Ar e u ys))
    (hT : Tab.tab P T = some ⟨.slice E, s1, s2, z⟩) (hE : Tab.tab P E = some ⟨dE, s3, s4, z'⟩) (h3 : e.sz = s3) (hb : (xs.length + ys.length) * s4 ≤ 140737488355328) (hl : xs.length + ys.length ≤ 140737488355328) (hz : z'.cells.size = s3) :
    Loud P c n σ M L ⟨d, .call ⟨.builtin .append, #[x, y], #[T, T]⟩, ty, pos, aft, g⟩ (fun v' : Value => v') (fun v' => M.set i (Ar e v' (xs ++ ys))) (fun _ => L) := fun a w s t => by
  subst h3
  obtain ⟨F, hF⟩ := t.res hg
  obtain ⟨v', w', hr, ht⟩ := t.append (ty := ty) hf (ArR.src hF hT) hF.2.1 hT hE hb hl hz
  simp only [Oper.wp, run_appendOp s hx hy w, hr, Result.andThen_ok, Oper.upon]
  exact ⟨v', rfl, ht⟩

/-! ## Slices that are read: as a source -/
theorem SlR.src [Tab P] {β : Type} {r : Rep β} {w : World} {S : Nat → Prop} {v : Value} {xs : List β} {T E : TypeId} {s1 s2 : Nat} {z : Value} (h : SlR r w S v xs) (hT : Tab.tab P T = some ⟨.slice E, s1, s2, z⟩) (hr : ∀ {w S es x}, r.R w S es x → es.all one = true) :
    ∃ cs, Src P r.sz T v xs.length cs w ∧ cs.all one = true ∧ cs.length = xs.length * r.sz ∧ ∀ i x, xs[i]? = some x → ∃ es, r.R w S es x ∧ ∀ j u, es[j]? = some u → cs[i * r.sz + j]? = some u := by
  obtain ⟨a, cap, rfl, hlen, h⟩ := h
  rcases h with rfl | ⟨b, off, rfl, _, h⟩
  · cases a with
    | none =>
      refine ⟨[], ?_, rfl, by simp, fun i x hx => by simp at hx⟩
      exact Src.ofNil w (Tab.ok hT).und cap
    | some a =>
      refine ⟨[], ?_, rfl, by simp, fun i x hx => by simp at hx⟩
      exact Src.ofSlice w (Tab.ok hT).und a 0 cap [] (by simp) (fun j u hu => by simp at hu) (fun u hu => by simp at hu)
  · -- the cells, one after the other
    have key : ∀ (ys : List β) (k : Nat), (∀ i x, ys[i]? = some x → ∃ es, (∀ j e, es[j]? = some e → w.cell? ⟨b, off + ((k + i) * r.sz + j), none⟩ = some e) ∧ r.R w S es x) →
        ∃ cs : List Value, cs.all one = true ∧ cs.length = ys.length * r.sz ∧ (∀ j u, cs[j]? = some u → w.cell? ⟨b, off + (k * r.sz + j), none⟩ = some u) ∧ ∀ i x, ys[i]? = some x → ∃ es, r.R w S es x ∧ ∀ j u, es[j]? = some u → cs[i * r.sz + j]? = some u := by
      intro ys
      induction ys with
      | nil => intro k _; exact ⟨[], rfl, by simp, fun j u hu => by simp at hu, fun i x hx => by simp at hx⟩
      | cons y ys ih =>
        intro k hk
        obtain ⟨es, hes, hre⟩ := hk 0 y rfl
        obtain ⟨cs, h1, h2, h3, h4⟩ := ih (k + 1) (fun i x hx => by
          obtain ⟨es', hes', hre'⟩ := hk (i + 1) x (by simpa using hx)
          refine ⟨es', fun j u hu => ?_, hre'⟩
          have := hes' j u hu
          rwa [show k + (i + 1) = k + 1 + i from by omega] at this)
        have hl := r.len hre
        refine ⟨es ++ cs, by rw [List.all_append, hr hre, h1]; rfl, by rw [List.length_append, h2, hl, List.length_cons, Nat.add_mul]; omega, ?_, ?_⟩
        · intro j u hu
          by_cases hj : j < es.length
          · rw [List.getElem?_append_left hj] at hu
            have := hes j u hu
            rwa [Nat.add_zero] at this
          · rw [List.getElem?_append_right (by omega)] at hu
            have := h3 _ u hu
            rw [Nat.add_mul, hl] at this
            rwa [show off + (k * r.sz + 1 * r.sz + (j - r.sz)) = off + (k * r.sz + j) from by omega] at this
        · intro i x hx
          cases i with
          | zero =>
            simp at hx; subst hx
            refine ⟨es, hre, fun j u hu => ?_⟩
            rw [List.getElem?_append_left (by have := getElem?_lt hu; omega)]
            simpa using hu
          | succ i =>
            obtain ⟨es', hre', h5⟩ := h4 i x (by simpa using hx)
            refine ⟨es', hre', fun j u hu => ?_⟩
            rw [List.getElem?_append_right (by rw [hl, Nat.add_mul]; omega), hl]
            rw [show (i + 1) * r.sz + j - r.sz = i * r.sz + j from by rw [Nat.add_mul]; omega]
            exact h5 j u hu
    obtain ⟨cs, h1, h2, h3, h4⟩ := key xs 0 (fun i x hx => by
      obtain ⟨es, hes, hre⟩ := h i x hx
      exact ⟨es, fun j u hu => by rw [Nat.zero_add]; exact hes j u hu, hre⟩)
    refine ⟨cs, ?_, h1, h2, h4⟩
    refine Src.ofSlice w (Tab.ok hT).und _ _ _ _ h2 (fun j u hu => ?_) (fun u hu => one_oneCell (List.all_eq_true.1 h1 u hu))
    rw [add_none]
    have := h3 j u hu
    rwa [Nat.zero_mul, Nat.zero_add] at this

/-- r represents x by the cells that e gives -/
def Enc.Fits (e : Enc α) (r : Rep α) : Prop := r.sz = e.sz ∧ (∀ {w S es x}, r.R w S es x → es = e.enc x) ∧ (∀ {w S x}, r.R w S (e.enc x) x) ∧ ∀ x, (e.enc x).all one = true

theorem Enc.int_fits (k : IntKind) : (Enc.int k).Fits (Rep.int k) := ⟨rfl, fun h => h, rfl, fun _ => rfl⟩
theorem Enc.bool_fits : Enc.bool.Fits Rep.bool := ⟨rfl, fun h => h, rfl, fun _ => rfl⟩
theorem Enc.link_fits : Enc.link.Fits linkRep := ⟨rfl, fun h => by
  obtain ⟨c1, c2, rfl, h1, h2⟩ := h
  have e1 : c1 = _ := h1
  have e2 : c2 = _ := h2
  rw [e1, e2]; rfl, ⟨_, _, rfl, rfl, rfl⟩, fun _ => rfl⟩

theorem cellsOf_ext {cs : List Value} {xs : List α} (hl : cs.length = xs.length * e.sz) (h : ∀ i x, xs[i]? = some x → ∀ j u, (e.enc x)[j]? = some u → cs[i * e.sz + j]? = some u) : cs = cellsOf e xs := by
  apply List.ext_getElem?
  intro k
  by_cases hk : k < xs.length * e.sz
  · have hpos := e.pos
    have hi : k / e.sz < xs.length := Nat.div_lt_of_lt_mul (by rw [Nat.mul_comm]; exact hk)
    have hm : k % e.sz < e.sz := Nat.mod_lt _ hpos
    have hx : xs[k / e.sz]? = some (xs[k / e.sz]) := List.getElem?_eq_getElem hi
    have hlen := e.len xs[k / e.sz]
    have hu : (e.enc xs[k / e.sz])[k % e.sz]? = some ((e.enc xs[k / e.sz])[k % e.sz]'(by omega)) := List.getElem?_eq_getElem _
    have ek : k / e.sz * e.sz + k % e.sz = k := by rw [Nat.mul_comm]; exact Nat.div_add_mod k e.sz
    have h1 := h _ _ hx _ _ hu
    have h2 := cellsOf_get e xs _ _ hx _ _ hu
    rw [ek] at h1 h2
    rw [h1, h2]
  · rw [List.getElem?_eq_none (by omega), List.getElem?_eq_none (by rw [cellsOf_length]; omega)]

theorem SlR.srcE [Tab P] {r : Rep α} (hfit : e.Fits r) {w : World} {S : Nat → Prop} {v : Value} {xs : List α} {T E : TypeId} {s1 s2 : Nat} {z : Value} (h : SlR r w S v xs) (hT : Tab.tab P T = some ⟨.slice E, s1, s2, z⟩) :
    Src P e.sz T v xs.length (cellsOf e xs) w ∧ (cellsOf e xs).all one = true := by
  obtain ⟨hsz, h1, _, h3⟩ := hfit
  obtain ⟨cs, hs, ho, hl, hc⟩ := SlR.src h hT (fun {w S es x} hr => by rw [h1 hr]; exact h3 x)
  have : cs = cellsOf e xs := cellsOf_ext (by rw [hl, hsz]) (fun i x hx j u hu => by
    obtain ⟨es, hre, he⟩ := hc i x hx
    rw [← hsz]
    exact he j u (by rw [h1 hre]; exact hu))
  subst this
  rw [← hsz]
  exact ⟨hs, ho⟩

/-- append to a slice of the call's own; what is appended is only read -/
theorem Loud.appendSl [Tab P] (i : Nat) {r : Rep α} (hfit : e.Fits r) {x y : Operand} {v u : Value} {xs ys : List α} {T E : TypeId} {s1 s2 s3 s4 : Nat} {z z' : Value} {dE : TypeDesc} (hx : ev σ x = some v) (hy : ev σ y = some u) (hf : M[i]? = some (Ar e v xs)) (hg : Sl r u ys ∈ L)
    (hT : Tab.tab P T = some ⟨.slice E, s1, s2, z⟩) (hE : Tab.tab P E = some ⟨dE, s3, s4, z'⟩) (h3 : e.sz = s3) (hb : (xs.length + ys.length) * s4 ≤ 140737488355328) (hl : xs.length + ys.length ≤ 140737488355328) (hz : z'.cells.size = s3) :
    Loud P c n σ M L ⟨d, .call ⟨.builtin .append, #[x, y], #[T, T]⟩, ty, pos, aft, g⟩ (fun v' : Value => v') (fun v' => M.set i (Ar e v' (xs ++ ys))) (fun _ => L) := fun a w s t => by
  subst h3
  obtain ⟨F, hF⟩ := t.fact hg
  obtain ⟨hs, h1⟩ := SlR.srcE hfit hF hT
  obtain ⟨v', w', hr, ht⟩ := t.append (ty := ty) hf hs h1 hT hE hb hl hz
  simp only [Oper.wp, run_appendOp s hx hy w, hr, Result.andThen_ok, Oper.upon]
  exact ⟨v', rfl, ht⟩

/-- the nil slice is the call's own -/
theorem J.nilAr (e : Enc α) {G : Act → World → Prop} (h : J c n σ (Ar e (.slice none 0 0) [] :: M) L G) : J c n σ M L G := fun a w s t => h a w s (by
  obtain ⟨ho, F, hF, hL⟩ := t
  refine ⟨ho, fun i k => match i with | 0 => False | i + 1 => F i k, ⟨?_, ?_, ?_⟩, fun f hf => Fact.same (hL f hf) (fun k hk => ⟨hk.1, fun i hi => by
      cases i with
      | zero => exact hi
      | succ i => exact hk.2 i hi⟩) (fun _ _ _ => rfl)⟩
  · intro i m hm
    cases i with
    | zero => simp at hm; subst hm; exact ⟨by simp, rfl, .inl ⟨rfl, rfl⟩⟩
    | succ i => exact hF.res i m (by simpa using hm)
  · intro i k hk
    cases i with
    | zero => exact hk.elim
    | succ i => exact hF.rng i k hk
  · intro i j k hi hj
    cases i with
    | zero => exact hi.elim
    | succ i =>
      cases j with
      | zero => exact hj.elim
      | succ j => exact congrArg (· + 1) (hF.dis i j k hi hj))

/-- what was the call's own is only read from now on -/
theorem St.give {w : World} (t : St c M L w) {i : Nat} {m : Fact} (hi : M[i]? = some m) {f : Fact} (hf : ∀ {w F}, m.p w F → f.p w F) : St c (M.eraseIdx i) (f :: L) w := by
  obtain ⟨ho, F, hF, hL⟩ := t
  have hlt := getElem?_lt hi
  let up : Nat → Nat := fun j => if j < i then j else j + 1
  refine ⟨ho, fun j k => j < (M.eraseIdx i).length ∧ F (up j) k, ⟨?_, fun j k hk => hF.rng _ k hk.2, ?_⟩, fun f' hf' => ?_⟩
  · intro j m' hm
    have hj := getElem?_lt hm
    rw [List.getElem?_eraseIdx] at hm
    refine Fact.same (hF.res (up j) m' ?_) (fun k hk => ⟨hj, hk⟩) (fun _ _ _ => rfl)
    simp only [up]
    split
    · rename_i h'; rwa [if_pos h'] at hm
    · rename_i h'; rwa [if_neg h'] at hm
  · intro j1 j2 k h1 h2
    have := hF.dis _ _ k h1.2 h2.2
    simp only [up] at this
    split at this <;> split at this <;> omega
  · rcases List.mem_cons.1 hf' with rfl | hf'
    · refine Fact.same (hf (hF.res i m hi)) (fun k hk => ⟨.inr (hF.rng i k hk).1, fun j hj => ?_⟩) (fun _ _ _ => rfl)
      have := hF.dis _ _ k hj.2 hk
      simp only [up] at this
      split at this <;> omega
    · exact Fact.same (hL f' hf') (fun k hk => ⟨hk.1, fun j hj => hk.2 _ hj.2⟩) (fun _ _ _ => rfl)

theorem ArR.sl {r : Rep α} (hfit : e.Fits r) {w : World} {F : Nat → Prop} {v : Value} {xs : List α} (h : ArR e w F v xs) : SlR r w F v xs := by
  obtain ⟨hsz, _, h2, _⟩ := hfit
  have h' := h
  obtain ⟨hl, _, hh⟩ := h
  rcases hh with ⟨rfl, rfl⟩ | ⟨b, off, cap, T, cur, rfl, hF, hb, hk, hc, ht⟩
  · exact ⟨none, 0, rfl, by simp, .inl rfl⟩
  · refine ⟨_, cap, rfl, by omega, .inr ⟨b, off, rfl, hF, fun i x hx => ⟨e.enc x, fun j u hu => ?_, h2⟩⟩⟩
    have := ArR.cell h' hx hu
    simp only [elA, add_none] at this
    rw [hsz]
    exact this

theorem J.give (i : Nat) {r : Rep α} {v : Value} {xs : List α} {G : Act → World → Prop} (hi : M[i]? = some (Ar e v xs)) (hfit : e.Fits r) (h : J c n σ (M.eraseIdx i) (Sl r v xs :: L) G) : J c n σ M L G :=
  fun a w s t => h a w s (t.give hi (fun h => ArR.sl hfit h))

/-! ## Rws: slices of the call's own in a slice of the call's own -/
def Rws {α : Type} (e : Enc α) (vs : List Value) (xss : List (List α)) : Fact where
  p w F := vs.length = xss.length ∧ ∃ G : Nat → Nat → Prop, (∀ i v xs, vs[i]? = some v → xss[i]? = some xs → ArR e w (G i) v xs) ∧ (∀ i k, G i k → F k) ∧ ∀ i j k, G i k → G j k → i = j
  mono := by
    rintro w w' S S' ⟨hl, G, h1, h2, h3⟩ hs
    refine ⟨hl, fun i k => G i k ∧ k < w.heap.size, fun i v xs hv hx => (Ar e v xs).mono (h1 i v xs hv hx) (fun k hk hlt => ⟨⟨hk, hlt⟩, (hs k (h2 i k hk) hlt).2⟩), fun i k hk => (hs k (h2 i k hk.1) hk.2).1, fun i j k hi hj => h3 i j k hi.1 hj.1⟩

theorem J.rowsNew (e : Enc α) (k : Nat) {G : Act → World → Prop} (h : J c n σ (Rws e (List.replicate k (.slice none 0 0)) (List.replicate k []) :: M) L G) : J c n σ M L G := fun a w s t => h a w s (by
  obtain ⟨ho, F, hF, hL⟩ := t
  refine ⟨ho, fun i k => match i with | 0 => False | i + 1 => F i k, ⟨?_, ?_, ?_⟩, fun f hf => Fact.same (hL f hf) (fun k hk => ⟨hk.1, fun i hi => by
      cases i with
      | zero => exact hi
      | succ i => exact hk.2 i hi⟩) (fun _ _ _ => rfl)⟩
  · intro i m hm
    cases i with
    | zero =>
      simp at hm; subst hm
      refine ⟨by simp, fun _ _ => False, fun i v xs hv hx => ?_, fun _ _ h => h, fun _ _ _ h => h.elim⟩
      rw [List.getElem?_replicate] at hv hx
      split at hv
      · split at hx
        · cases hv; cases hx
          exact ⟨by simp, rfl, .inl ⟨rfl, rfl⟩⟩
        · omega
      · cases hv
    | succ i => exact hF.res i m (by simpa using hm)
  · intro i k hk
    cases i with
    | zero => exact hk.elim
    | succ i => exact hF.rng i k hk
  · intro i j k hi hj
    cases i with
    | zero => exact hi.elim
    | succ i =>
      cases j with
      | zero => exact hj.elim
      | succ j => exact congrArg (· + 1) (hF.dis i j k hi hj))

theorem Rws.row {w : World} {F : Nat → Prop} {vs : List Value} {xss : List (List α)} (h : (Rws e vs xss).p w F) {k : Int} (h0 : 0 ≤ k) (h1 : k < vs.length) : ∃ F', ArR e w F' (at' vs k) (at' xss k) := by
  obtain ⟨hl, G, h1', _, _⟩ := h
  exact ⟨_, h1' k.toNat _ _ (at'_some h0 h1) (at'_some h0 (by omega))⟩

/-- append to a row -/
theorem Loud.appendRow [Tab P] (i j : Nat) {x y : Operand} {u : Value} {k : Int} {vs : List Value} {xss : List (List α)} {ys : List α} {T E : TypeId} {s1 s2 s3 s4 : Nat} {z z' : Value} {dE : TypeDesc} (hx : ev σ x = some (at' vs k)) (hy : ev σ y = some u) (hf : M[i]? = some (Rws e vs xss)) (hg : M[j]? = some (Ar e u ys))
    (hT : Tab.tab P T = some ⟨.slice E, s1, s2, z⟩) (hE : Tab.tab P E = some ⟨dE, s3, s4, z'⟩) (h3 : e.sz = s3) (h0 : 0 ≤ k) (h1 : k < vs.length) (hb : ((at' xss k).length + ys.length) * s4 ≤ 140737488355328) (hl : (at' xss k).length + ys.length ≤ 140737488355328) (hz : z'.cells.size = s3) :
    Loud P c n σ M L ⟨d, .call ⟨.builtin .append, #[x, y], #[T, T]⟩, ty, pos, aft, g⟩ (fun v' : Value => v') (fun v' => M.set i (Rws e (vs.set k.toNat v') (xss.set k.toNat (at' xss k ++ ys)))) (fun _ => L) := fun a w s t => by
  subst h3
  obtain ⟨F, hF⟩ := t.res hg
  have hsrc := ArR.src hF hT
  have hone := hF.2.1
  have t0 := t
  obtain ⟨ho, FF, hO, hLL⟩ := t0
  have hR := hO.res i _ hf
  obtain ⟨hlen, G, g1, g2, g3⟩ := hR
  have hkl : k.toNat < vs.length := by omega
  have hrow := g1 k.toNat _ _ (at'_some h0 h1) (at'_some h0 (by omega))
  obtain ⟨v', w', F', hr, hA, hG⟩ := ArR.append (ty := ty) hrow hsrc hone hT hE hb hl hz
  simp only [Oper.wp, run_appendOp s hx hy w, hr, Result.andThen_ok, Oper.upon]
  refine ⟨v', rfl, ?_⟩
  refine St.updF ho hO hLL hf hG.os hG.tape hG.out hG.size (fun q hq hn => hG.same q hq (fun h => hn (g2 _ q h))) (F' := fun q => (F' q) ∨ ∃ j', j' ≠ k.toNat ∧ G j' q) ?_ ?_
  · refine ⟨by simp [hlen], fun j' q => (j' = k.toNat ∧ F' q) ∨ (j' ≠ k.toNat ∧ G j' q ∧ q < w.heap.size), ?_, ?_, ?_⟩
    · intro j' v2 xs2 hv2 hx2
      by_cases ej : j' = k.toNat
      · subst ej
        rw [List.getElem?_set_self hkl] at hv2
        rw [List.getElem?_set_self (by omega)] at hx2
        cases hv2; cases hx2
        exact Fact.same (f := Ar e v' (at' xss k ++ ys)) hA (fun q hq => .inl ⟨rfl, hq⟩) (fun _ _ _ => rfl)
      · rw [List.getElem?_set_ne (Ne.symm ej)] at hv2 hx2
        exact (Ar e v2 xs2).mono (g1 j' v2 xs2 hv2 hx2) (fun q hq hlt => ⟨.inr ⟨ej, hq, hlt⟩, hG.same q hlt (fun h => ej (g3 _ _ q hq h))⟩)
    · rintro j' q (⟨_, hq⟩ | ⟨hne, hq, _⟩)
      · exact .inl hq
      · exact .inr ⟨j', hne, hq⟩
    · rintro j1 j2 q (⟨e1, q1⟩ | ⟨e1, q1, l1⟩) (⟨e2, q2⟩ | ⟨e2, q2, l2⟩)
      · rw [e1, e2]
      · rcases hG.sub q q1 with h | ⟨h, _⟩
        · exact absurd (g3 _ _ q q2 h) e2
        · omega
      · rcases hG.sub q q2 with h | ⟨h, _⟩
        · exact absurd (g3 _ _ q q1 h) e1
        · omega
      · exact g3 _ _ q q1 q2
  · rintro q (hq | ⟨j', _, hq⟩)
    · rcases hG.sub q hq with h | h
      · exact .inl (g2 _ q h)
      · exact .inr h
    · exact .inl (g2 _ q hq)

/-- two resources become one -/
theorem St.merge {w : World} (t : St c M L w) (i j : Nat) {m1 m2 m' : Fact} (hij : i ≠ j) (hf : M[i]? = some m1) (hg : M[j]? = some m2)
    (hm : ∀ {w F1 F2}, m1.p w F1 → m2.p w F2 → (∀ k, F1 k → ¬ F2 k) → m'.p w (fun k => F1 k ∨ F2 k)) : St c ((M.set i m').eraseIdx j) L w := by
  obtain ⟨ho, F, hO, hL⟩ := t
  have hi := getElem?_lt hf
  have hj := getElem?_lt hg
  have hA := hm (hO.res i _ hf) (hO.res j _ hg) (fun k h1 h2 => hij (hO.dis _ _ k h1 h2))
  let up : Nat → Nat := fun q => if q < j then q else q + 1
  refine ⟨ho, fun q b => q + 1 < M.length ∧ (F (up q) b ∨ (up q = i ∧ F j b)), ⟨?_, ?_, ?_⟩, fun f hf' => ?_⟩
  · intro q m hm
    have hq := getElem?_lt hm
    rw [List.length_eraseIdx_of_lt (by simpa using hj), List.length_set] at hq
    have hq' : q + 1 < M.length := by omega
    have hm' : (M.set i m')[up q]? = some m := by
      rw [List.getElem?_eraseIdx] at hm
      simp only [up]
      split
      · rename_i h'; rwa [if_pos h'] at hm
      · rename_i h'; rwa [if_neg h'] at hm
    by_cases eq : up q = i
    · rw [eq, List.getElem?_set_self hi] at hm'
      cases hm'
      refine Fact.same hA (fun b hb => ⟨hq', ?_⟩) (fun _ _ _ => rfl)
      rcases hb with hb | hb
      · exact .inl (by rw [eq]; exact hb)
      · exact .inr ⟨eq, hb⟩
    · rw [List.getElem?_set_ne (Ne.symm eq)] at hm'
      exact Fact.same (hO.res (up q) m hm') (fun b hb => ⟨hq', .inl hb⟩) (fun _ _ _ => rfl)
  · rintro q b ⟨_, hb | ⟨_, hb⟩⟩
    · exact hO.rng _ b hb
    · exact hO.rng _ b hb
  · have upj : ∀ q, up q ≠ j := by intro q; simp only [up]; split <;> omega
    have upi : ∀ q r, up q = up r → q = r := by intro q r; simp only [up]; split <;> split <;> omega
    rintro q r b ⟨_, hb | ⟨e1, hb⟩⟩ ⟨_, hb' | ⟨e2, hb'⟩⟩
    · exact upi _ _ (hO.dis _ _ b hb hb')
    · exact absurd (hO.dis _ _ b hb hb') (upj q)
    · exact absurd (hO.dis _ _ b hb' hb) (upj r)
    · exact upi _ _ (e1.trans e2.symm)
  · exact Fact.same (hL f hf') (fun b hb => ⟨hb.1, by
      rintro q ⟨_, h | ⟨_, h⟩⟩
      · exact hb.2 _ h
      · exact hb.2 _ h⟩) (fun _ _ _ => rfl)

/-- a whole slice of the call's own becomes a row -/
theorem J.putRow (i j : Nat) {u : Value} {k : Int} {vs : List Value} {xss : List (List α)} {ys : List α} {G : Act → World → Prop} (hij : Nat.beq i j = false) (hf : M[i]? = some (Rws e vs xss)) (hg : M[j]? = some (Ar e u ys)) (h0 : 0 ≤ k) (h1 : k < vs.length)
    (h : J c n σ ((M.set i (Rws e (vs.set k.toNat u) (xss.set k.toNat ys))).eraseIdx j) L G) : J c n σ M L G := fun a w s t =>
  h a w s (t.merge i j (fun e => by subst e; simp at hij) hf hg (by
    rintro w F1 F2 ⟨hlen, G, g1, g2, g3⟩ hA hd
    have hkl : k.toNat < vs.length := by omega
    refine ⟨by simp [hlen], fun r b => (r = k.toNat ∧ F2 b) ∨ (r ≠ k.toNat ∧ G r b), ?_, ?_, ?_⟩
    · intro r v2 xs2 hv2 hx2
      by_cases er : r = k.toNat
      · subst er
        rw [List.getElem?_set_self hkl] at hv2
        rw [List.getElem?_set_self (by omega)] at hx2
        cases hv2; cases hx2
        exact Fact.same (f := Ar e u ys) hA (fun b hb => .inl ⟨rfl, hb⟩) (fun _ _ _ => rfl)
      · rw [List.getElem?_set_ne (Ne.symm er)] at hv2 hx2
        exact Fact.same (f := Ar e v2 xs2) (g1 r v2 xs2 hv2 hx2) (fun b hb => .inr ⟨er, hb⟩) (fun _ _ _ => rfl)
    · rintro r b (⟨_, hb⟩ | ⟨_, hb⟩)
      · exact .inr hb
      · exact .inl (g2 r b hb)
    · rintro r1 r2 b (⟨e1, b1⟩ | ⟨e1, b1⟩) (⟨e2, b2⟩ | ⟨e2, b2⟩)
      · rw [e1, e2]
      · exact absurd b1 (hd b (g2 _ b b2))
      · exact absurd b2 (hd b (g2 _ b b1))
      · exact g3 _ _ b b1 b2))

theorem rows_sl {r : Rep α} (hfit : e.Fits r) {v : Value} {vs : List Value} {xss : List (List α)} {w : World} {F1 F2 : Nat → Prop} (hA : (Ar Enc.raw v vs).p w F1) (hR : (Rws e vs xss).p w F2) : SlR (Rep.sl r) w (fun k => F1 k ∨ F2 k) v (vs.zip xss) := by
  obtain ⟨hlen, G, g1, g2, _⟩ := hR
  have hz : (vs.zip xss).length = vs.length := by simp [hlen]
  have hA' := hA
  obtain ⟨hl, _, hh⟩ := hA
  rcases hh with ⟨rfl, rfl⟩ | ⟨b, off, cap, T, cur, rfl, hFb, hb, hk, hc, ht⟩
  · exact ⟨none, 0, rfl, by simp, .inl rfl⟩
  · refine ⟨_, cap, by rw [hz], by rw [hz]; omega, .inr ⟨b, off, rfl, .inl hFb, fun q x hx => ?_⟩⟩
    have hv : vs[q]? = some x.1 := by rw [List.getElem?_zip_eq_some] at hx; exact hx.1
    have hxx : xss[q]? = some x.2 := by rw [List.getElem?_zip_eq_some] at hx; exact hx.2
    refine ⟨[x.1], fun jj u hu => ?_, rfl, ?_⟩
    · have := ArR.cell hA' hv (j := jj) (u := u) hu
      simp only [elA, add_none] at this
      exact this
    · exact (Sl r x.1 x.2).mono (ArR.sl hfit (g1 q _ _ hv hxx)) (fun k hk _ => ⟨.inr (g2 _ k hk), rfl⟩)

/-- a slice of rows is only read from now on -/
theorem J.giveRows (i j q : Nat) {r : Rep α} {v : Value} {vs : List Value} {xss : List (List α)} {G : Act → World → Prop} (hij : Nat.beq i j = false) (hi : M[i]? = some (Ar Enc.raw v vs)) (hj : M[j]? = some (Rws e vs xss)) (hfit : e.Fits r)
    (hq : ((M.set i (Sl (Rep.sl r) v (vs.zip xss))).eraseIdx j)[q]? = some (Sl (Rep.sl r) v (vs.zip xss)))
    (h : J c n σ (((M.set i (Sl (Rep.sl r) v (vs.zip xss))).eraseIdx j).eraseIdx q) (Sl (Rep.sl r) v (vs.zip xss) :: L) G) : J c n σ M L G := fun a w s t =>
  h a w s ((t.merge (m' := Sl (Rep.sl r) v (vs.zip xss)) i j (fun e => by subst e; simp at hij) hi hj (fun h1 h2 _ => rows_sl hfit h1 h2)).give hq (fun h => h))

/-- a plain proposition among the facts -/
def Pure (p : Prop) : Fact := ⟨fun _ _ => p, fun h _ => h⟩

theorem J.pure {p : Prop} {G : Act → World → Prop} (hf : Pure p ∈ L) (h : p → J c n σ M L G) : J c n σ M L G := fun a w s t => h (by obtain ⟨_, hp⟩ := t.fact hf; exact hp) a w s t

theorem J.addPure {p : Prop} {G : Act → World → Prop} (hp : p) (h : J c n σ M (Pure p :: L) G) : J c n σ M L G := fun a w s t => h a w s (by
  obtain ⟨ho, F, hF, hL⟩ := t
  refine ⟨ho, F, hF, fun f hf => ?_⟩
  rcases List.mem_cons.1 hf with rfl | hf
  · exact hp
  · exact hL f hf)

/-- the nil slice holds nothing -/
theorem J.nilSl {β : Type} (r : Rep β) {G : Act → World → Prop} (h : J c n σ M (Sl r (.slice none 0 0) [] :: L) G) : J c n σ M L G := fun a w s t => h a w s (by
  obtain ⟨ho, F, hF, hL⟩ := t
  refine ⟨ho, F, hF, fun f hf => ?_⟩
  rcases List.mem_cons.1 hf with rfl | hf
  · exact ⟨none, 0, rfl, by simp, .inl rfl⟩
  · exact hL f hf)

/-! blocks that are only read -/
theorem J.giveBlk (i : Nat) {b : Nat} {cs : List Value} {T : TypeId} {G : Act → World → Prop} (hi : M[i]? = some (Blk b cs T)) (h : J c n σ (M.eraseIdx i) (Blk b cs T :: L) G) : J c n σ M L G :=
  fun a w s t => h a w s (t.give hi (fun h => h))

theorem Y.loadBL [Tab P] {T T' : TypeId} {s1 s2 : Nat} {z : Value} {dT : TypeDesc} {x : Operand} {b o : Nat} {cs : List Value} {v : Value} (hx : ev σ x = some (.pointer (some ⟨b, o, none⟩)))
    (hM : Blk b cs T' ∈ L) (hT : Tab.tab P T = some ⟨dT, s1, s2, z⟩) (hd : aggD dT = false) (hv : cs[o]? = some v) : Y P c n σ M L ⟨d, .load T x, ty, pos, aft, g⟩ v := fun a w s t => by
  obtain ⟨F, hF⟩ := t.fact hM
  simp [execOp, s.eval hx, run_load1 (Tab.ok hT) hd (Blk.cell hF hv)]

theorem J.oneRws (i : Nat) {vs : List Value} {xss : List (List α)} {G : Act → World → Prop} {q : Nat} {v : Value} (hf : M[i]? = some (Rws e vs xss)) (hv : vs[q]? = some v) (h : one v = true → J c n σ M L G) : J c n σ M L G := fun a w s t => h (by
  obtain ⟨S, hl, G', g1, _⟩ := t.res hf
  have hq := getElem?_lt hv
  obtain ⟨_, _, hh⟩ := g1 q v _ hv (List.getElem?_eq_getElem (by omega))
  rcases hh with ⟨rfl, _⟩ | ⟨b, off, cap, T, cur, rfl, _⟩ <;> rfl) a w s t
end
end Go.Sx
