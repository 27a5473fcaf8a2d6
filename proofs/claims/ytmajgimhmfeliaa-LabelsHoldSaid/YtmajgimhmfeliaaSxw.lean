/- The layer Sx, part 23: stores as loud operations; stores of whole elements and of their parts; places inside elements; checks for nil. Conditions: a table of types that is right for the program. -/
import Derived.Test.YtmajgimhmfeliaaSxv
set_option linter.unusedVariables false
set_option linter.unusedSimpArgs false
namespace Go.Sx
open Go.RowKit
section
variable {P : Program} {rd : Option Nat} {c : Ctx} {n : Sz} {σ σ' : Fr} {M L M' L' : List Fact} {Q : Exit → Act → World → Prop} {ops : Array Oper} {rest : List Oper} {K : Act → World → Prop} {G : Act → World → Prop}
variable {d : Option Tmp} {D : Nat} {ty : TypeId} {pos : String} {aft : Array Edge} {g : Option (Nat × Bool)}
variable {α β : Type} {e : Enc α} {r : Rep α}

/-- a store into an element of one cell -/
theorem Loud.storeA [Tab P] (j : Nat) {T : TypeId} {s2 : Nat} {z : Value} {dT : TypeDesc} {x y : Operand} {v u : Value} {i : Int} {xs : List α} (yv : α) (hx : ev σ x = some (elq v (i.toNat * 1))) (hy : ev σ y = some u) (hu : e.enc yv = [u]) (h1u : one u = true)
    (hf : M[j]? = some (Ar e v xs)) (hT : Tab.tab P T = some ⟨dT, 1, s2, z⟩) (hq : e.sz = 1) (h0 : 0 ≤ i) (h1 : i < xs.length) :
    Loud P c n σ M L ⟨none, .store T x y, ty, pos, aft, none⟩ (fun _ : Unit => undef) (fun _ => M.set j (Ar e v (xs.set i.toNat yv))) (fun _ => L) := fun a w s t => by
  obtain ⟨F, hF⟩ := t.res hf
  have hi : i.toNat < xs.length := by omega
  have hget : xs[i.toNat]? = some xs[i.toNat] := List.getElem?_eq_getElem hi
  have hne : xs ≠ [] := by intro e; subst e; simp at hi
  obtain ⟨p, hp⟩ : ∃ p, e.enc xs[i.toNat] = [p] := List.length_eq_one_iff.1 ((e.len _).trans hq)
  have hcell := ArR.cell hF hget (j := 0) (u := p) (by rw [hp]; rfl)
  rw [hq, Nat.add_zero, Nat.mul_one] at hcell
  rw [Nat.mul_one] at hx
  have hfree := ArR.free hF hne i.toNat
  have hrun : (execOp a.eval ⟨none, .store T x y, ty, pos, aft, none⟩).run P w = .ok .skip (w.setCell (elA v i.toNat) u) := by
    simp only [execOp, s.eval hx, s.eval hy, elq]
    simp [run_store1 (Tab.ok hT) rfl h1u hcell hfree]
  simp only [Oper.wp, hrun, Oper.upon]
  refine ⟨(), trivial, t.upd hf rfl rfl rfl (by simp [World.setCell]) fun F hF _ => ?_⟩
  obtain ⟨hl, h1, hh⟩ := hF
  rcases hh with ⟨_, hh⟩ | ⟨b, off, cap, T', cur, hv, hFb, hb, hk, hc, ht⟩
  · exact absurd hh hne
  · subst hv
    have ha : elA (.slice (some ⟨b, off, none⟩) xs.length cap) i.toNat = ⟨b, off + i.toNat, none⟩ := by simp [elA, add_none]
    rw [ha]
    refine ⟨fun k _ hk' => Below.heap_setCell _ _ _ _ (fun e => hk' (by simp only at e; subst e; exact hFb)), F, ⟨by simpa using hl, ?_, .inr ⟨b, off, cap, T', cur.setIfInBounds (off + i.toNat) u, by simp, hFb, ?_, by simpa using hk, by simpa using hc, ?_⟩⟩, fun _ h => .inl h⟩
    · rw [cellsOf_set1 hq hu, List.all_eq_true]
      intro q hq'
      rcases List.mem_or_eq_of_mem_set hq' with h' | h'
      · exact List.all_eq_true.1 h1 q h'
      · rw [h']; exact h1u
    · simp [World.setCell, Array.getElem?_modify, hb]
    · rw [cellsOf_set1 hq hu, ← ht, Array.toList_setIfInBounds, List.length_set, ← take_set]
      congr 1
      rw [List.drop_set, if_neg (by omega), Nat.add_sub_cancel_left]


theorem Loud.store1 [Tab P] (i : Nat) {T T' : TypeId} {s2 : Nat} {z : Value} {dT : TypeDesc} {x y : Operand} {b o : Nat} {cs : List Value} {v : Value} (hx : ev σ x = some (.pointer (some ⟨b, o, none⟩)))
    (hy : ev σ y = some v) (hv : one v = true) (hM : M[i]? = some (Blk b cs T')) (hT : Tab.tab P T = some ⟨dT, 1, s2, z⟩) (ho : Nat.blt o cs.length = true) :
    Loud P c n σ M L ⟨none, .store T x y, ty, pos, aft, none⟩ (fun _ : Unit => undef) (fun _ => M.set i (Blk b (cs.set o v) T')) (fun _ => L) := fun a w s t => by
  obtain ⟨F, hF⟩ := t.res hM
  have hlt : o < cs.length := by simpa [Nat.blt_eq] using ho
  have hrun : (execOp a.eval ⟨none, .store T x y, ty, pos, aft, none⟩).run P w = .ok .skip (w.setCell ⟨b, o, none⟩ v) := by
    simp [execOp, s.eval hx, s.eval hy, run_store1 (Tab.ok hT) rfl hv (Blk.cell hF (List.getElem?_eq_getElem hlt)) (Blk.free hF o)]
  simp only [Oper.wp, hrun, Oper.upon]
  exact ⟨(), trivial, t.store hM v⟩

theorem Loud.storeAll [Tab P] (i : Nat) {T T' : TypeId} {s2 : Nat} {z : Value} {dT : TypeDesc} {x y : Operand} {b : Nat} {cs vs : List Value} (hx : ev σ x = some (.pointer (some ⟨b, 0, none⟩)))
    (hy : ev σ y = some (.agg vs.toArray)) (hv : vs.all one = true) (hM : M[i]? = some (Blk b cs T')) (hT : Tab.tab P T = some ⟨dT, vs.length, s2, z⟩) (hl : Nat.beq vs.length cs.length = true) :
    Loud P c n σ M L ⟨none, .store T x y, ty, pos, aft, none⟩ (fun _ : Unit => undef) (fun _ => M.set i (Blk b vs T')) (fun _ => L) := fun a w s t => by
  obtain ⟨F, hF⟩ := t.res hM
  have hlen : vs.length = cs.length := Nat.eq_of_beq_eq_true hl
  have hone : ∀ v ∈ vs, v.oneCell' = true := fun v hvm => one_oneCell (by simpa using List.all_eq_true.1 hv v hvm)
  obtain ⟨iT, hiT, hsz, _, _⟩ := (Tab.ok hT).info
  have hst := run_storeVar_row (P := P) w b T' T cs.toArray vs.toArray hF.2 (by simp [hiT, hsz]) (by simp [hlen]) (by simpa using hone)
  have hrun : (execOp a.eval ⟨none, .store T x y, ty, pos, aft, none⟩).run P w = .ok .skip (w.setRow b vs.toArray) := by
    simp [execOp, s.eval hx, s.eval hy, Instr.storeAt, Instr.sureAddr, hst]
  simp only [Oper.wp, hrun, Oper.upon]
  exact ⟨(), trivial, t.fill hM⟩

theorem Loud.storeRow [Tab P] (j q : Nat) {T : TypeId} {s2 : Nat} {z : Value} {dT : TypeDesc} {x y : Operand} {v u : Value} {i : Int} {vs vs' : List Value} {xss : List (List α)} (h : 0 ≤ i ∧ i < xss.length) (hx : ev σ x = some (elq v (i.toNat * 1))) (hy : ev σ y = some u)
    (hf : M[j]? = some (Ar Enc.raw v vs)) (hr : M[q]? = some (Rws e vs' xss)) (hl : vs'.length = vs.length) (h1u : one u = true) (hT : Tab.tab P T = some ⟨dT, 1, s2, z⟩) :
    Loud P c n σ M L ⟨none, .store T x y, ty, pos, aft, none⟩ (fun _ : Unit => undef) (fun _ => M.set j (Ar Enc.raw v (vs.set i.toNat u))) (fun _ => L) := fun a w s t => by
  have hlen : vs'.length = xss.length := by obtain ⟨_, h⟩ := t.res hr; exact h.1
  exact Loud.storeA j u hx hy rfl h1u hf hT rfl h.1 (by omega) a w s t

section
variable {l : List Oper} {m : List Nat} {k0 : Nat} {H Bs : List (Nat × List Fact × List Fact)} {rs : List Nat}
/-- a loud operation without a slot, in a region that draws -/
theorem JR.loud0 {A : Type} {val : A → Value} {M' L' : A → List Fact} {i : Nat} {op : Op}
    (hi : l[i]? = some ⟨none, op, ty, pos, aft, none⟩) (hk : Nat.blt i k0 = true) (hl : loudOp op = true) (ho : Loud P c n σ M L ⟨none, op, ty, pos, aft, none⟩ val M' L')
    (hB : ∀ x, BsOk (before m i) (M' x) (L' x) Bs) (h : ∀ x, JR c n σ (M' x) (L' x) ((i, M, L) :: H) Bs (RW P l.toArray Q (before m) (louds l) k0 rs)) :
    JR c n σ M L H Bs (RW P l.toArray Q (before m) (louds l) k0 (i :: rs)) := fun a w X Y s t hX hY => by
  have hi' : l.toArray[i]? = some ⟨none, op, ty, pos, aft, none⟩ := by simpa using hi
  simp only [RW, hi']
  rw [if_pos (by simp [Region.wanted])]
  refine .inr (.inr ⟨by simpa [Nat.blt_eq] using hk, by simp [louds, hi, hl], nwp_mono ?_ (ho a w s t)⟩)
  rintro a' w' ⟨x, rfl, ht⟩
  exact ⟨(hB x).use ht hY, h x _ w' _ Y s ht ⟨rfl, t, hX⟩ hY⟩
end

/-! ## calls that are walked in place -/
theorem Loud.inlM {A B : Type} {f : FuncId} {fn : Func} {code : Code} {vs : List Value} {m : Nat} {op : Op} (C : A → Prop) (val : A → B → Value) (MI LI : A → B → List Fact) (he : Enter P c n σ M L ⟨d, op, ty, pos, aft, g⟩ f vs) (hf : P.funcs[f]? = some fn) (hb : fn.body = some code) (hn : fn.ntmps = m) (hm : Nat.ble vs.length m = true)
    (h1 : J c ⟨m, []⟩ (frame0 0 vs) M L (code.wpr none P (bodyPost P fn (MidR c C val MI LI)))) :
    Loud P c n σ M L ⟨d, op, ty, pos, aft, g⟩ (fun x : { p : A × B // C p.1 } => val x.1.1 x.1.2) (fun x => MI x.1.1 x.1.2) (fun x => LI x.1.1 x.1.2) := fun a w s t => by
  have hrun := he.run a w s t
  simp only [Oper.wp, hrun, Oper.upon]
  refine (calls_of_wpr hf hb (h1 _ w (frame0_sub hn hm) t)).mono ?_
  rintro e w' ⟨x, y, hC, rfl, ht⟩
  exact ⟨⟨(x, y), hC⟩, rfl, ht⟩

theorem J.inlC {A B : Type} {f : FuncId} {fn : Func} {code : Code} {vs : List Value} {m : Nat} {op : Op} (C : A → Prop) (val : A → B → Value) (MI LI : A → B → List Fact) (he : Enter P c n σ M L ⟨some D, op, ty, pos, aft, none⟩ f vs) (hf : P.funcs[f]? = some fn) (hb : fn.body = some code) (hn : fn.ntmps = m) (hm : Nat.ble vs.length m = true) (hD : Nat.blt D n.sz = true)
    (h1 : J c ⟨m, []⟩ (frame0 0 vs) M L (code.wpr none P (bodyPost P fn (MidR c C val MI LI)))) (h2 : ∀ a b, C a → J c n ((D, val a b) :: σ) (MI a b) (LI a b) (wpList P ops Q rest)) : J c n σ M L (wpList P ops Q (⟨some D, op, ty, pos, aft, none⟩ :: rest)) :=
  J.loud (Loud.inlM C val MI LI he hf hb hn hm h1) hD fun ⟨⟨a, b⟩, hC⟩ => h2 a b hC
theorem J.inlC0 {A B : Type} {f : FuncId} {fn : Func} {code : Code} {vs : List Value} {m : Nat} {op : Op} (C : A → Prop) (val : A → B → Value) (MI LI : A → B → List Fact) (he : Enter P c n σ M L ⟨none, op, ty, pos, aft, none⟩ f vs) (hf : P.funcs[f]? = some fn) (hb : fn.body = some code) (hn : fn.ntmps = m) (hm : Nat.ble vs.length m = true)
    (h1 : J c ⟨m, []⟩ (frame0 0 vs) M L (code.wpr none P (bodyPost P fn (MidR c C val MI LI)))) (h2 : ∀ a b, C a → J c n σ (MI a b) (LI a b) (wpList P ops Q rest)) : J c n σ M L (wpList P ops Q (⟨none, op, ty, pos, aft, none⟩ :: rest)) :=
  J.loud0 (Loud.inlM C val MI LI he hf hb hn hm h1) fun ⟨⟨a, b⟩, hC⟩ => h2 a b hC
theorem J.inlCG {A B : Type} {f : FuncId} {fn : Func} {code : Code} {vs : List Value} {m : Nat} {op : Op} {j : Nat} {bo : Bool} (C : A → Prop) (val : A → B → Value) (MI LI : A → B → List Fact) (hg : gv ops σ j = some bo) (he : Enter P c n σ M L ⟨some D, op, ty, pos, aft, some (j, bo)⟩ f vs) (hf : P.funcs[f]? = some fn) (hb : fn.body = some code) (hn : fn.ntmps = m) (hm : Nat.ble vs.length m = true) (hD : Nat.blt D n.sz = true)
    (h1 : J c ⟨m, []⟩ (frame0 0 vs) M L (code.wpr none P (bodyPost P fn (MidR c C val MI LI)))) (h2 : ∀ a b, C a → J c n ((D, val a b) :: σ) (MI a b) (LI a b) (wpList P ops Q rest)) : J c n σ M L (wpList P ops Q (⟨some D, op, ty, pos, aft, some (j, bo)⟩ :: rest)) :=
  J.loudG hg (Loud.inlM C val MI LI he hf hb hn hm h1) hD fun ⟨⟨a, b⟩, hC⟩ => h2 a b hC
section
variable {l : List Oper} {mm : List Nat} {k0 : Nat} {H Bs : List (Nat × List Fact × List Fact)} {rs : List Nat}
theorem JR.inlC {A B : Type} {i : Nat} {f : FuncId} {fn : Func} {code : Code} {vs : List Value} {m : Nat} {op : Op} (C : A → Prop) (val : A → B → Value) (MI LI : A → B → List Fact) (hi : l[i]? = some ⟨some D, op, ty, pos, aft, none⟩) (hk : Nat.blt i k0 = true) (hl : loudOp op = true) (he : Enter P c n σ M L ⟨some D, op, ty, pos, aft, none⟩ f vs) (hf : P.funcs[f]? = some fn) (hb : fn.body = some code) (hn : fn.ntmps = m) (hm : Nat.ble vs.length m = true) (hD : Nat.blt D n.sz = true)
    (hB : ∀ a b, BsOk (before mm i) (MI a b) (LI a b) Bs) (h1 : J c ⟨m, []⟩ (frame0 0 vs) M L (code.wpr none P (bodyPost P fn (MidR c C val MI LI)))) (h2 : ∀ a b, C a → JR c n ((D, val a b) :: σ) (MI a b) (LI a b) ((i, M, L) :: H) Bs (RW P l.toArray Q (before mm) (louds l) k0 rs)) :
    JR c n σ M L H Bs (RW P l.toArray Q (before mm) (louds l) k0 (i :: rs)) :=
  JR.loud hi hk hl (Loud.inlM C val MI LI he hf hb hn hm h1) hD (fun _ => hB _ _) fun ⟨⟨a, b⟩, hC⟩ => h2 a b hC
theorem JR.inlCG {A B : Type} {i j : Nat} {bo : Bool} {f : FuncId} {fn : Func} {code : Code} {vs : List Value} {m : Nat} {op : Op} (C : A → Prop) (val : A → B → Value) (MI LI : A → B → List Fact) (hi : l[i]? = some ⟨some D, op, ty, pos, aft, some (j, bo)⟩) (hk : Nat.blt i k0 = true) (hl : loudOp op = true) (hg : gv l.toArray σ j = some bo) (he : Enter P c n σ M L ⟨some D, op, ty, pos, aft, some (j, bo)⟩ f vs) (hf : P.funcs[f]? = some fn) (hb : fn.body = some code) (hn : fn.ntmps = m) (hm : Nat.ble vs.length m = true) (hD : Nat.blt D n.sz = true)
    (hB : ∀ a b, BsOk (before mm i) (MI a b) (LI a b) Bs) (h1 : J c ⟨m, []⟩ (frame0 0 vs) M L (code.wpr none P (bodyPost P fn (MidR c C val MI LI)))) (h2 : ∀ a b, C a → JR c n ((D, val a b) :: σ) (MI a b) (LI a b) ((i, M, L) :: H) Bs (RW P l.toArray Q (before mm) (louds l) k0 rs)) :
    JR c n σ M L H Bs (RW P l.toArray Q (before mm) (louds l) k0 (i :: rs)) :=
  JR.loudG hi hk hl hg (Loud.inlM C val MI LI he hf hb hn hm h1) hD (fun _ => hB _ _) fun ⟨⟨a, b⟩, hC⟩ => h2 a b hC
end

/-! ## places inside elements -/
theorem Y.indexArrC [Tab P] {T E : TypeId} {k s1 s2 s3 s4 : Nat} {z z' : Value} {dE : TypeDesc} {x y : Operand} {b : Nat} {i : Int} (j : Nat) (hx : ev σ x = some (.pointer (some ⟨b, 0, none⟩))) (hy : ev σ y = some (.int .i64 i))
    (hT : Tab.tab P T = some ⟨.array k E, s1, s2, z⟩) (hE : Tab.tab P E = some ⟨dE, s3, s4, z'⟩) (h3 : (s3 == 0) = false) (hi : i = (j : Int)) (hj : Nat.blt j k = true) :
    Y P c n σ M L ⟨d, .indexAddr T x y, ty, pos, aft, g⟩ (.pointer (some ⟨b, j * s3, none⟩)) := by
  have hj' : j < k := by simpa [Nat.blt_eq] using hj
  have := Y.indexArr (P := P) (c := c) (n := n) (σ := σ) (M := M) (L := L) (d := d) (ty := ty) (pos := pos) (aft := aft) (g := g) (i := i) hx hy hT hE h3 (by omega)
  rwa [show i.toNat = j by omega] at this

theorem Y.indexEl [Tab P] {T E : TypeId} {k s1 s2 s3 s4 : Nat} {z z' : Value} {dE : TypeDesc} {x y : Operand} {v : Value} {o : Nat} {i : Int} (hx : ev σ x = some (elq v o)) (hy : ev σ y = some (.int .i64 i))
    (hT : Tab.tab P T = some ⟨.array k E, s1, s2, z⟩) (hE : Tab.tab P E = some ⟨dE, s3, s4, z'⟩) (_h3 : (s3 == 0) = false) (h : 0 ≤ i ∧ i < (k : Int)) :
    Y P c n σ M L ⟨d, .indexAddr T x y, ty, pos, aft, g⟩ (elq v (o + i.toNat * s3)) := fun a w s t => by
  simp [execOp, s.eval hx, s.eval hy, Instr.indexAt, asIntOf, (Tab.ok hT).run_und w, h, Instr.sureAddr, elq, (Tab.ok hE).run_size w, elA_add]

theorem Y.nilCheckB {x : Operand} {b o : Nat} (hx : ev σ x = some (.pointer (some ⟨b, o, none⟩))) : Y P c n σ M L ⟨d, .nilCheck x, ty, pos, aft, g⟩ (.pointer (some ⟨b, o, none⟩)) := fun a w s t => by
  simp [execOp, s.eval hx]

theorem Y.nilCheckF {x : Operand} {f : FuncId} {cs : Array Value} (hx : ev σ x = some (.func (.func f) #[] cs)) : Y P c n σ M L ⟨d, .nilCheck x, ty, pos, aft, g⟩ (.func (.func f) #[] cs) := fun a w s t => by
  simp [execOp, s.eval hx]

/-- an element of a small array, where the index is known -/
theorem Y.indexC [Tab P] {T E : TypeId} {k s1 s2 s3 s4 : Nat} {z z' : Value} {dE : TypeDesc} {x y : Operand} {cs : List Value} {i : Int} (j : Nat) {v : Value} (hx : ev σ x = some (.agg cs.toArray)) (hy : ev σ y = some (.int .i64 i))
    (hT : Tab.tab P T = some ⟨.array k E, s1, s2, z⟩) (hE : Tab.tab P E = some ⟨dE, s3, s4, z'⟩) (hi : i = (j : Int)) (hj : Nat.blt j k = true) (hd : aggD dE = false) (hv : cs[j * s3]? = some v) :
    Y P c n σ M L ⟨d, .index T x y, ty, pos, aft, g⟩ v := fun a w s t => by
  subst hi
  have hj' : j < k := by simpa [Nat.blt_eq] using hj
  have hpart : (part E cs.toArray (j * s3)).run P w = .ok v w := by
    unfold part
    simp [(Tab.ok hE).run_agg w, hd, hv]
  have h : (0 : Int) ≤ (j : Int) ∧ (j : Int) < (k : Int) := by omega
  simp [execOp, s.eval hx, s.eval hy, Instr.index, asIntOf, (Tab.ok hT).run_und w, hj', (Tab.ok hE).run_size w, hpart]

/-! ## stores of whole elements and of their parts -/
theorem cellsOf_setE (e : Enc α) (xs : List α) (i : Nat) (y : α) (h : i < xs.length) : cellsOf e (xs.set i y) = (cellsOf e xs).take (i * e.sz) ++ e.enc y ++ (cellsOf e xs).drop (i * e.sz + e.sz) := by
  obtain ⟨l, x, t, rfl, hl⟩ : ∃ l x t, xs = l ++ x :: t ∧ l.length = i := ⟨xs.take i, xs[i], xs.drop (i + 1), by rw [List.getElem_cons_drop, List.take_append_drop], by simp; omega⟩
  subst hl
  have e1 : (l ++ x :: t).set l.length y = l ++ y :: t := by rw [List.set_append_right _ _ (Nat.le_refl _)]; simp
  have e2 : (cellsOf e l).length = l.length * e.sz := cellsOf_length e l
  have e3 : cellsOf e (l ++ x :: t) = cellsOf e l ++ (e.enc x ++ cellsOf e t) := by simp [cellsOf]
  have e4 : cellsOf e (l ++ y :: t) = cellsOf e l ++ (e.enc y ++ cellsOf e t) := by simp [cellsOf]
  have e5 := e.len x
  rw [e1, e3, e4, ← e2, List.take_left, List.append_assoc]
  congr 2
  rw [← List.drop_drop, List.drop_left, ← e5, List.drop_left]

/-- the cells us are laid into element i from cell o on -/
theorem Loud.storeE [Tab P] [Inhabited α] (j : Nat) {T : TypeId} {s2 k o q : Nat} {z : Value} {dT : TypeDesc} {x y : Operand} {v u : Value} {us : List Value} {i : Int} {xs : List α} (yv : α) (h : 0 ≤ i ∧ i < xs.length) (hx : ev σ x = some (elq v (i.toNat * q + o))) (hy : ev σ y = some u)
    (hf : M[j]? = some (Ar e v xs)) (hq : e.sz = q) (hu : u.cells = us.toArray) (hk : us.length = k) (ho : Nat.ble (o + k) q = true) (hyv : e.enc yv = (e.enc (at' xs i)).take o ++ us ++ (e.enc (at' xs i)).drop (o + k)) (h1u : us.all one = true) (hT : Tab.tab P T = some ⟨dT, k, s2, z⟩) :
    Loud P c n σ M L ⟨none, .store T x y, ty, pos, aft, none⟩ (fun _ : Unit => undef) (fun _ => M.set j (Ar e v (xs.set i.toNat yv))) (fun _ => L) := fun a w s t => by
  subst hq hk
  have hok : o + us.length ≤ e.sz := by simpa using ho
  have hi : i.toNat < xs.length := by omega
  have t0 := t
  obtain ⟨hoo, FF, hO, hLL⟩ := t0
  obtain ⟨h0, hone, hh⟩ := hO.res j _ hf
  rcases hh with ⟨_, rfl⟩ | ⟨b, off, cap, T', cur, rfl, hFb, hbk, hcp, hc, ht⟩
  · simp at hi
  -- the parts of the row
  obtain ⟨l, x0, tl, hxs, hl⟩ : ∃ l x0 tl, xs = l ++ x0 :: tl ∧ l.length = i.toNat := ⟨xs.take i.toNat, xs[i.toNat], xs.drop (i.toNat + 1), by rw [List.getElem_cons_drop, List.take_append_drop], by simp; omega⟩
  have hat : at' xs i = x0 := by
    rw [at', List.getD_eq_getElem?_getD, ← hl, hxs, List.getElem?_append_right (Nat.le_refl _)]; simp
  rw [hat] at hyv
  have eE := e.len x0
  have eA : (cellsOf e l).length = i.toNat * e.sz := by rw [cellsOf_length, hl]
  have hcells : cellsOf e xs = cellsOf e l ++ (e.enc x0 ++ cellsOf e tl) := by rw [hxs]; simp [cellsOf]
  have hset : cellsOf e (xs.set i.toNat yv) = cellsOf e l ++ (e.enc yv ++ cellsOf e tl) := by
    have : xs.set i.toNat yv = l ++ yv :: tl := by rw [hxs, ← hl, List.set_append_right _ _ (Nat.le_refl _)]; simp
    rw [this]; simp [cellsOf]
  have hmul : xs.length * e.sz ≤ cap * e.sz := Nat.mul_le_mul_right _ hcp
  obtain ⟨Hd, R, hcur, hH⟩ : ∃ Hd R, cur.toList = Hd ++ (cellsOf e l ++ (e.enc x0 ++ (cellsOf e tl ++ R))) ∧ Hd.length = off := by
    refine ⟨cur.toList.take off, (cur.toList.drop off).drop (xs.length * e.sz), ?_, by simp; omega⟩
    have e1 : cellsOf e l ++ (e.enc x0 ++ (cellsOf e tl ++ (cur.toList.drop off).drop (xs.length * e.sz))) = cur.toList.drop off := by
      have : cellsOf e l ++ (e.enc x0 ++ (cellsOf e tl ++ (cur.toList.drop off).drop (xs.length * e.sz))) = cellsOf e xs ++ (cur.toList.drop off).drop (xs.length * e.sz) := by rw [hcells]; simp
      rw [this, ← ht, List.take_append_drop]
    rw [e1, List.take_append_drop]
  have hsize : cur.size = cur.toList.length := by simp
  have hp1 : cur.toList.take (off + (i.toNat * e.sz + o)) = Hd ++ (cellsOf e l ++ (e.enc x0).take o) := by
    have : cur.toList = (Hd ++ (cellsOf e l ++ (e.enc x0).take o)) ++ ((e.enc x0).drop o ++ (cellsOf e tl ++ R)) := by
      rw [hcur, List.append_assoc, List.append_assoc, ← List.append_assoc ((e.enc x0).take o), List.take_append_drop]
    rw [this]
    exact List.take_left' (by simp [hH, eA, eE]; omega)
  have hp2 : cur.toList.drop (off + (i.toNat * e.sz + o) + us.length) = (e.enc x0).drop (o + us.length) ++ (cellsOf e tl ++ R) := by
    have : cur.toList = (Hd ++ (cellsOf e l ++ (e.enc x0).take (o + us.length))) ++ ((e.enc x0).drop (o + us.length) ++ (cellsOf e tl ++ R)) := by
      rw [hcur, List.append_assoc, List.append_assoc, ← List.append_assoc ((e.enc x0).take (o + us.length)), List.take_append_drop]
    rw [this]
    exact List.drop_left' (by simp [hH, eA, eE]; omega)
  have hbound : (i.toNat + 1) * e.sz ≤ xs.length * e.sz := Nat.mul_le_mul_right _ (by omega)
  have hb2 : (i.toNat + 1) * e.sz = i.toNat * e.sz + e.sz := by rw [Nat.add_mul, Nat.one_mul]
  have hfit : off + (i.toNat * e.sz + o) + 0 + us.length ≤ cur.size := by omega
  have hst := run_storeCells_at P b (off + (i.toNat * e.sz + o)) T' us 0 cur w hbk hfit (fun u hu => one_oneCell (List.all_eq_true.1 h1u u hu))
  simp only [Nat.add_zero] at hst
  have hsz : (Tab.ok hT).run_size w = (Tab.ok hT).run_size w := rfl
  have hrun : (execOp a.eval ⟨none, .store T x y, ty, pos, aft, none⟩).run P w = .ok .skip (w.setRow b (cur.toList.take (off + (i.toNat * e.sz + o)) ++ us ++ cur.toList.drop (off + (i.toNat * e.sz + o) + us.length)).toArray) := by
    simp [execOp, s.eval hx, s.eval hy, elq, elA, Instr.storeAt, Instr.sureAddr, storeVar, hu, (Tab.ok hT).run_size w, add_none, hst]
  simp only [Oper.wp, hrun, Oper.upon]
  refine ⟨(), trivial, ?_⟩
  refine St.updF hoo hO hLL hf rfl rfl rfl (by simp) (fun k _ hk' => setRow_other w b k _ (fun e => hk' (by subst e; exact hFb))) (F' := FF j) ?_ (fun k hk => .inl hk)
  have hlen2 : (e.enc yv).length = e.sz := e.len yv
  refine ⟨by simpa using h0, ?_, .inr ⟨b, off, cap, T', _, by simp, hFb, setRow_heap w b _ _ T' _ hbk, by simpa using hcp, ?_, ?_⟩⟩
  · rw [hset]
    rw [hcells] at hone
    simp only [List.all_append, Bool.and_eq_true] at hone ⊢
    refine ⟨hone.1, ?_, hone.2.2⟩
    rw [hyv]
    simp only [List.all_append, Bool.and_eq_true]
    refine ⟨⟨List.all_eq_true.2 fun u hu => List.all_eq_true.1 hone.2.1 u (List.mem_of_mem_take hu), h1u⟩, List.all_eq_true.2 fun u hu => List.all_eq_true.1 hone.2.1 u (List.mem_of_mem_drop hu)⟩
  · simp only [List.size_toArray, List.length_append, List.length_take, List.length_drop]
    omega
  · show ((cur.toList.take _ ++ us ++ cur.toList.drop _).drop off).take ((xs.set i.toNat yv).length * e.sz) = _
    rw [hp1, hp2, hset, hyv, List.length_set]
    have e3 : (Hd ++ (cellsOf e l ++ (e.enc x0).take o) ++ us ++ ((e.enc x0).drop (o + us.length) ++ (cellsOf e tl ++ R))) = Hd ++ ((cellsOf e l ++ (((e.enc x0).take o ++ us ++ (e.enc x0).drop (o + us.length)) ++ cellsOf e tl)) ++ R) := by simp
    rw [e3, ← hH, List.drop_left]
    refine List.take_left' ?_
    have hT2 : (cellsOf e tl).length = tl.length * e.sz := cellsOf_length e tl
    have hxl : xs.length = i.toNat + 1 + tl.length := by rw [hxs, ← hl]; simp; omega
    rw [hyv] at hlen2
    rw [List.length_append, List.length_append, hlen2, eA, hT2, hxl, Nat.add_mul, Nat.add_mul, Nat.one_mul]
    omega
end
end Go.Sx
