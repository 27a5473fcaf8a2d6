/- The layer Sx, part 14: reading what is owned or handed over alike; calls that lend; the loops of models. Conditions: a table of types that is right for the program. -/
import Derived.Test.YtmajgimhmfeliaaSxm
set_option linter.unusedVariables false
set_option linter.unusedSimpArgs false
namespace Go.Sx
open Go.RowKit

/-! ## Models -/
def ck {β : Type} (p : Prop) [Decidable p] (x : Option β) : Option β := if p then x else none
theorem ck_some {β : Type} {p : Prop} [Decidable p] {x : Option β} {r : β} (h : ck p x = some r) : p ∧ x = some r := by
  unfold ck at h
  by_cases hp : p
  · rw [if_pos hp] at h; exact ⟨hp, h⟩
  · rw [if_neg hp] at h; cases h
theorem ifP {β : Type} {p : Prop} [Decidable p] {x y : Option β} {r : β} (hp : p) (h : (if p then x else y) = some r) : x = some r := by rwa [if_pos hp] at h
theorem ifN {β : Type} {p : Prop} [Decidable p] {x y : Option β} {r : β} (hp : ¬ p) (h : (if p then x else y) = some r) : y = some r := by rwa [if_neg hp] at h
theorem ifBN {β : Type} {b : Bool} {x y : Option β} {r : β} (hp : b = false) (h : (if b = true then x else y) = some r) : y = some r := by
  rwa [if_neg (by simp [hp])] at h
theorem bnd {β γ : Type} {x : Option β} {f : β → Option γ} {r : γ} (h : x.bind f = some r) : ∃ y, x = some y ∧ f y = some r := Option.bind_eq_some_iff.1 h

def iter {X R : Type} (step : X → (X → Option R) → Option R) : Nat → X → Option R
  | 0, _ => none
  | k + 1, x => step x (iter step k)

/-! ## What is lent -/
def Lent (M L : List Fact) (g : Fact) : Prop := ∀ (w : World) (S : Nat → Prop) (T : Nat → Nat → Prop) (U : Nat → Prop), (∀ f ∈ L, f.p w S) → (∀ (i : Nat) (m : Fact), M[i]? = some m → m.p w (T i)) → (∀ k, S k → U k) → (∀ i k, T i k → U k) → g.p w U

section
variable {M L : List Fact} {α β : Type} {e : Enc α} {r : Rep α} {v : Value}

theorem Fact.wide {f : Fact} {w : World} {S U : Nat → Prop} (h : f.p w S) (hS : ∀ k, S k → U k) : f.p w U := f.mono h fun k hk _ => ⟨hS k hk, rfl⟩

theorem Lent.fact {g : Fact} (j : Nat) (h : L[j]? = some g) : Lent M L g := fun _ _ _ _ hL _ hS _ => Fact.wide (hL g (List.mem_of_getElem? h)) hS
theorem Lent.res {m : Fact} (i : Nat) (h : M[i]? = some m) : Lent M L m := fun _ _ _ _ _ hM _ hT => Fact.wide (hM i m h) (hT i)
theorem Lent.mono {f g : Fact} (h : Lent M L f) (hfg : ∀ {w U}, f.p w U → g.p w U) : Lent M L g := fun w S T U hL hM hS hT => hfg (h w S T U hL hM hS hT)
theorem Lent.ar {xs : List α} (h : Lent M L (Ar e v xs)) (hfit : e.Fits r) : Lent M L (Sl r v xs) := h.mono fun h => ArR.sl hfit h
theorem Lent.nil : Lent M L (Sl r (.slice none 0 0) []) := fun _ _ _ _ _ _ _ _ => ⟨none, 0, rfl, by simp, .inl rfl⟩

/-- a slice of data that hold slices: zs has the raw values beside the data xs -/
def Sn {β : Type} (r : Rep α) (er : α → β) (v : Value) (zs : List α) (xs : List β) : Fact where
  p w S := SlR r w S v zs ∧ zs.map er = xs
  mono := fun h e => ⟨h.1.mono e, h.2⟩

abbrev S2 (r : Rep α) (v : Value) (zs : List (Value × List α)) (xss : List (List α)) : Fact := Sn (Rep.sl r) (fun z => z.2) v zs xss

theorem Lent.sl {er : α → β} {zs : List α} {xs : List β} (h : Lent M L (Sn r er v zs xs)) : Lent M L (Sl r v zs) := h.mono fun h => h.1

theorem at'_map [Inhabited α] [Inhabited β] (f : α → β) {zs : List α} {i : Int} (h0 : 0 ≤ i) (h1 : i < zs.length) : at' (zs.map f) i = f (at' zs i) := by
  have h := at'_some h0 h1
  have h' := at'_some (xs := zs.map f) h0 (by simpa using h1)
  rw [List.getElem?_map, h] at h'
  simpa using h'.symm

theorem Lent.el {zs : List (Value × List α)} {xss : List (List α)} {i : Int} (h : Lent M L (S2 r v zs xss)) (h0 : 0 ≤ i) (h1 : i < xss.length) : Lent M L (Sl r (at' zs i).1 (at' xss i)) := h.mono fun {w U} h => by
  obtain ⟨h, he⟩ := h
  have hl : i < zs.length := by rw [← he] at h1; simpa using h1
  obtain ⟨es, hr, _⟩ := sl_cell h (at'_some h0 hl)
  rw [← he, at'_map _ h0 hl]
  exact hr.2

theorem Lent.rows {i j : Nat} {vs : List Value} {xss : List (List α)} (hi : M[i]? = some (Ar Enc.raw v vs)) (hj : M[j]? = some (Rws e vs xss)) (hfit : e.Fits r) : Lent M L (S2 r v (vs.zip xss) xss) := fun w S T U hL hM hS hT => by
  have hA := hM i _ hi
  have hR := hM j _ hj
  refine ⟨(rows_sl hfit hA hR).mono fun k hk _ => ⟨?_, rfl⟩, ?_⟩
  · rcases hk with h | h
    · exact hT i k h
    · exact hT j k h
  · rw [List.map_snd_zip]
    obtain ⟨hl, _⟩ := hR; omega

theorem Lent.row {j : Nat} {vs : List Value} {xss : List (List α)} {k : Int} (hj : M[j]? = some (Rws e vs xss)) (hfit : e.Fits r) (h0 : 0 ≤ k) (h1 : k < xss.length) : Lent M L (Sl r (at' vs k) (at' xss k)) := fun w S T U hL hM hS hT => by
  have hR := hM j _ hj
  have hl := hR.1
  obtain ⟨_, G, g1, g2, _⟩ := hR
  exact (ArR.sl hfit (g1 k.toNat _ _ (at'_some h0 (by omega)) (at'_some h0 h1))).mono fun q hq _ => ⟨hT j q (g2 _ q hq), rfl⟩

theorem Lent.st {c : Ctx} {w : World} {g : Fact} (h : Lent M L g) (t : St c M L w) : ∃ S, g.p w S := by
  obtain ⟨_, F, hF, hL⟩ := t
  exact ⟨fun _ => True, h w (Free c F) F (fun _ => True) hL hF.res (fun _ _ => trivial) (fun _ _ _ => trivial)⟩
end

/-! ## Reading -/
section
variable {P : Program} {rd : Option Nat} {c : Ctx} {n : Sz} {σ : Fr} {M L : List Fact} {Q : Exit → Act → World → Prop} {ops : Array Oper} {rest : List Oper}
variable {d : Option Tmp} {D : Nat} {ty : TypeId} {pos : String} {aft : Array Edge} {g : Option (Nat × Bool)}
variable {α β : Type} {e : Enc α} {r : Rep α}

theorem Y.lenS [Tab P] {T E : TypeId} {s1 s2 : Nat} {z : Value} {x : Operand} {v : Value} {xs : List α} (hx : ev σ x = some v) (hf : Lent M L (Sl r v xs))
    (hT : Tab.tab P T = some ⟨.slice E, s1, s2, z⟩) : Y P c n σ M L ⟨d, .call ⟨.builtin .len, #[x], #[T]⟩, ty, pos, aft, g⟩ (.int .i64 xs.length) := fun a w s t => by
  obtain ⟨S, a', cap, hv, _, _⟩ := hf.st t
  subst hv
  simp [execOp, resolve, invoke, builtin, s.eval hx, run_len w (Tab.ok hT) rfl]

theorem Y.lenN [Tab P] {T E : TypeId} {s1 s2 : Nat} {z : Value} {x : Operand} {v : Value} {er : α → β} {zs : List α} {xs : List β} (hx : ev σ x = some v) (hf : Lent M L (Sn r er v zs xs))
    (hT : Tab.tab P T = some ⟨.slice E, s1, s2, z⟩) : Y P c n σ M L ⟨d, .call ⟨.builtin .len, #[x], #[T]⟩, ty, pos, aft, g⟩ (.int .i64 xs.length) := fun a w s t => by
  obtain ⟨_, _, h⟩ := hf.st t
  rw [← h, List.length_map]
  exact Y.lenS hx hf.sl hT a w s t

theorem Y.indexS [Tab P] {T E : TypeId} {s1 s2 s3 s4 : Nat} {z z' : Value} {dE : TypeDesc} {x y : Operand} {v : Value} {i : Int} {xs : List α} (hx : ev σ x = some v) (hy : ev σ y = some (.int .i64 i)) (hf : Lent M L (Sl r v xs))
    (hT : Tab.tab P T = some ⟨.slice E, s1, s2, z⟩) (hE : Tab.tab P E = some ⟨dE, s3, s4, z'⟩) (h : 0 ≤ i ∧ i < xs.length) :
    Y P c n σ M L ⟨d, .indexAddr T x y, ty, pos, aft, g⟩ (elq v (i.toNat * s3)) := fun a w s t => by
  obtain ⟨h0, h1⟩ := h
  obtain ⟨S, a', cap, hv, _, h⟩ := hf.st t
  rcases h with h | ⟨b, off, rfl, _, _⟩
  · subst h; simp at h1; omega
  · subst hv
    simp [execOp, s.eval hx, s.eval hy, run_index w (Tab.ok hT) rfl (Tab.ok hE) b off _ cap i h0 h1]

theorem Sn.len {w : World} {S : Nat → Prop} {v : Value} {er : α → β} {zs : List α} {xs : List β} (h : (Sn r er v zs xs).p w S) : zs.length = xs.length := by rw [← h.2]; simp

theorem Y.indexN [Tab P] {T E : TypeId} {s1 s2 s3 s4 : Nat} {z z' : Value} {dE : TypeDesc} {x y : Operand} {v : Value} {i : Int} {er : α → β} {zs : List α} {xs : List β} (hx : ev σ x = some v) (hy : ev σ y = some (.int .i64 i)) (hf : Lent M L (Sn r er v zs xs))
    (hT : Tab.tab P T = some ⟨.slice E, s1, s2, z⟩) (hE : Tab.tab P E = some ⟨dE, s3, s4, z'⟩) (h : 0 ≤ i ∧ i < xs.length) :
    Y P c n σ M L ⟨d, .indexAddr T x y, ty, pos, aft, g⟩ (elq v (i.toNat * s3)) := fun a w s t => by
  obtain ⟨_, h'⟩ := hf.st t
  exact Y.indexS hx hy hf.sl hT hE (by rw [Sn.len h']; exact h) a w s t

/-- a cell of an element (the whole element, if it is one cell) -/
theorem Y.loadS [Tab P] [Inhabited α] {T : TypeId} {s1 s2 q o : Nat} {z : Value} {dT : TypeDesc} {x : Operand} {v : Value} {i : Int} {xs : List α} {f : α → Value} (hx : ev σ x = some (elq v (i.toNat * q + o))) (hf : Lent M L (Sl r v xs))
    (hT : Tab.tab P T = some ⟨dT, s1, s2, z⟩) (hd : aggD dT = false) (hs : r.sz = q) (hc : r.Cell o f) (h : 0 ≤ i ∧ i < xs.length) :
    Y P c n σ M L ⟨d, .load T x, ty, pos, aft, g⟩ (f (at' xs i)) := fun a w s t => by
  obtain ⟨h0, h1⟩ := h
  obtain ⟨S, h⟩ := hf.st t
  obtain ⟨es, hr, hes⟩ := sl_cell h (at'_some h0 h1)
  have := hes o _ (hc hr)
  rw [hs] at this
  simp [execOp, s.eval hx, elq, run_load1 (Tab.ok hT) hd this]

theorem Y.loadS0 [Tab P] [Inhabited α] {T : TypeId} {s1 s2 q : Nat} {z : Value} {dT : TypeDesc} {x : Operand} {v : Value} {i : Int} {xs : List α} {f : α → Value} (hx : ev σ x = some (elq v (i.toNat * q))) (hf : Lent M L (Sl r v xs))
    (hT : Tab.tab P T = some ⟨dT, s1, s2, z⟩) (hd : aggD dT = false) (hs : r.sz = q) (hc : r.Cell 0 f) (h : 0 ≤ i ∧ i < xs.length) :
    Y P c n σ M L ⟨d, .load T x, ty, pos, aft, g⟩ (f (at' xs i)) := Y.loadS (o := 0) hx hf hT hd hs hc h

/-- the slice that is an element -/
theorem Y.loadRow [Tab P] {T : TypeId} {s1 s2 : Nat} {z : Value} {dT : TypeDesc} {x : Operand} {v : Value} {i : Int} {zs : List (Value × List α)} {xss : List (List α)} (hx : ev σ x = some (elq v (i.toNat * 1))) (hf : Lent M L (S2 r v zs xss))
    (hT : Tab.tab P T = some ⟨dT, s1, s2, z⟩) (hd : aggD dT = false) (h : 0 ≤ i ∧ i < xss.length) :
    Y P c n σ M L ⟨d, .load T x, ty, pos, aft, g⟩ (at' zs i).1 := fun a w s t => by
  obtain ⟨_, h'⟩ := hf.st t
  exact Y.loadS0 (r := Rep.sl r) (f := fun z => z.1) hx hf.sl hT hd rfl (Rep.sl_cell r) (by rw [Sn.len h']; exact h) a w s t

/-- the raw slice that is an element of a slice of the call's own -/
theorem Y.loadRaw [Tab P] (j : Nat) {T : TypeId} {s2 : Nat} {z : Value} {dT : TypeDesc} {x : Operand} {v : Value} {i : Int} {vs : List Value} {m : Nat} (hx : ev σ x = some (elq v (i.toNat * 1))) (hf : M[j]? = some (Ar Enc.raw v vs)) (hm : vs.length = m)
    (hT : Tab.tab P T = some ⟨dT, 1, s2, z⟩) (hd : aggD dT = false) (h : 0 ≤ i ∧ i < m) :
    Y P c n σ M L ⟨d, .load T x, ty, pos, aft, g⟩ (at' vs i) := Y.loadA0 j hx hf hT hd rfl rfl h.1 (by omega)

/-- the whole element -/
theorem Y.loadAggS [Tab P] [Inhabited α] {T : TypeId} {s2 q : Nat} {z : Value} {dT : TypeDesc} {x : Operand} {v : Value} {i : Int} {xs : List α} {cs : List Value} (hx : ev σ x = some (elq v (i.toNat * q))) (hf : Lent M L (Sl r v xs)) (hfit : e.Fits r) (hcs : e.enc (at' xs i) = cs)
    (hT : Tab.tab P T = some ⟨dT, cs.length, s2, z⟩) (hd : aggD dT = true) (hq : e.sz = q) (h : 0 ≤ i ∧ i < xs.length) : Y P c n σ M L ⟨d, .load T x, ty, pos, aft, g⟩ (.agg cs.toArray) := fun a w s t => by
  obtain ⟨h0, h1⟩ := h
  obtain ⟨S, h⟩ := hf.st t
  obtain ⟨es, hr, hes⟩ := sl_cell h (at'_some h0 h1)
  obtain ⟨hsz, he, _, _⟩ := hfit
  have := he hr
  subst this hcs
  rw [hsz, hq] at hes
  have := run_loadAll (w := w) (A := elA v (i.toNat * q)) (cs := e.enc (at' xs i)) (Tab.ok hT) hd rfl (fun j u hu => by rw [elA_add]; exact hes j u hu)
  simp [execOp, s.eval hx, elq, this]

/-! ## Calls -/
def LentAll (M L : List Fact) (L0 : List Fact) : Prop := ∀ f ∈ L0, Lent M L f
theorem LentAll.nil : LentAll M L [] := fun _ h => by simp at h
theorem LentAll.cons {f : Fact} {L0 : List Fact} (h : Lent M L f) (k : LentAll M L L0) : LentAll M L (f :: L0) := fun x hx => by
  rcases List.mem_cons.1 hx with rfl | hx
  · exact h
  · exact k x hx

/-- the state behind a call to which everything was lent, and which hands out only what is its own -/
theorem St.callL {w w' : World} {M1 : List Fact} {F : Nat → Nat → Prop} {U : Nat → Prop} (ho : Kept c.O c.w0 w) (hF : Own c w M F) (hL : ∀ f ∈ L, f.p w (Free c F))
    (t : St ⟨w, U, fun _ => False⟩ M1 [] w') : St c (M1 ++ M) L w' := by
  obtain ⟨ho', F', hF', _⟩ := t
  have t2 : St ⟨w, Free c F, fun _ => False⟩ M1 [] w' := ⟨ho', F', ⟨hF'.res, hF'.rng, hF'.dis⟩, fun f hf => by simp at hf⟩
  exact St.call ho hF hL t2

theorem Loud.callL {A : Type} {ret : A → Value} {MO : A → List Fact → List Fact} {f : FuncId} {xs : List Operand} {vs : List Value} {ats : Array TypeId} {L0 : List Fact} (hb : HasBody P f)
    (hs : Meets P f vs.toArray L0 ret MO (fun _ l => l)) (hx : xs.map (ev σ) = vs.map some) (hL : LentAll M L L0) (hMO : ∀ x l, MO x l = MO x [] ++ l) :
    Loud P c n σ M L ⟨d, .call ⟨.value (.func f), xs.toArray, ats⟩, ty, pos, aft, g⟩ ret (fun x => MO x M) (fun _ => L) := fun a w s t => by
  have hrun : (execOp a.eval ⟨d, .call ⟨.value (.func f), xs.toArray, ats⟩, ty, pos, aft, g⟩).run P w = .ok (.enter f vs.toArray) w := by
    have e := evs s hx
    simp [execOp, resolve, Act.eval, Deferred.ofValue, invoke, hb _ w, e]
  simp only [Oper.wp, hrun, Oper.upon]
  obtain ⟨ho, F, hF, hLF⟩ := t
  refine (hs w (fun _ => True) (fun f hf => hL f hf w (Free c F) F _ hLF hF.res (fun _ _ => trivial) (fun _ _ _ => trivial))).mono ?_
  rintro e w' ⟨x, rfl, ht⟩
  refine ⟨x, rfl, ?_⟩
  rw [hMO]
  exact St.callL ho hF hLF ht

theorem Loud.callVL {A : Type} {ret : A → Value} {MO : A → List Fact → List Fact} {f : FuncId} {t : Tmp} {xs : List Operand} {vs cs : List Value} {ats : Array TypeId} {L0 : List Fact} (hb : HasBody P f)
    (ht : lk σ t = some (.func (.func f) #[] cs.toArray)) (hs : Meets P f (vs ++ cs).toArray L0 ret MO (fun _ l => l)) (hx : xs.map (ev σ) = vs.map some) (hL : LentAll M L L0) (hMO : ∀ x l, MO x l = MO x [] ++ l) :
    Loud P c n σ M L ⟨d, .call ⟨.value (.tmp t), xs.toArray, ats⟩, ty, pos, aft, g⟩ ret (fun x => MO x M) (fun _ => L) := fun a w s t' => by
  have hrun : (execOp a.eval ⟨d, .call ⟨.value (.tmp t), xs.toArray, ats⟩, ty, pos, aft, g⟩).run P w = .ok (.enter f (vs ++ cs).toArray) w := by
    have e := evs s hx
    have e2 : a.eval (.tmp t) = .func (.func f) #[] cs.toArray := s.eval (x := .tmp t) ht
    simp [execOp, resolve, e2, Deferred.ofValue, invoke, hb _ w, e]
  simp only [Oper.wp, hrun, Oper.upon]
  obtain ⟨ho, F, hF, hLF⟩ := t'
  refine (hs w (fun _ => True) (fun f hf => hL f hf w (Free c F) F _ hLF hF.res (fun _ _ => trivial) (fun _ _ _ => trivial))).mono ?_
  rintro e w' ⟨x, rfl, ht⟩
  refine ⟨x, rfl, ?_⟩
  rw [hMO]
  exact St.callL ho hF hLF ht

/-! ## Append -/
theorem Loud.appendL [Tab P] (i : Nat) {r : Rep α} (hfit : e.Fits r) {x y : Operand} {v u : Value} {xs ys : List α} {T E : TypeId} {s1 s2 s3 s4 : Nat} {z z' : Value} {dE : TypeDesc} (hx : ev σ x = some v) (hy : ev σ y = some u) (hf : M[i]? = some (Ar e v xs)) (hg : Lent M L (Sl r u ys))
    (hT : Tab.tab P T = some ⟨.slice E, s1, s2, z⟩) (hE : Tab.tab P E = some ⟨dE, s3, s4, z'⟩) (h3 : e.sz = s3) (h4 : Nat.ble s4 1024 = true) (hl : (xs.length : Int) + ys.length ≤ 1099511627) (hz : z'.cells.size = s3) :
    Loud P c n σ M L ⟨d, .call ⟨.builtin .append, #[x, y], #[T, T]⟩, ty, pos, aft, g⟩ (fun v' : Value => v') (fun v' => M.set i (Ar e v' (xs ++ ys))) (fun _ => L) := fun a w s t => by
  subst h3
  obtain ⟨F, hF⟩ := hg.st t
  obtain ⟨hs, h1⟩ := SlR.srcE hfit hF hT
  have h4' : s4 ≤ 1024 := by simpa using h4
  have hb : (xs.length + ys.length) * s4 ≤ 140737488355328 := Nat.le_trans (Nat.mul_le_mul (show xs.length + ys.length ≤ 1099511627 by omega) h4') (by decide)
  obtain ⟨v', w', hr, ht⟩ := t.append (ty := ty) hf hs h1 hT hE hb (by omega) hz
  simp only [Oper.wp, run_appendOp s hx hy w, hr, Result.andThen_ok, Oper.upon]
  exact ⟨v', rfl, ht⟩

theorem St.appendRow [Tab P] {w : World} (t : St c M L w) {i : Nat} {u : Value} {k : Int} {vs : List Value} {xss : List (List α)} {ys : List α} {T E ty : TypeId} {s1 s2 s4 : Nat} {z z' : Value} {dE : TypeDesc} (hf : M[i]? = some (Rws e vs xss)) (hsrc : Src P e.sz T u ys.length (cellsOf e ys) w) (hone : (cellsOf e ys).all one = true)
    (hT : Tab.tab P T = some ⟨.slice E, s1, s2, z⟩) (hE : Tab.tab P E = some ⟨dE, e.sz, s4, z'⟩) (h0 : 0 ≤ k) (h1 : k < vs.length) (hb : ((at' xss k).length + ys.length) * s4 ≤ 140737488355328) (hl : (at' xss k).length + ys.length ≤ 140737488355328) (hz : z'.cells.size = e.sz) :
    ∃ v' w', (Builtin.append_ #[T, T] ty #[at' vs k, u]).run P w = .ok v' w' ∧ St c (M.set i (Rws e (vs.set k.toNat v') (xss.set k.toNat (at' xss k ++ ys)))) L w' := by
  have t0 := t
  obtain ⟨ho, FF, hO, hLL⟩ := t0
  have hR := hO.res i _ hf
  obtain ⟨hlen, G, g1, g2, g3⟩ := hR
  have hkl : k.toNat < vs.length := by omega
  have hrow := g1 k.toNat _ _ (at'_some h0 h1) (at'_some h0 (by omega))
  obtain ⟨v', w', F', hr, hA, hG⟩ := ArR.append (ty := ty) hrow hsrc hone hT hE hb hl hz
  refine ⟨v', w', hr, ?_⟩
  refine St.updF ho hO hLL hf hG.os hG.tape hG.out hG.size (fun q hq hn => hG.same q hq (fun h => hn (g2 _ q h))) (F' := fun q => (F' q) ∨ ∃ j', j' ≠ k.toNat ∧ G j' q) ?_ ?_
  · refine ⟨by simp [hlen], fun j' q => (j' = k.toNat ∧ F' q) ∨ (j' ≠ k.toNat ∧ G j' q ∧ q < w.heap.size), ?_, ?_, ?_⟩
    · intro j' v2 xs2 hv2 hx2
      by_cases ej : j' = k.toNat
      · subst ej
        rw [List.getElem?_set_self hkl] at hv2
        rw [List.getElem?_set_self (by omega)] at hx2
        cases hv2; cases hx2
        exact Fact.same (f := Ar e v' (at' xss k ++ ys)) hA (fun q hq => .inl ⟨rfl, hq⟩) (fun _ _ _ => rfl)
      · rw [List.getElem?_set_ne (Ne.symm ej)] at hv2 hx2
        exact (Ar e v2 xs2).mono (g1 j' v2 xs2 hv2 hx2) (fun q hq hlt => ⟨.inr ⟨ej, hq, hlt⟩, hG.same q hlt (fun h => ej (g3 _ _ q hq h))⟩)
    · rintro j' q (⟨_, hq⟩ | ⟨hne, hq, _⟩)
      · exact .inl hq
      · exact .inr ⟨j', hne, hq⟩
    · rintro j1 j2 q (⟨e1, q1⟩ | ⟨e1, q1, l1⟩) (⟨e2, q2⟩ | ⟨e2, q2, l2⟩)
      · rw [e1, e2]
      · rcases hG.sub q q1 with h | ⟨h, _⟩
        · exact absurd (g3 _ _ q q2 h) e2
        · omega
      · rcases hG.sub q q2 with h | ⟨h, _⟩
        · exact absurd (g3 _ _ q q1 h) e1
        · omega
      · exact g3 _ _ q q1 q2
  · rintro q (hq | ⟨j', _, hq⟩)
    · rcases hG.sub q hq with h | h
      · exact .inl (g2 _ q h)
      · exact .inr h
    · exact .inl (g2 _ q hq)

/-- append to a row -/
theorem Loud.appendRowL [Tab P] (i : Nat) {r : Rep α} (hfit : e.Fits r) {x y : Operand} {u : Value} {k : Int} {vs : List Value} {xss : List (List α)} {ys : List α} {T E : TypeId} {s1 s2 s3 s4 : Nat} {z z' : Value} {dE : TypeDesc} (hx : ev σ x = some (at' vs k)) (hy : ev σ y = some u) (hf : M[i]? = some (Rws e vs xss)) (hg : Lent M L (Sl r u ys))
    (hT : Tab.tab P T = some ⟨.slice E, s1, s2, z⟩) (hE : Tab.tab P E = some ⟨dE, s3, s4, z'⟩) (h3 : e.sz = s3) (h4 : Nat.ble s4 1024 = true) (h0 : 0 ≤ k ∧ k < xss.length) (hl : ((at' xss k).length : Int) + ys.length ≤ 1099511627) (hz : z'.cells.size = s3) :
    Loud P c n σ M L ⟨d, .call ⟨.builtin .append, #[x, y], #[T, T]⟩, ty, pos, aft, g⟩ (fun v' : Value => v') (fun v' => M.set i (Rws e (vs.set k.toNat v') (xss.set k.toNat (at' xss k ++ ys)))) (fun _ => L) := fun a w s t => by
  subst h3
  obtain ⟨F, hF⟩ := hg.st t
  obtain ⟨hs, h1⟩ := SlR.srcE hfit hF hT
  have h4' : s4 ≤ 1024 := by simpa using h4
  have hb : ((at' xss k).length + ys.length) * s4 ≤ 140737488355328 := Nat.le_trans (Nat.mul_le_mul (show (at' xss k).length + ys.length ≤ 1099511627 by omega) h4') (by decide)
  have hlen : vs.length = xss.length := by obtain ⟨_, h⟩ := t.res hf; exact h.1
  obtain ⟨v', w', hr, ht⟩ := t.appendRow (ty := ty) hf hs h1 hT hE h0.1 (by omega) hb (by omega) hz
  simp only [Oper.wp, run_appendOp s hx hy w, hr, Result.andThen_ok, Oper.upon]
  exact ⟨v', rfl, ht⟩
end
end Go.Sx
