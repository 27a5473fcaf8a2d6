/- The layer Sx, part 16: rules in the form in which the extractor (gen/xt.py) uses them. Conditions: a table of types that is right for the program. -/
import Derived.Test.YtmajgimhmfeliaaSxo
set_option linter.unusedVariables false
set_option linter.unusedSimpArgs false
namespace Go.Sx
open Go.RowKit

def Enc.pair {α β : Type} (a : Enc α) (b : Enc β) : Enc (α × β) := ⟨a.sz + b.sz, Nat.lt_of_lt_of_le a.pos (Nat.le_add_right _ _), fun x => a.enc x.1 ++ b.enc x.2, fun x => by simp [a.len, b.len]⟩
theorem Enc.pair_fits {α β : Type} {a : Enc α} {b : Enc β} {r : Rep α} {s : Rep β} (h : a.Fits r) (k : b.Fits s) : (a.pair b).Fits (r.pair s) := by
  obtain ⟨h1, h2, h3, h4⟩ := h
  obtain ⟨k1, k2, k3, k4⟩ := k
  refine ⟨by simp [Enc.pair, Rep.pair, h1, k1], ?_, ?_, ?_⟩
  · rintro w S es x ⟨c1, c2, rfl, r1, r2⟩
    rw [h2 r1, k2 r2]; rfl
  · intro w S x; exact ⟨_, _, rfl, h3, k3⟩
  · intro x
    simp only [Enc.pair, List.all_append, h4, k4, Bool.and_self]

section
variable {P : Program} {rd : Option Nat} {c : Ctx} {n : Sz} {σ : Fr} {M L M' L' : List Fact} {Q : Exit → Act → World → Prop} {ops : Array Oper} {rest : List Oper} {K : Act → World → Prop}
variable {d : Option Tmp} {D : Nat} {ty : TypeId} {pos : String} {aft : Array Edge} {g : Option (Nat × Bool)}
variable {α β : Type} {e : Enc α} {r : Rep α}

theorem Loud.toV {A : Type} {o : Oper} {val : A → Value} {xs : List α} (h : Loud P c n σ M L o val (fun b => Ar e (val b) xs :: M) (fun _ => L)) : Loud P c n σ M L o (fun v : Value => v) (fun v => Ar e v xs :: M) (fun _ => L) := fun a w s t =>
  nwp_mono (fun _ _ ⟨x, h1, h2⟩ => ⟨val x, h1, h2⟩) (h a w s t)

theorem cellsOf_rep (e : Enc α) (k : Nat) (x : α) : (cellsOf e (List.replicate k x)) = (List.replicate k (e.enc x)).flatten := by
  induction k with
  | zero => rfl
  | succ k ih => simp only [List.replicate_succ, cellsOf, List.flatMap_cons, List.flatten_cons] at *; rw [ih]

theorem made_rep (cs : List Value) (hcs : cs ≠ []) (k : Nat) : (madeCells cs.toArray (k * cs.length)).toList = (List.replicate k cs).flatten := by
  have hpos : 0 < cs.length := List.length_pos_iff.2 hcs
  apply List.ext_getElem
  · simp [madeCells]
  · intro i h1 h2
    have hi : i < k * cs.length := by simpa [madeCells] using h1
    have hm : i % cs.length < cs.length := Nat.mod_lt _ hpos
    have hrep : ∀ (k i : Nat) (h : i < ((List.replicate k cs).flatten).length), ((List.replicate k cs).flatten)[i] = cs[i % cs.length]'(Nat.mod_lt _ hpos) := by
      intro k
      induction k with
      | zero => intro i h; simp at h
      | succ k ih =>
        intro i h
        simp only [List.replicate_succ, List.flatten_cons]
        by_cases hlt : i < cs.length
        · rw [List.getElem_append_left hlt]
          simp [Nat.mod_eq_of_lt hlt]
        · rw [List.getElem_append_right (by omega)]
          rw [ih]
          congr 1
          rw [← Nat.mod_eq_sub_mod (by omega)]
    rw [hrep]
    simp [madeCells, hm]

/-- make([]T, k) -/
theorem Loud.makeS [Tab P] {T E : TypeId} {s1 s2 s3 s4 : Nat} {z z' : Value} {dE : TypeDesc} {x : Operand} {k : Int} (z0 : α)
    (hT : Tab.tab P T = some ⟨.slice E, s1, s2, z⟩) (hE : Tab.tab P E = some ⟨dE, s3, s4, z'⟩) (hx : ev σ x = some (.int .i64 k)) (h4 : Nat.ble s4 1024 = true) (h : 0 ≤ k ∧ k ≤ 1099511627) (h3 : e.sz = s3)
    (hz : z'.cells = (e.enc z0).toArray) (h1 : (e.enc z0).all one = true) :
    Loud P c n σ M L ⟨d, .makeSlice T x x, ty, pos, aft, g⟩ (fun v : Value => v) (fun v => Ar e v (List.replicate k.toNat z0) :: M) (fun _ => L) := by
  have h4' : s4 ≤ 1024 := by simpa using h4
  subst h3
  have hne : e.enc z0 ≠ [] := by
    intro h; have := e.len z0; rw [h] at this; have := e.pos; simp at *; omega
  refine Loud.toV (Loud.makeSlice (List.replicate k.toNat z0) hT hE hx h.1 ?_ (by omega) (by simp) ?_ ?_)
  · have := Int.mul_le_mul (show (s4 : Int) ≤ 1024 by omega) h.2 h.1 (by decide)
    omega
  · rw [hz, cellsOf_rep, ← e.len z0]
    exact made_rep _ hne _
  · rw [cellsOf_rep, List.all_eq_true]
    intro u hu
    obtain ⟨l, hl, hul⟩ := List.mem_flatten.1 hu
    rw [(List.mem_replicate.1 hl).2] at hul
    exact List.all_eq_true.1 h1 u hul

theorem Loud.buildS [Tab P] {T E : TypeId} {k s1 s2 s3 s4 : Nat} {z z' : Value} {dE : TypeDesc} {ps : List (Nat × Operand)} (xs : List α) (vs : List (Nat × Value))
    (hv : ps.map (fun p => (p.1, ev σ p.2)) = vs.map (fun p => (p.1, some p.2))) (hT : Tab.tab P T = some ⟨.slice E, s1, s2, z⟩) (hE : Tab.tab P E = some ⟨dE, s3, s4, z'⟩) (hs : Nat.ble (k * s3) 16777216 = true)
    (hfill : ∀ init : Array Value, init.size = k * s3 → Instr.fill (fun i => some (i * s3, s3)) init vs = some (cellsOf e xs).toArray)
    (hk : xs.length = k) (hl : Nat.ble xs.length 140737488355328 = true) (h1 : (cellsOf e xs).all one = true) :
    Loud P c n σ M L ⟨d, .buildSlice T k ps.toArray, ty, pos, aft, g⟩ (fun v : Value => v) (fun v => Ar e v xs :: M) (fun _ => L) :=
  Loud.toV (Loud.buildSlice xs hT hE hs hv hfill hk hl h1)

/-- a store into an element of one cell -/
theorem J.storeS [Tab P] (j : Nat) {T : TypeId} {s2 : Nat} {z : Value} {dT : TypeDesc} {x y : Operand} {v u : Value} {i : Int} {xs : List α} (yv : α) (h : 0 ≤ i ∧ i < xs.length) (hx : ev σ x = some (elq v (i.toNat * 1))) (hy : ev σ y = some u)
    (hf : M[j]? = some (Ar e v xs)) (hu : e.enc yv = [u]) (h1u : one u = true) (hT : Tab.tab P T = some ⟨dT, 1, s2, z⟩) (hq : e.sz = 1)
    (hh : J c n σ (M.set j (Ar e v (xs.set i.toNat yv))) L (wpList P ops Q rest)) :
    J c n σ M L (wpList P ops Q (⟨none, .store T x y, ty, pos, aft, none⟩ :: rest)) := J.storeA j yv hx hy hu h1u hf hT hq h.1 h.2 hh

/-- a store of a slice of the call's own into a slice of the call's own; the rows stand beside it -/
theorem J.storeRow [Tab P] (j q : Nat) {T : TypeId} {s2 : Nat} {z : Value} {dT : TypeDesc} {x y : Operand} {v u : Value} {i : Int} {vs vs' : List Value} {xss : List (List α)} (h : 0 ≤ i ∧ i < xss.length) (hx : ev σ x = some (elq v (i.toNat * 1))) (hy : ev σ y = some u)
    (hf : M[j]? = some (Ar Enc.raw v vs)) (hr : M[q]? = some (Rws e vs' xss)) (hvs : vs.set i.toNat u = vs') (hl : vs'.length = vs.length) (h1u : one u = true) (hT : Tab.tab P T = some ⟨dT, 1, s2, z⟩)
    (hh : J c n σ (M.set j (Ar Enc.raw v vs')) L (wpList P ops Q rest)) :
    J c n σ M L (wpList P ops Q (⟨none, .store T x y, ty, pos, aft, none⟩ :: rest)) := fun a w s t => by
  have hlen : vs'.length = xss.length := by obtain ⟨_, h⟩ := t.res hr; exact h.1
  exact J.storeA j u hx hy rfl h1u hf hT rfl h.1 (by omega) (by rw [hvs]; exact hh) a w s t

theorem J.rwsLen (q : Nat) {vs : List Value} {xss : List (List α)} {G : Act → World → Prop} (hr : M[q]? = some (Rws e vs xss)) (h : vs.length = xss.length → J c n σ M L G) : J c n σ M L G := fun a w s t => h (by obtain ⟨_, h⟩ := t.res hr; exact h.1) a w s t

theorem J.oneL {v : Value} {xs : List α} {G : Act → World → Prop} (hf : Lent M L (Sl r v xs)) (h : one v = true → J c n σ M L G) : J c n σ M L G := fun a w s t => h (by
  obtain ⟨S, a', cap, hv, _⟩ := hf.st t
  rw [hv]; rfl) a w s t

theorem J.lenB {v : Value} {xs : List α} {G : Act → World → Prop} (hf : Lent M L (Sl r v xs)) (h : xs.length ≤ 9223372036854775807 → J c n σ M L G) : J c n σ M L G := fun a w s t => h (by
  obtain ⟨S, a', cap, _, h, _⟩ := hf.st t
  exact h.1) a w s t

/-- the rows of a slice that is made of nil slices -/
theorem J.nilRows (e : Enc α) {G : Act → World → Prop} (h : J c n σ (Rws e [] [] :: M) L G) : J c n σ M L G := J.rowsNew e 0 h

/-- queue[k:] of a slice of the call's own -/
theorem Loud.sliceA [Tab P] (j : Nat) {T E : TypeId} {s1 s2 s3 s4 : Nat} {z z' : Value} {dE : TypeDesc} {x lo : Operand} {v : Value} {i : Int} {xs : List α} (h : 0 ≤ i ∧ i ≤ xs.length) (hx : ev σ x = some v) (hlo : ev σ lo = some (.int .i64 i)) (hf : M[j]? = some (Ar e v xs))
    (hT : Tab.tab P T = some ⟨.slice E, s1, s2, z⟩) (hE : Tab.tab P E = some ⟨dE, s3, s4, z'⟩) (h3 : e.sz = s3) :
    Loud P c n σ M L ⟨d, .slice T x (some lo) none none, ty, pos, aft, g⟩ (fun v' : Value => v') (fun v' => M.set j (Ar e v' (xs.drop i.toNat))) (fun _ => L) := fun a w s t => by
  subst h3
  obtain ⟨h0, h1⟩ := h
  obtain ⟨F, hF⟩ := t.res hf
  have hdl : (cellsOf e (xs.drop i.toNat)) = (cellsOf e xs).drop (i.toNat * e.sz) := by
    have : cellsOf e xs = cellsOf e (xs.take i.toNat) ++ cellsOf e (xs.drop i.toNat) := by rw [← cellsOf_append, List.take_append_drop]
    have hl : (cellsOf e (xs.take i.toNat)).length = i.toNat * e.sz := by rw [cellsOf_length, List.length_take, Nat.min_eq_left (by omega)]
    rw [this, ← hl, List.drop_left]
  have hall : (cellsOf e (xs.drop i.toNat)).all one = true := by
    rw [hdl, List.all_eq_true]; intro u hu; exact List.all_eq_true.1 hF.2.1 u (List.mem_of_mem_drop hu)
  obtain ⟨hl, h1c, hh⟩ := hF
  rcases hh with ⟨rfl, rfl⟩ | ⟨b, off, cap, T', cur, rfl, hFb, hb, hk, hc, ht⟩
  · have hi0 : i = 0 := by simp at h1; omega
    subst hi0
    have hrun : (execOp a.eval ⟨d, .slice T x (some lo) none none, ty, pos, aft, g⟩).run P w = .ok (.value (.slice none 0 0)) w := by
      simp [execOp, s.eval hx, s.eval hlo, Instr.sliceAt, Instr.slice, (Tab.ok hT).run_und w, Instr.sliceBounds, Instr.sliceBound, asIntOf, (Tab.ok hE).run_size w]
    simp only [Oper.wp, hrun, Oper.upon]
    refine ⟨.slice none 0 0, rfl, ?_⟩
    have : M.set j (Ar e (.slice none 0 0) (([] : List α).drop (0 : Int).toNat)) = M := by
      apply List.ext_getElem?
      intro q
      by_cases eq : q = j
      · subst eq; rw [List.getElem?_set_self (getElem?_lt hf), hf]; rfl
      · rw [List.getElem?_set_ne (Ne.symm eq)]
    rw [this]; exact t
  · have hle : i ≤ (xs.length : Int) := h1
    have hrun : (execOp a.eval ⟨d, .slice T x (some lo) none none, ty, pos, aft, g⟩).run P w = .ok (.value (.slice (if cap = i.toNat then some ⟨b, off, none⟩ else some ⟨b, off + i.toNat * e.sz, none⟩) (xs.length - i.toNat) (cap - i.toNat))) w := by
      simp [execOp, s.eval hx, s.eval hlo, Instr.sliceAt, Instr.slice, (Tab.ok hT).run_und w, Instr.sliceBounds, Instr.sliceBound, asIntOf, (Tab.ok hE).run_size w, h0, hle, add_none]
    simp only [Oper.wp, hrun, Oper.upon]
    refine ⟨_, rfl, ?_⟩
    refine t.upd hf rfl rfl rfl (Nat.le_refl _) fun F hF _ => ⟨fun _ _ _ => rfl, F, ?_, fun _ h => .inl h⟩
    obtain ⟨_, _, hh⟩ := hF
    rcases hh with ⟨hv, _⟩ | ⟨b', off', cap', T'', cur', hv, hFb', hb', _⟩
    · cases hv
    · cases hv
      rw [hb] at hb'; cases hb'
      refine ⟨by simp; omega, hall, .inr ?_⟩
      by_cases hcap : cap = i.toNat
      · have hnil : xs.drop i.toNat = [] := List.drop_of_length_le (by omega)
        rw [if_pos hcap, hnil]
        exact ⟨b, off, cap - i.toNat, T', cur, by simp; omega, hFb', hb, by simp, by have := Nat.mul_le_mul_right e.sz (show cap - i.toNat ≤ cap by omega); omega, by simp [cellsOf]⟩
      · rw [if_neg hcap]
        refine ⟨b, off + i.toNat * e.sz, cap - i.toNat, T', cur, by simp, hFb', hb, by simp; omega, ?_, ?_⟩
        · have := Nat.mul_le_mul_right e.sz (show i.toNat ≤ cap by omega)
          rw [Nat.sub_mul]; omega
        · rw [hdl, ← ht, List.drop_take, List.drop_drop, List.length_drop, Nat.sub_mul]
end
end Go.Sx
