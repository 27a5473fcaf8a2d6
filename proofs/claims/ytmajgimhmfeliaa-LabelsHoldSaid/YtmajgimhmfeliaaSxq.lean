/- The layer Sx, part 17: steps of the state alone; rows that are put together; parts of slices; blocks that are read; equality of structs. Conditions: a table of types that is right for the program. -/
import Derived.Test.YtmajgimhmfeliaaSxp
namespace Go.Sx
set_option linter.unusedVariables false
set_option linter.unusedSimpArgs false
open Go.RowKit

/-- a step of the state that no operation makes -/
def Stp (M L M' L' : List Fact) : Prop := ∀ c w, St c M L w → St c M' L' w

section
variable {P : Program} {rd : Option Nat} {c : Ctx} {n : Sz} {σ : Fr} {M L M' L' : List Fact} {Q : Exit → Act → World → Prop} {ops : Array Oper} {rest : List Oper} {K : Act → World → Prop}
variable {d : Option Tmp} {D : Nat} {ty : TypeId} {pos : String} {aft : Array Edge} {g : Option (Nat × Bool)}
variable {α β : Type} {e : Enc α} {r : Rep α}
variable {H Bs : List (Nat × List Fact × List Fact)} {G : Act → World → Prop} {GR : Act → World → List (Nat × World) → List (Nat × (World → Prop)) → Prop}

theorem J.stp (h : Stp M L M' L') (k : J c n σ M' L' G) : J c n σ M L G := fun a w s t => k a w s (h c w t)
theorem JR.stp (h : Stp M L M' L') (k : JR c n σ M' L' H Bs GR) : JR c n σ M L H Bs GR := fun a w X Y s t hX hY => k a w X Y s (h c w t) hX hY
theorem J.know {p : Prop} (h : ∀ c w, St c M L w → p) (k : p → J c n σ M L G) : J c n σ M L G := fun a w s t => k (h c w t) a w s t
theorem JR.know {p : Prop} (h : ∀ c w, St c M L w → p) (k : p → JR c n σ M L H Bs GR) : JR c n σ M L H Bs GR := fun a w X Y s t hX hY => k (h c w t) a w X Y s t hX hY

theorem Know.one {v : Value} {xs : List α} (hf : Lent M L (Sl r v xs)) : ∀ c w, St c M L w → one v = true := fun c w t => by
  obtain ⟨S, a', cap, hv, _⟩ := hf.st t
  rw [hv]; rfl
theorem Know.rws (q : Nat) {vs : List Value} {xss : List (List α)} (hr : M[q]? = some (Rws e vs xss)) : ∀ c w, St c M L w → vs.length = xss.length := fun c w t => by
  obtain ⟨_, h⟩ := t.res hr; exact h.1

/-- a resource without memory -/
theorem Stp.add {m : Fact} (h : ∀ w, m.p w (fun _ => False)) : Stp M L (m :: M) L := fun c w t => by
  obtain ⟨ho, F, hF, hL⟩ := t
  refine ⟨ho, fun i k => match i with | 0 => False | i + 1 => F i k, ⟨?_, ?_, ?_⟩, fun f hf => Fact.same (hL f hf) (fun k hk => ⟨hk.1, fun i hi => by
      cases i with
      | zero => exact hi
      | succ i => exact hk.2 i hi⟩) (fun _ _ _ => rfl)⟩
  · intro i m' hm
    cases i with
    | zero => simp at hm; subst hm; exact h w
    | succ i => exact hF.res i m' (by simpa using hm)
  · intro i k hk
    cases i with
    | zero => exact hk.elim
    | succ i => exact hF.rng i k hk
  · intro i j k hi hj
    cases i with
    | zero => exact hi.elim
    | succ i =>
      cases j with
      | zero => exact hj.elim
      | succ j => exact congrArg (· + 1) (hF.dis i j k hi hj)

theorem Stp.nilAr (e : Enc α) : Stp M L (Ar e (.slice none 0 0) [] :: M) L := Stp.add fun _ => ⟨by simp, rfl, .inl ⟨rfl, rfl⟩⟩
theorem Stp.rowsNew (e : Enc α) (k : Nat) : Stp M L (Rws e (List.replicate k (.slice none 0 0)) (List.replicate k []) :: M) L := Stp.add fun w => by
  refine ⟨by simp, fun _ _ => False, fun i v xs hv hx => ?_, fun _ _ h => h, fun _ _ _ h => h.elim⟩
  rw [List.getElem?_replicate] at hv hx
  split at hv
  · rename_i h; rw [if_pos h] at hx; cases hv; cases hx; exact ⟨by simp, rfl, .inl ⟨rfl, rfl⟩⟩
  · cases hv
theorem Stp.rowsNil (e : Enc α) : Stp M L (Rws e [] [] :: M) L := Stp.rowsNew e 0

theorem Stp.give (i : Nat) {v : Value} {xs : List α} (hi : M[i]? = some (Ar e v xs)) (hfit : e.Fits r) : Stp M L (M.eraseIdx i) (Sl r v xs :: L) := fun _ _ t => t.give hi (fun h => ArR.sl hfit h)
theorem Stp.giveBlk (i : Nat) {b : Nat} {cs : List Value} {T : TypeId} (hi : M[i]? = some (Blk b cs T)) : Stp M L (M.eraseIdx i) (Blk b cs T :: L) := fun _ _ t => t.give hi (fun h => h)

/-- one more row -/
theorem Stp.addRow (i j : Nat) {u : Value} {vs : List Value} {xss : List (List α)} {ys : List α} (hij : Nat.beq i j = false) (hf : M[i]? = some (Rws e vs xss)) (hg : M[j]? = some (Ar e u ys)) : Stp M L ((M.set i (Rws e (vs ++ [u]) (xss ++ [ys]))).eraseIdx j) L := fun c w t =>
  t.merge i j (fun e => by subst e; simp at hij) hf hg (by
    rintro w F1 F2 ⟨hlen, G, g1, g2, g3⟩ hA hd
    refine ⟨by simp [hlen], fun q k => (q < vs.length ∧ G q k) ∨ (q = vs.length ∧ F2 k), ?_, ?_, ?_⟩
    · intro q v xs hv hx
      by_cases hq : q < vs.length
      · rw [List.getElem?_append_left hq] at hv
        rw [List.getElem?_append_left (by omega)] at hx
        exact Fact.same (f := Ar e v xs) (g1 q v xs hv hx) (fun k hk => .inl ⟨hq, hk⟩) (fun _ _ _ => rfl)
      · rw [List.getElem?_append_right (by omega)] at hv
        rw [List.getElem?_append_right (by omega)] at hx
        have hq0 : q - vs.length = 0 := by have := getElem?_lt hv; simp at this; omega
        rw [hq0] at hv
        rw [show q - xss.length = 0 by omega] at hx
        simp at hv hx; subst hv; subst hx
        exact Fact.same (f := Ar e u ys) hA (fun k hk => .inr ⟨by omega, hk⟩) (fun _ _ _ => rfl)
    · rintro q k (⟨_, hk⟩ | ⟨_, hk⟩)
      · exact .inl (g2 q k hk)
      · exact .inr hk
    · rintro q q' k (⟨h1, hk⟩ | ⟨h1, hk⟩) (⟨h2, hk'⟩ | ⟨h2, hk'⟩)
      · exact g3 q q' k hk hk'
      · exact absurd hk' (hd k (g2 q k hk))
      · exact absurd hk (hd k (g2 q' k hk'))
      · omega)

theorem Stp.catRows (i j : Nat) {vs us : List Value} {xss yss : List (List α)} (hij : Nat.beq i j = false) (hf : M[i]? = some (Rws e vs xss)) (hg : M[j]? = some (Rws e us yss)) : Stp M L ((M.set i (Rws e (vs ++ us) (xss ++ yss))).eraseIdx j) L := fun c w t =>
  t.merge i j (fun e => by subst e; simp at hij) hf hg (by
    rintro w F1 F2 ⟨hlen, G, g1, g2, g3⟩ ⟨hlen', G', g1', g2', g3'⟩ hd
    refine ⟨by simp [hlen, hlen'], fun q k => (q < vs.length ∧ G q k) ∨ (vs.length ≤ q ∧ G' (q - vs.length) k), ?_, ?_, ?_⟩
    · intro q v xs hv hx
      by_cases hq : q < vs.length
      · rw [List.getElem?_append_left hq] at hv
        rw [List.getElem?_append_left (by omega)] at hx
        exact Fact.same (f := Ar e v xs) (g1 q v xs hv hx) (fun k hk => .inl ⟨hq, hk⟩) (fun _ _ _ => rfl)
      · rw [List.getElem?_append_right (by omega)] at hv
        rw [List.getElem?_append_right (by omega), ← hlen] at hx
        exact Fact.same (f := Ar e v xs) (g1' _ v xs hv hx) (fun k hk => .inr ⟨by omega, hk⟩) (fun _ _ _ => rfl)
    · rintro q k (⟨_, hk⟩ | ⟨_, hk⟩)
      · exact .inl (g2 q k hk)
      · exact .inr (g2' _ k hk)
    · rintro q q' k (⟨h1, hk⟩ | ⟨h1, hk⟩) (⟨h2, hk'⟩ | ⟨h2, hk'⟩)
      · exact g3 q q' k hk hk'
      · exact absurd (g2' _ k hk') (hd k (g2 q k hk))
      · exact absurd (g2' _ k hk) (hd k (g2 q' k hk'))
      · have := g3' _ _ k hk hk'; omega)

/-- a row is replaced by a slice of the call's own -/
theorem Stp.putRow (i j : Nat) {u : Value} {k : Int} {vs : List Value} {xss : List (List α)} {ys : List α} (hij : Nat.beq i j = false) (hf : M[i]? = some (Rws e vs xss)) (hg : M[j]? = some (Ar e u ys)) (h : 0 ≤ k ∧ k < xss.length) :
    Stp M L ((M.set i (Rws e (vs.set k.toNat u) (xss.set k.toNat ys))).eraseIdx j) L := fun c w t => by
  have hl := Know.rws i hf c w t
  exact J.putRow (n := ⟨0, []⟩) (σ := []) (G := fun _ w => St c ((M.set i (Rws e (vs.set k.toNat u) (xss.set k.toNat ys))).eraseIdx j) L w) (k := k) i j hij hf hg h.1 (by omega) (fun _ _ _ t => t) ⟨#[], []⟩ w ⟨rfl, rfl, fun _ _ h => by simp [lk] at h⟩ t

theorem Stp.rows2 (i j q : Nat) {v : Value} {vs : List Value} {xss : List (List α)} (hij : Nat.beq i j = false) (hi : M[i]? = some (Ar Enc.raw v vs)) (hj : M[j]? = some (Rws e vs xss)) (hfit : e.Fits r)
    (hq : ((M.set i (S2 r v (vs.zip xss) xss)).eraseIdx j)[q]? = some (S2 r v (vs.zip xss) xss)) : Stp M L (((M.set i (S2 r v (vs.zip xss) xss)).eraseIdx j).eraseIdx q) (S2 r v (vs.zip xss) xss :: L) := fun c w t =>
  (t.merge (m' := S2 r v (vs.zip xss) xss) i j (fun e => by subst e; simp at hij) hi hj (fun h1 h2 _ => ⟨rows_sl hfit h1 h2, by rw [List.map_snd_zip]; obtain ⟨hl, _⟩ := h2; omega⟩)).give hq (fun h => h)

theorem LentAll.tail (l : List Fact) {Lf : List Fact} : LentAll M (l ++ Lf) Lf := fun f hf => by
  obtain ⟨j, hj⟩ := List.getElem?_of_mem (List.mem_append_right l hf)
  exact Lent.fact j hj
theorem Lent.nilS2 : Lent M L (S2 r (.slice none 0 0) [] []) := fun _ _ _ _ _ _ _ _ => ⟨⟨none, 0, rfl, by simp, .inl rfl⟩, rfl⟩

/-- the tail of a region, walked as a list -/
theorem JR.tailD {l : List Oper} {m : List Nat} {k0 : Nat} {rs : List Nat} (k : Nat) (hk : rs.all (Nat.ble k0) = true) (he : rs.map (l[·]?) = (l.drop k).map some) (h : J c n σ M L (wpList P l.toArray Q (l.drop k))) : JR c n σ M L H Bs (RW P l.toArray Q (before m) (louds l) k0 rs) := JR.tail hk he h

/-! ## Parts of slices -/
def slq (v : Value) (l h size : Nat) : Value := match v with
  | .slice a _ cap => .slice (if cap = l then a else a.map (·.add (l * size))) (h - l) (cap - l)
  | v => v

theorem SlR.part {w : World} {S : Nat → Prop} {v : Value} {xs : List α} (hs : SlR r w S v xs) {l h : Nat} (hl : l ≤ h) (hh : h ≤ xs.length) : SlR r w S (slq v l h r.sz) ((xs.take h).drop l) := by
  obtain ⟨a, cap, rfl, hb, hx⟩ := hs
  have hlen : ((xs.take h).drop l).length = h - l := by simp; omega
  by_cases he : (xs.take h).drop l = []
  · rw [he] at hlen ⊢
    refine ⟨_, _, by simp only [slq]; congr 1; simpa using hlen.symm, by simp, .inl rfl⟩
  · rcases hx with rfl | ⟨b, off, rfl, hS, hx⟩
    · simp at he
    · have hlt : l < h := by
        rcases Nat.lt_or_ge l h with h' | h'
        · exact h'
        · exfalso; apply he; apply List.eq_nil_of_length_eq_zero; omega
      have hc : cap ≠ l := by omega
      refine ⟨some ⟨b, off + l * r.sz, none⟩, cap - l, by simp [slq, hc, hlen, add_none], by omega, .inr ⟨b, off + l * r.sz, rfl, hS, fun i x hi => ?_⟩⟩
      have hi' : xs[l + i]? = some x := by
        rw [List.getElem?_drop, List.getElem?_take] at hi
        split at hi
        · exact hi
        · cases hi
      obtain ⟨es, hes, hr⟩ := hx (l + i) x hi'
      refine ⟨es, fun j u hu => ?_, hr⟩
      have := hes j u hu
      rw [Nat.add_mul] at this
      rw [show off + l * r.sz + (i * r.sz + j) = off + (l * r.sz + i * r.sz + j) by omega]
      exact this

theorem Lent.part {v : Value} {xs : List α} (hf : Lent M L (Sl r v xs)) {l h : Int} {q : Nat} (hq : r.sz = q) (hl : 0 ≤ l ∧ l ≤ h ∧ h ≤ xs.length) : Lent M L (Sl r (slq v l.toNat h.toNat q) ((xs.take h.toNat).drop l.toNat)) := by
  subst hq
  exact hf.mono fun hs => SlR.part hs (by omega) (by omega)

theorem Y.sliceLH [Tab P] {T E : TypeId} {s1 s2 s3 s4 : Nat} {z z' : Value} {dE : TypeDesc} {x lo hi : Operand} {v : Value} {i k : Int} {xs : List α} (hx : ev σ x = some v) (hlo : ev σ lo = some (.int .i64 i)) (hhi : ev σ hi = some (.int .i64 k)) (hf : Lent M L (Sl r v xs))
    (hT : Tab.tab P T = some ⟨.slice E, s1, s2, z⟩) (hE : Tab.tab P E = some ⟨dE, s3, s4, z'⟩) (h : 0 ≤ i ∧ i ≤ k ∧ k ≤ xs.length) : Y P c n σ M L ⟨d, .slice T x (some lo) (some hi) none, ty, pos, aft, g⟩ (slq v i.toNat k.toNat s3) := fun a w s t => by
  obtain ⟨S, a', cap, hv, hb, _⟩ := hf.st t
  subst hv
  have h1 : 0 ≤ k ∧ k ≤ (cap : Int) := by omega
  have h2 : 0 ≤ i ∧ i ≤ ((k.toNat : Nat) : Int) := by omega
  simp [execOp, s.eval hx, s.eval hlo, s.eval hhi, Instr.sliceAt, Instr.slice, (Tab.ok hT).run_und w, Instr.sliceBounds, Instr.sliceBound, asIntOf, (Tab.ok hE).run_size w, slq, h1, h2]
  omega

theorem Y.sliceH [Tab P] {T E : TypeId} {s1 s2 s3 s4 : Nat} {z z' : Value} {dE : TypeDesc} {x hi : Operand} {v : Value} {k : Int} {xs : List α} (hx : ev σ x = some v) (hhi : ev σ hi = some (.int .i64 k)) (hf : Lent M L (Sl r v xs))
    (hT : Tab.tab P T = some ⟨.slice E, s1, s2, z⟩) (hE : Tab.tab P E = some ⟨dE, s3, s4, z'⟩) (h : 0 ≤ (0 : Int) ∧ 0 ≤ k ∧ k ≤ xs.length) : Y P c n σ M L ⟨d, .slice T x none (some hi) none, ty, pos, aft, g⟩ (slq v (0 : Int).toNat k.toNat s3) := fun a w s t => by
  obtain ⟨S, a', cap, hv, hb, _⟩ := hf.st t
  subst hv
  have h1 : 0 ≤ k ∧ k ≤ (cap : Int) := by omega
  simp [execOp, s.eval hx, s.eval hhi, Instr.sliceAt, Instr.slice, (Tab.ok hT).run_und w, Instr.sliceBounds, Instr.sliceBound, asIntOf, (Tab.ok hE).run_size w, slq, h1]

theorem Y.sliceL [Tab P] {T E : TypeId} {s1 s2 s3 s4 : Nat} {z z' : Value} {dE : TypeDesc} {x lo : Operand} {v : Value} {i : Int} {xs : List α} (hx : ev σ x = some v) (hlo : ev σ lo = some (.int .i64 i)) (hf : Lent M L (Sl r v xs))
    (hT : Tab.tab P T = some ⟨.slice E, s1, s2, z⟩) (hE : Tab.tab P E = some ⟨dE, s3, s4, z'⟩) (h : 0 ≤ i ∧ i ≤ (xs.length : Int) ∧ (xs.length : Int) ≤ xs.length) : Y P c n σ M L ⟨d, .slice T x (some lo) none none, ty, pos, aft, g⟩ (slq v i.toNat (xs.length : Int).toNat s3) := fun a w s t => by
  obtain ⟨S, a', cap, hv, hb, _⟩ := hf.st t
  subst hv
  have h1 : 0 ≤ i ∧ i ≤ (xs.length : Int) := by omega
  simp [execOp, s.eval hx, s.eval hlo, Instr.sliceAt, Instr.slice, (Tab.ok hT).run_und w, Instr.sliceBounds, Instr.sliceBound, asIntOf, (Tab.ok hE).run_size w, slq, h1]

/-! ## Blocks that are read -/
theorem Y.loadBS [Tab P] {T T' : TypeId} {s1 s2 : Nat} {z : Value} {dT : TypeDesc} {x : Operand} {b o : Nat} {cs : List Value} {v : Value} (hx : ev σ x = some (.pointer (some ⟨b, o, none⟩)))
    (hM : Lent M L (Blk b cs T')) (hT : Tab.tab P T = some ⟨dT, s1, s2, z⟩) (hd : aggD dT = false) (hv : cs[o]? = some v) : Y P c n σ M L ⟨d, .load T x, ty, pos, aft, g⟩ v := fun a w s t => by
  obtain ⟨F, hF⟩ := hM.st t
  simp [execOp, s.eval hx, run_load1 (Tab.ok hT) hd (Blk.cell hF hv)]
theorem Y.loadBAllS [Tab P] {T T' : TypeId} {s2 : Nat} {z : Value} {dT : TypeDesc} {x : Operand} {b : Nat} {cs : List Value} (hx : ev σ x = some (.pointer (some ⟨b, 0, none⟩)))
    (hM : Lent M L (Blk b cs T')) (hT : Tab.tab P T = some ⟨dT, cs.length, s2, z⟩) (hd : aggD dT = true) : Y P c n σ M L ⟨d, .load T x, ty, pos, aft, g⟩ (.agg cs.toArray) := fun a w s t => by
  obtain ⟨F, hF⟩ := hM.st t
  have := run_loadAll (w := w) (A := ⟨b, 0, none⟩) (cs := cs) (Tab.ok hT) hd rfl (fun j v hv => by rw [add_none, Nat.zero_add]; exact Blk.cell hF hv)
  simp [execOp, s.eval hx, this]

/-! ## Equality of structs -/
theorem Y.eqA {t t' : TypeId} {x y : Operand} {u v : Value} {p : Prop} [Decidable p] (hx : ev σ x = some u) (hy : ev σ y = some v)
    (h : ∀ w, (eqGuard .eql t x y u v).run P w = .ok () w ∧ (binOp .eql t u v).run P w = .ok (.bool (decide p)) w) : Y P c n σ M L ⟨d, .binOp .eql t x y t', ty, pos, aft, g⟩ (.bool (decide p)) := fun a w s _ => by
  simp [execOp, s.eval hx, s.eval hy, (h w).1, (h w).2]
theorem Y.eqAN {t t' : TypeId} {x y : Operand} {u v : Value} {p : Prop} [Decidable p] (hx : ev σ x = some u) (hy : ev σ y = some v)
    (h : ∀ w, (eqGuard .neq t x y u v).run P w = .ok () w ∧ (binOp .neq t u v).run P w = .ok (.bool (decide p)) w) : Y P c n σ M L ⟨d, .binOp .neq t x y t', ty, pos, aft, g⟩ (.bool (decide p)) := fun a w s _ => by
  simp [execOp, s.eval hx, s.eval hy, (h w).1, (h w).2]

/-! ## Arrays in blocks -/
theorem Y.indexArr [Tab P] {T E : TypeId} {k s1 s2 s3 s4 : Nat} {z z' : Value} {dE : TypeDesc} {x y : Operand} {b : Nat} {i : Int} (hx : ev σ x = some (.pointer (some ⟨b, 0, none⟩))) (hy : ev σ y = some (.int .i64 i))
    (hT : Tab.tab P T = some ⟨.array k E, s1, s2, z⟩) (hE : Tab.tab P E = some ⟨dE, s3, s4, z'⟩) (h3 : (s3 == 0) = false) (h : 0 ≤ i ∧ i < (k : Int)) :
    Y P c n σ M L ⟨d, .indexAddr T x y, ty, pos, aft, g⟩ (.pointer (some ⟨b, i.toNat * s3, none⟩)) := fun a w s t => by
  have hne : s3 ≠ 0 := by simpa using h3
  simp [execOp, s.eval hx, s.eval hy, Instr.indexAt, asIntOf, (Tab.ok hT).run_und w, h, Instr.sureAddr, (Tab.ok hE).run_size w, hne, add_none]
end
end Go.Sx
