/- The layer Sx, part 22: slices that are changed in place; rows that are taken out; small arrays as values. Conditions: a table of types that is right for the program. -/
import Derived.Test.YtmajgimhmfeliaaSxu
set_option linter.unusedVariables false
set_option linter.unusedSimpArgs false
namespace Go.Sx
open Go.RowKit
section
variable {P : Program} {rd : Option Nat} {c : Ctx} {n : Sz} {σ σ' : Fr} {M L M' L' : List Fact} {Q : Exit → Act → World → Prop} {ops : Array Oper} {rest : List Oper} {K : Act → World → Prop} {G : Act → World → Prop}
variable {d : Option Tmp} {D : Nat} {ty : TypeId} {pos : String} {aft : Array Edge} {g : Option (Nat × Bool)}
variable {α β : Type} {e : Enc α} {r : Rep α}

/-- the capacity is at least m -/
def capGe (v : Value) (m : Nat) : Prop := match v with
  | .slice _ _ cap => m ≤ cap
  | _ => False

theorem Know.cap (q : Nat) {v : Value} {xs : List α} (hf : M[q]? = some (Ar e v xs)) : ∀ c w, St c M L w → capGe v xs.length := fun c w t => by
  obtain ⟨F, _, _, h⟩ := t.res hf
  rcases h with ⟨rfl, rfl⟩ | ⟨b, off, cap, T, cur, rfl, _, _, h, _⟩
  · exact Nat.le_refl _
  · exact h

theorem capGe.slq {v : Value} {m k q : Nat} (h : capGe v m) : capGe (slq v 0 k q) m := by
  cases v <;> simp_all [capGe, Go.Sx.slq]

theorem slq_zero {b off cap l k q : Nat} : slq (.slice (some ⟨b, off, none⟩) l cap) 0 k q = .slice (some ⟨b, off, none⟩) k cap := by
  simp [slq, add_none]

theorem Y.slice3 [Tab P] {T E : TypeId} {s1 s2 s3 s4 : Nat} {z z' : Value} {dE : TypeDesc} {x lo hi mx : Operand} {v : Value} {i k m : Int} {xs : List α} (hx : ev σ x = some v) (hlo : ev σ lo = some (.int .i64 i)) (hhi : ev σ hi = some (.int .i64 k)) (hmx : ev σ mx = some (.int .i64 m)) (hf : Lent M L (Sl r v xs))
    (hT : Tab.tab P T = some ⟨.slice E, s1, s2, z⟩) (hE : Tab.tab P E = some ⟨dE, s3, s4, z'⟩) (h : 0 ≤ i ∧ i ≤ k ∧ k ≤ m ∧ m ≤ xs.length) : Y P c n σ M L ⟨d, .slice T x (some lo) (some hi) (some mx), ty, pos, aft, g⟩
      (match v with | .slice a _ _ => .slice (if m.toNat = i.toNat then a else a.map (·.add (i.toNat * s3))) (k.toNat - i.toNat) (m.toNat - i.toNat) | v => v) := fun a w s t => by
  obtain ⟨S, a', cap, hv, hb, _⟩ := hf.st t
  subst hv
  have h0 : 0 ≤ m ∧ m ≤ (cap : Int) := by omega
  have h1 : 0 ≤ k ∧ k ≤ ((m.toNat : Nat) : Int) := by omega
  have h2 : 0 ≤ i ∧ i ≤ ((k.toNat : Nat) : Int) := by omega
  simp [execOp, s.eval hx, s.eval hlo, s.eval hhi, s.eval hmx, Instr.sliceAt, Instr.slice, (Tab.ok hT).run_und w, Instr.sliceBounds, Instr.sliceBound, asIntOf, (Tab.ok hE).run_size w, h0, h1, h2]
  rw [if_pos (by omega), if_pos (by omega)]

/-- a part of a slice of the call's own is moved to the left, behind what stands ahead of i -/
theorem Loud.appendIn [Tab P] (q : Nat) {r : Rep α} (hfit : e.Fits r) {x y : Operand} {v : Value} {xs : List α} {i j : Int} {T E : TypeId} {s1 s2 s3 s4 : Nat} {z z' : Value} {dE : TypeDesc} (hx : ev σ x = some (slq v (0 : Int).toNat i.toNat s3)) (hy : ev σ y = some (slq v j.toNat (xs.length : Int).toNat s3)) (hf : M[q]? = some (Ar e v xs))
    (hT : Tab.tab P T = some ⟨.slice E, s1, s2, z⟩) (hE : Tab.tab P E = some ⟨dE, s3, s4, z'⟩) (h3 : e.sz = s3) (h : 0 ≤ i ∧ i < j ∧ j ≤ xs.length) :
    Loud P c n σ M L ⟨d, .call ⟨.builtin .append, #[x, y], #[T, T]⟩, ty, pos, aft, g⟩ (fun _ : Unit => slq v 0 (i + ((xs.length : Int) - j)).toNat s3) (fun _ => M.set q (Ar e (slq v 0 (i + ((xs.length : Int) - j)).toNat s3) (xs.take i.toNat ++ xs.drop j.toNat))) (fun _ => L) := fun a w s t => by
  subst h3
  have t0 := t
  obtain ⟨ho, FF, hO, hLL⟩ := t0
  have hA := hO.res q _ hf
  have hsl := ArR.sl hfit hA
  have hp := SlR.part hsl (l := j.toNat) (h := xs.length) (by omega) (Nat.le_refl _)
  rw [hfit.1] at hp
  obtain ⟨hs, h1y⟩ := SlR.srcE hfit hp hT
  obtain ⟨h0, hone, hh⟩ := hA
  rcases hh with ⟨_, rfl⟩ | ⟨b, off, cap, T', cur, rfl, hFb, hbk, hk, hc, ht⟩
  · simp at h; omega
  have hlen : ((xs.take xs.length).drop j.toNat) = xs.drop j.toNat := by rw [List.take_length]
  rw [hlen] at hs h1y
  have hld : (xs.drop j.toNat).length = xs.length - j.toNat := by simp
  have hn : (i + ((xs.length : Int) - j)).toNat = i.toNat + (xs.length - j.toNat) := by omega
  rw [show (0 : Int).toNat = 0 from rfl, slq_zero] at hx
  rw [show (xs.length : Int).toNat = xs.length by omega] at hy
  have hroom : i.toNat + (xs.drop j.toNat).length ≤ cap := by omega
  have hr := run_room (P := P) (ty := ty) (Tab.ok hT) rfl (Tab.ok hE) hbk hs hroom hc
  simp only [Oper.wp, run_appendOp s hx hy w, hr, Result.andThen_ok, Oper.upon]
  have hmul : (i.toNat + (xs.length - j.toNat)) * e.sz ≤ cap * e.sz := Nat.mul_le_mul_right _ (by omega)
  have hcl : (cellsOf e (xs.drop j.toNat)).length = (xs.length - j.toNat) * e.sz := by rw [cellsOf_length, hld]
  have hmul2 : (i.toNat + (xs.length - j.toNat)) * e.sz = i.toNat * e.sz + (xs.length - j.toNat) * e.sz := Nat.add_mul _ _ _
  have hlb : off + i.toNat * e.sz + (cellsOf e (xs.drop j.toNat)).length ≤ cur.toList.length := by
    rw [hcl]; simp; omega
  refine ⟨(), ?_, ?_⟩
  · rw [slq_zero, hn, hld]
  · rw [slq_zero, hn]
    refine St.updF ho hO hLL hf rfl rfl rfl (by simp) (fun k _ hk' => setRow_other w b k _ (fun e => hk' (by subst e; exact hFb))) (F' := FF q) ?_ (fun k hk => .inl hk)
    refine ⟨by simp; omega, ?_, .inr ⟨b, off, cap, T', _, by simp; omega, hFb, setRow_heap w b _ _ T' _ hbk, by simp; omega, ?_, ?_⟩⟩
    · rw [cellsOf_append, List.all_append, h1y, Bool.and_true]
      refine List.all_eq_true.2 fun u hu => List.all_eq_true.1 hone u ?_
      rw [← List.take_append_drop i.toNat xs, cellsOf_append]
      exact List.mem_append_left _ hu
    · simp only [List.size_toArray, List.length_append, List.length_take, List.length_drop]
      have : cur.size = cur.toList.length := by simp
      omega
    · have hd := drop_room cur.toList off (i.toNat * e.sz) (cellsOf e (xs.drop j.toNat)) hlb
      have e1 : (xs.take i.toNat ++ xs.drop j.toNat).length * e.sz = i.toNat * e.sz + (cellsOf e (xs.drop j.toNat)).length := by
        rw [hcl, List.length_append, List.length_take, hld, Nat.min_eq_left (by omega)]; exact hmul2
      have e2 : (cur.toList.drop off).take (i.toNat * e.sz) = cellsOf e (xs.take i.toNat) := by
        have : (cur.toList.drop off).take (i.toNat * e.sz) = ((cur.toList.drop off).take (xs.length * e.sz)).take (i.toNat * e.sz) := by
          rw [List.take_take, Nat.min_eq_left (Nat.mul_le_mul_right _ (by omega))]
        rw [this, ht]
        conv => lhs; rw [← List.take_append_drop i.toNat xs, cellsOf_append]
        have hl2 : (cellsOf e (xs.take i.toNat)).length = i.toNat * e.sz := by rw [cellsOf_length, List.length_take, Nat.min_eq_left (by omega)]
        rw [← hl2, List.take_left]
      rw [e1, cellsOf_append, ← e2]
      exact hd

theorem Y.sliceTail [Tab P] (q : Nat) {T E : TypeId} {s1 s2 s3 s4 : Nat} {z z' : Value} {dE : TypeDesc} {x lo hi : Operand} {v : Value} {i k : Int} {xs : List α} (hx : ev σ x = some v) (hlo : ev σ lo = some (.int .i64 i)) (hhi : ev σ hi = some (.int .i64 k)) (hf : M[q]? = some (Ar e v xs))
    (hT : Tab.tab P T = some ⟨.slice E, s1, s2, z⟩) (hE : Tab.tab P E = some ⟨dE, s3, s4, z'⟩) (hcap : capGe v k.toNat) (h : 0 ≤ i ∧ i ≤ k) : Y P c n σ M L ⟨d, .slice T x (some lo) (some hi) none, ty, pos, aft, g⟩ (slq v i.toNat k.toNat s3) := fun a w s t => by
  obtain ⟨F, _, _, hh⟩ := t.res hf
  obtain ⟨a', l, cap, rfl⟩ : ∃ a' l cap, v = .slice a' l cap := by
    rcases hh with ⟨rfl, _⟩ | ⟨b, off, cap, T', cur, rfl, _⟩
    · exact ⟨_, _, _, rfl⟩
    · exact ⟨_, _, _, rfl⟩
  have hc : k.toNat ≤ cap := hcap
  have h1 : 0 ≤ k ∧ k ≤ (cap : Int) := by omega
  have h2 : 0 ≤ i ∧ i ≤ ((k.toNat : Nat) : Int) := by omega
  simp [execOp, s.eval hx, s.eval hlo, s.eval hhi, Instr.sliceAt, Instr.slice, (Tab.ok hT).run_und w, Instr.sliceBounds, Instr.sliceBound, asIntOf, (Tab.ok hE).run_size w, slq, h1, h2]
  omega

theorem zeroCells_mem {zc : Array Value} {k : Nat} {u : Value} (hs : 0 < zc.size) (h : u ∈ (Builtin.zeroCells zc k).toList) : u ∈ zc.toList := by
  unfold Builtin.zeroCells at h
  simp only [Array.toList_map, List.mem_map] at h
  obtain ⟨i, _, rfl⟩ := h
  have hm : i % zc.size < zc.size := Nat.mod_lt _ hs
  rw [getElem!_pos zc (i % zc.size) hm]
  simp

theorem take_room (cur : List Value) (off k o : Nat) (ns : List Value) (ho : off + k ≤ o) (h : o + ns.length ≤ cur.length) :
    ((cur.take o ++ ns ++ cur.drop (o + ns.length)).drop off).take k = (cur.drop off).take k := by
  rw [List.append_assoc, List.drop_append_of_le_length (by simp; omega), List.drop_take, List.take_append_of_le_length (by simp; omega), List.take_take, Nat.min_eq_left (by omega)]

/-- what stands behind the length of a slice of the call's own is cleared -/
theorem J.clearTail [Tab P] (q : Nat) {x : Operand} {v : Value} {xs : List α} {k m : Nat} {T E : TypeId} {s1 s2 s3 s4 : Nat} {z z' : Value} {dE : TypeDesc} (hx : ev σ x = some (slq v k m s3)) (hf : M[q]? = some (Ar e v xs)) (hk : k = xs.length) (hcap : capGe v m) (hkm : k ≤ m)
    (hT : Tab.tab P T = some ⟨.slice E, s1, s2, z⟩) (hE : Tab.tab P E = some ⟨dE, s3, s4, z'⟩) (h3 : e.sz = s3) (hz : z'.cells.size = s3) (hz1 : z'.cells.toList.all one = true) (h : J c n σ M L (wpList P ops Q rest)) :
    J c n σ M L (wpList P ops Q (⟨none, .call ⟨.builtin .clear, #[x], #[T]⟩, ty, pos, aft, none⟩ :: rest)) := fun a w s t => by
  subst h3 hk
  refine wpList_take rfl ?_
  have t0 := t
  obtain ⟨ho, FF, hO, hLL⟩ := t0
  have hA := hO.res q _ hf
  obtain ⟨h0, hone, hh⟩ := hA
  have hu := (Tab.ok hT).run_und w
  rcases hh with ⟨rfl, rfl⟩ | ⟨b, off, cap, T', cur, rfl, hFb, hbk, hk, hc, ht⟩
  · have hm : m = 0 := by have : m ≤ 0 := hcap; omega
    subst hm
    have hrun : (execOp a.eval ⟨none, .call ⟨.builtin .clear, #[x], #[T]⟩, ty, pos, aft, none⟩).run P w = .ok (.value (.tuple #[])) w := by
      simp [execOp, resolve, invoke, s.eval hx, builtin, Builtin.clear_, hu, slq]
    simp only [Oper.wp, hrun, Oper.upon]
    exact h _ w s t
  · have hcap' : m ≤ cap := hcap
    by_cases he : m = xs.length
    · have hrun : (execOp a.eval ⟨none, .call ⟨.builtin .clear, #[x], #[T]⟩, ty, pos, aft, none⟩).run P w = .ok (.value (.tuple #[])) w := by
        subst he
        by_cases hc2 : cap = xs.length <;> simp [execOp, resolve, invoke, s.eval hx, builtin, Builtin.clear_, hu, slq, hc2]
      simp only [Oper.wp, hrun, Oper.upon]
      exact h _ w s t
    · have hlt : xs.length < m := by omega
      have hne : cap ≠ xs.length := by omega
      obtain ⟨k, hk2⟩ : ∃ k, m - xs.length = k + 1 := ⟨m - xs.length - 1, by omega⟩
      have hv : slq (.slice (some ⟨b, off, none⟩) xs.length cap) xs.length m e.sz = .slice (some ⟨b, off + xs.length * e.sz, none⟩) (k + 1) (cap - xs.length) := by
        simp [slq, hne, add_none, hk2]
      have hzl : (Builtin.zeroCells z'.cells (k + 1)).toList.length = (k + 1) * e.sz := by
        have := size_zeroCells z'.cells (k + 1)
        rw [hz] at this
        simpa using this
      have hfit : off + xs.length * e.sz + 0 + (Builtin.zeroCells z'.cells (k + 1)).toList.length ≤ cur.size := by
        have h1 : (xs.length + (k + 1)) * e.sz ≤ cap * e.sz := Nat.mul_le_mul_right _ (by omega)
        have h2 : (xs.length + (k + 1)) * e.sz = xs.length * e.sz + (k + 1) * e.sz := Nat.add_mul _ _ _
        omega
      have hoz : ∀ u ∈ (Builtin.zeroCells z'.cells (k + 1)).toList, u.oneCell' = true := fun u hu => by
        refine one_oneCell (List.all_eq_true.1 hz1 u ?_)
        exact zeroCells_mem (by rw [hz]; exact e.pos) hu
      have hst := run_storeCells_at P b (off + xs.length * e.sz) T' _ 0 cur w hbk hfit hoz
      simp only [Nat.add_zero] at hst
      have hzv := (Tab.ok hE).run_zero w
      have hrun : (execOp a.eval ⟨none, .call ⟨.builtin .clear, #[x], #[T]⟩, ty, pos, aft, none⟩).run P w = .ok (.value (.tuple #[])) (w.setRow b (cur.toList.take (off + xs.length * e.sz) ++ (Builtin.zeroCells z'.cells (k + 1)).toList ++ cur.toList.drop (off + xs.length * e.sz + (Builtin.zeroCells z'.cells (k + 1)).toList.length)).toArray) := by
        simp [execOp, resolve, invoke, s.eval hx, hv, builtin, Builtin.clear_, hu, hzv, hst]
      simp only [Oper.wp, hrun, Oper.upon]
      refine h _ _ s ?_
      have hset : M.set q (Ar e (.slice (some ⟨b, off, none⟩) xs.length cap) xs) = M := by
        have hq : q < M.length := (List.getElem?_eq_some_iff.1 hf).1
        have := (List.getElem?_eq_some_iff.1 hf).2
        conv => rhs; rw [← List.set_getElem_self hq]
        rw [this]
      rw [← hset]
      refine St.updF ho hO hLL hf rfl rfl rfl (by simp) (fun k _ hk' => setRow_other w b k _ (fun e => hk' (by subst e; exact hFb))) (F' := FF q) ?_ (fun k hk => .inl hk)
      refine ⟨h0, hone, .inr ⟨b, off, cap, T', _, rfl, hFb, setRow_heap w b _ _ T' _ hbk, hk, ?_, ?_⟩⟩
      · simp only [List.size_toArray, List.length_append, List.length_take, List.length_drop]
        have : cur.size = cur.toList.length := by simp
        omega
      · have := take_room cur.toList off (xs.length * e.sz) (off + xs.length * e.sz) (Builtin.zeroCells z'.cells (k + 1)).toList (Nat.le_refl _) (by simpa using hfit)
        rw [← ht]
        exact this

/-- a row is taken out; nil stands in its place -/
theorem Stp.takeRow (i : Nat) {k : Int} {vs : List Value} {xss : List (List α)} (hf : M[i]? = some (Rws e vs xss)) (h : 0 ≤ k ∧ k < xss.length) :
    Stp M L (Ar e (at' vs k) (at' xss k) :: M.set i (Rws e (vs.set k.toNat (.slice none 0 0)) (xss.set k.toNat []))) L := fun c w t => by
  obtain ⟨ho, F, hF, hL⟩ := t
  obtain ⟨hlen, G, g1, g2, g3⟩ := hF.res i _ hf
  have hkl : k.toNat < vs.length := by omega
  have hlt : i < M.length := (List.getElem?_eq_some_iff.1 hf).1
  have hrow := g1 k.toNat _ _ (at'_some h.1 (by omega)) (at'_some h.1 h.2)
  refine ⟨ho, fun j q => match j with | 0 => G k.toNat q | j + 1 => (j = i ∧ ∃ j', j' ≠ k.toNat ∧ G j' q) ∨ (j ≠ i ∧ F j q), ⟨?_, ?_, ?_⟩, fun f hf => ?_⟩
  · intro j m hm
    cases j with
    | zero => simp at hm; subst hm; exact hrow
    | succ j =>
      rw [List.getElem?_cons_succ] at hm
      by_cases ej : j = i
      · subst ej
        rw [List.getElem?_set_self hlt] at hm
        cases hm
        refine ⟨by simp [hlen], fun j' q => j' ≠ k.toNat ∧ G j' q, fun j' v xs hv hx => ?_, fun j' q hq => .inl ⟨rfl, j', hq⟩, fun j1 j2 q h1 h2 => g3 _ _ q h1.2 h2.2⟩
        by_cases e2 : j' = k.toNat
        · subst e2
          rw [List.getElem?_set_self hkl] at hv
          rw [List.getElem?_set_self (by omega)] at hx
          cases hv; cases hx
          exact ⟨by simp, rfl, .inl ⟨rfl, rfl⟩⟩
        · rw [List.getElem?_set_ne (Ne.symm e2)] at hv hx
          exact Fact.same (f := Ar e v xs) (g1 j' v xs hv hx) (fun q hq => ⟨e2, hq⟩) (fun _ _ _ => rfl)
      · rw [List.getElem?_set_ne (Ne.symm ej)] at hm
        exact Fact.same (hF.res j m hm) (fun q hq => .inr ⟨ej, hq⟩) (fun _ _ _ => rfl)
  · intro j q hq
    cases j with
    | zero => exact hF.rng i q (g2 _ q hq)
    | succ j =>
      rcases hq with ⟨_, j', _, hq⟩ | ⟨_, hq⟩
      · exact hF.rng i q (g2 _ q hq)
      · exact hF.rng j q hq
  · intro j1 j2 q h1 h2
    cases j1 with
    | zero =>
      cases j2 with
      | zero => rfl
      | succ j2 =>
        rcases h2 with ⟨_, j', hne, h2⟩ | ⟨hne, h2⟩
        · exact absurd (g3 _ _ q h2 h1) hne
        · exact absurd (hF.dis _ _ q h2 (g2 _ q h1)) hne
    | succ j1 =>
      cases j2 with
      | zero =>
        rcases h1 with ⟨_, j', hne, h1⟩ | ⟨hne, h1⟩
        · exact absurd (g3 _ _ q h1 h2) hne
        · exact absurd (hF.dis _ _ q h1 (g2 _ q h2)) hne
      | succ j2 =>
        congr 1
        rcases h1 with ⟨e1, j', _, h1⟩ | ⟨e1, h1⟩ <;> rcases h2 with ⟨e2, j'', _, h2⟩ | ⟨e2, h2⟩
        · rw [e1, e2]
        · exact absurd (hF.dis _ _ q h2 (g2 _ q h1)) e2
        · exact absurd (hF.dis _ _ q h1 (g2 _ q h2)) e1
        · exact hF.dis _ _ q h1 h2
  · refine Fact.same (hL f hf) (fun q hq => ⟨hq.1, fun j hj => ?_⟩) (fun _ _ _ => rfl)
    cases j with
    | zero => exact hq.2 i (g2 _ q hj)
    | succ j =>
      rcases hj with ⟨_, j', _, hj⟩ | ⟨_, hj⟩
      · exact hq.2 i (g2 _ q hj)
      · exact hq.2 j hj

/-- a row that was taken out is put back -/
theorem Stp.backRow (i j : Nat) {u : Value} {k : Int} {vs : List Value} {xss : List (List α)} {ys : List α} (hij : Nat.beq i j = false) (hf : M[i]? = some (Rws e (vs.set k.toNat (.slice none 0 0)) (xss.set k.toNat []))) (hg : M[j]? = some (Ar e u ys)) (h : 0 ≤ k ∧ k < (xss.set k.toNat []).length) :
    Stp M L ((M.set i (Rws e (vs.set k.toNat u) (xss.set k.toNat ys))).eraseIdx j) L := by
  have := Stp.putRow (L := L) i j hij hf hg h
  rwa [List.set_set, List.set_set] at this

/-! ## two rows of one slice -/
theorem at_set_ne {α : Type} [Inhabited α] (l : List α) {j k : Int} (y : α) (h : j.toNat ≠ k.toNat) : at' (l.set j.toNat y) k = at' l k := by
  rw [at', at', List.getD_eq_getElem?_getD, List.getD_eq_getElem?_getD, List.getElem?_set_ne h]

/-- append to a row where another one has been appended to -/
theorem Loud.appendRow2 [Tab P] (i : Nat) {r : Rep α} (hfit : e.Fits r) {x y : Operand} {u u0 : Value} {k j : Int} {vs : List Value} {xss : List (List α)} {ys ys0 : List α} {T E : TypeId} {s1 s2 s3 s4 : Nat} {z z' : Value} {dE : TypeDesc} (hx : ev σ x = some (at' vs k)) (hy : ev σ y = some u) (hf : M[i]? = some (Rws e (vs.set j.toNat u0) (xss.set j.toNat ys0))) (hg : Lent M L (Sl r u ys))
    (hT : Tab.tab P T = some ⟨.slice E, s1, s2, z⟩) (hE : Tab.tab P E = some ⟨dE, s3, s4, z'⟩) (h3 : e.sz = s3) (h4 : Nat.ble s4 1024 = true) (h0 : 0 ≤ k ∧ k < xss.length) (hl : ((at' xss k).length : Int) + ys.length ≤ 1099511627) (hz : z'.cells.size = s3) (hne : j.toNat ≠ k.toNat) :
    Loud P c n σ M L ⟨d, .call ⟨.builtin .append, #[x, y], #[T, T]⟩, ty, pos, aft, g⟩ (fun v' : Value => v') (fun v' => M.set i (Rws e ((vs.set j.toNat u0).set k.toNat v') ((xss.set j.toNat ys0).set k.toNat (at' xss k ++ ys)))) (fun _ => L) := by
  have ex : at' (xss.set j.toNat ys0) k = at' xss k := at_set_ne _ _ hne
  have := Loud.appendRowL (P := P) (c := c) (n := n) (σ := σ) (M := M) (L := L) (d := d) (ty := ty) (pos := pos) (aft := aft) (g := g) (x := x) (y := y) (u := u) (k := k) (vs := vs.set j.toNat u0) (xss := xss.set j.toNat ys0) (ys := ys) i hfit (by rw [at_set_ne _ _ hne]; exact hx) hy hf hg hT hE h3 h4 (by simpa using h0) (by rw [ex]; exact hl) hz
  rwa [ex] at this

theorem Know.oneRow2 (q : Nat) {vs : List Value} {xss : List (List α)} {k j : Int} {u u2 : Value} (hr : M[q]? = some (Rws e ((vs.set k.toNat u).set j.toNat u2) xss)) (hne : k.toNat ≠ j.toNat) (h : 0 ≤ k ∧ k < xss.length) : ∀ c w, St c M L w → Go.Sx.one u = true := fun c w t => by
  obtain ⟨S, hl, G', g1, _⟩ := t.res hr
  have hlt : k.toNat < vs.length := by simp at hl; omega
  obtain ⟨_, _, hh⟩ := g1 k.toNat u _ (by rw [List.getElem?_set_ne (Ne.symm hne), List.getElem?_set_self hlt]) (List.getElem?_eq_getElem (by omega))
  rcases hh with ⟨hu, _⟩ | ⟨b, off, cap, T, cur, hu, _⟩ <;> (rw [hu]; rfl)

theorem J.storeRowD [Tab P] (j q : Nat) {T : TypeId} {s2 : Nat} {z : Value} {dT : TypeDesc} {x y : Operand} {v u : Value} {i : Int} {vs vs' : List Value} {xss : List (List α)} (h : 0 ≤ i ∧ i < xss.length) (hx : ev σ x = some (elq v (i.toNat * 1))) (hy : ev σ y = some u)
    (hf : M[j]? = some (Ar Enc.raw v vs)) (hr : M[q]? = some (Rws e vs' xss)) (hl : vs'.length = vs.length) (h1u : one u = true) (hT : Tab.tab P T = some ⟨dT, 1, s2, z⟩)
    (hh : J c n σ (M.set j (Ar Enc.raw v (vs.set i.toNat u))) L (wpList P ops Q rest)) :
    J c n σ M L (wpList P ops Q (⟨none, .store T x y, ty, pos, aft, none⟩ :: rest)) := fun a w s t => by
  have hlen : vs'.length = xss.length := by obtain ⟨_, h⟩ := t.res hr; exact h.1
  exact J.storeA j u hx hy rfl h1u hf hT rfl h.1 (by omega) hh a w s t

/-- a loud operation without a slot -/
theorem J.loud0 {A : Type} {val : A → Value} {M' L' : A → List Fact} {op : Op} (ho : Loud P c n σ M L ⟨none, op, ty, pos, aft, none⟩ val M' L') (h : ∀ x, J c n σ (M' x) (L' x) (wpList P ops Q rest)) :
    J c n σ M L (wpList P ops Q (⟨none, op, ty, pos, aft, none⟩ :: rest)) := fun a w s t =>
  wpList_take rfl (nwp_Q (nwp_mono (fun a' w' ⟨x, he, ht⟩ => by subst he; exact h x _ w' s ht) (ho a w s t)))

/-! ## Small arrays as values -/
theorem Y.indexV [Tab P] {T E : TypeId} {k s1 s2 s3 s4 : Nat} {z z' : Value} {dE : TypeDesc} {x y : Operand} {cs : List Value} {i : Int} (f : Nat → Value) (hx : ev σ x = some (.agg cs.toArray)) (hy : ev σ y = some (.int .i64 i))
    (hT : Tab.tab P T = some ⟨.array k E, s1, s2, z⟩) (hE : Tab.tab P E = some ⟨dE, s3, s4, z'⟩) (h : 0 ≤ i ∧ i < (k : Int)) (hp : ∀ j, j < k → (if aggD dE then some (Value.agg (cs.toArray.extract (j * s3) (j * s3 + s3))) else cs.toArray[j * s3]?) = some (f j)) :
    Y P c n σ M L ⟨d, .index T x y, ty, pos, aft, g⟩ (f i.toNat) := fun a w s t => by
  have hq := hp i.toNat (by omega)
  have hpart : (part E cs.toArray (i.toNat * s3)).run P w = .ok (f i.toNat) w := by
    unfold part
    cases hd : aggD dE with
    | true =>
      rw [hd] at hq
      simp at hq
      simp [(Tab.ok hE).run_agg w, hd, (Tab.ok hE).run_size w, hq]
    | false =>
      rw [hd] at hq
      simp at hq
      simp [(Tab.ok hE).run_agg w, hd, hq]
  simp [execOp, s.eval hx, s.eval hy, Instr.index, asIntOf, (Tab.ok hT).run_und w, h, (Tab.ok hE).run_size w, hpart]
end
end Go.Sx
