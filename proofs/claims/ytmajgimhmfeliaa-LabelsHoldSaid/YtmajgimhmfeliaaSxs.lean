/- The layer Sx, part 19: maps of the call's own from which nothing is deleted. Conditions: a table of types that is right for the program. -/
import Derived.Test.YtmajgimhmfeliaaSxr
import Derived.Maps.RangeRun
set_option linter.unusedSectionVars false
namespace Go.Sx
set_option linter.unusedVariables false
set_option linter.unusedSimpArgs false
open Go.RowKit

section defs
variable {κ ν : Type} [DecidableEq κ]
def mpL (ek : κ → Value) (ev : ν → Value) : Nat → List (κ × ν) → List MapEntry
  | _, [] => []
  | i, x :: xs => ⟨ek x.1, ev x.2, i⟩ :: mpL ek ev (i + 1) xs

def mget (k : κ) : List (κ × ν) → Option ν
  | [] => none
  | x :: xs => if k = x.1 then some x.2 else mget k xs

def mset (k : κ) (v : ν) : List (κ × ν) → List (κ × ν)
  | [] => [(k, v)]
  | x :: xs => if k = x.1 then (k, v) :: xs else x :: mset k v xs

def fnd (ev : ν → Value) (k : κ) : Nat → List (κ × ν) → Option (Nat × Value)
  | _, [] => none
  | i, x :: xs => if k = x.1 then some (i, ev x.2) else fnd ev k (i + 1) xs

theorem fnd_get (ev : ν → Value) (k : κ) : ∀ (i : Nat) (l : List (κ × ν)), (fnd ev k i l).map (·.2) = (mget k l).map ev
  | _, [] => rfl
  | i, x :: xs => by
    simp only [fnd, mget]
    split
    · rfl
    · exact fnd_get ev k (i + 1) xs

theorem mpL_length (ek : κ → Value) (ev : ν → Value) : ∀ (i : Nat) (l : List (κ × ν)), (mpL ek ev i l).length = l.length
  | _, [] => rfl
  | i, _ :: xs => by simp [mpL, mpL_length ek ev (i + 1) xs]

theorem mpL_append (ek : κ → Value) (ev : ν → Value) : ∀ (i : Nat) (l : List (κ × ν)) (x : κ × ν), mpL ek ev i (l ++ [x]) = mpL ek ev i l ++ [⟨ek x.1, ev x.2, i + l.length⟩]
  | i, [], x => rfl
  | i, y :: ys, x => by
    simp only [List.cons_append, mpL, mpL_append ek ev (i + 1) ys x, List.length_cons]
    rw [show i + 1 + ys.length = i + (ys.length + 1) by omega]

theorem mset_none (k : κ) (v : ν) : ∀ l : List (κ × ν), mget k l = none → mset k v l = l ++ [(k, v)]
  | [], _ => rfl
  | x :: xs, h => by
    simp only [mget] at h
    split at h
    · cases h
    · rename_i hne
      simp only [mset, if_neg hne, mset_none k v xs h, List.cons_append]

theorem fnd_set (ek : κ → Value) (ev : ν → Value) (k : κ) (v : ν) : ∀ (i0 i : Nat) (l : List (κ × ν)) (j : Nat) (u : Value), fnd ev k i l = some (j, u) →
    i ≤ j ∧ ((mpL ek ev i l)[j - i]?).map (·.key) = some (ek k) ∧ mpL ek ev i (mset k v l) = (mpL ek ev i l).modify (j - i) (fun e => { e with key := ek k, val := ev v }) ∧ (mset k v l).length = l.length
  | _, i, [], j, u, h => by simp [fnd] at h
  | i0, i, x :: xs, j, u, h => by
    simp only [fnd] at h
    split at h
    · rename_i he
      simp only [Option.some.injEq, Prod.mk.injEq] at h
      obtain ⟨rfl, _⟩ := h
      simp [mpL, mset, he]
    · rename_i hne
      obtain ⟨h1, h2, h3, h4⟩ := fnd_set ek ev k v i0 (i + 1) xs j u h
      have hj : j - i = (j - (i + 1)) + 1 := by omega
      refine ⟨by omega, ?_, ?_, ?_⟩
      · rw [hj]; simpa [mpL] using h2
      · simp only [mset, if_neg hne, mpL]
        rw [hj, List.modify_succ_cons, h3]
      · simp [mset, hne, h4]
end defs

/-- keys that can be found -/
structure KeyOk (P : Program) (kt : TypeId) {κ : Type} [DecidableEq κ] (ek : κ → Value) : Prop where
  chk : ∀ b k w, (Instr.checkKey b 10000 kt (ek k)).run P w = .ok () w
  find : ∀ {ν : Type} (ev : ν → Value) (k : κ) (l : List (κ × ν)) w, (Instr.findKey kt (ek k) (mpL ek ev 0 l)).run P w = .ok (fnd ev k 0 l) w
  same : ∀ k, Instr.sameBits 10000 (ek k) (ek k) = true

def Mp {κ ν : Type} (ek : κ → Value) (ev : ν → Value) (r : Nat) (l : List (κ × ν)) : Fact where
  p w F := F r ∧ w.heap[r]? = some (.map (mpL ek ev 0 l).toArray l.length)
  mono := fun ⟨h1, h2⟩ h => by
    obtain ⟨h3, h4⟩ := h r h1 (Array.getElem?_eq_some_iff.1 h2).1
    exact ⟨h3, by rw [h4]; exact h2⟩

section
variable {P : Program} {rd : Option Nat} {c : Ctx} {n : Sz} {σ : Fr} {M L : List Fact} {Q : Exit → Act → World → Prop} {ops : Array Oper} {rest : List Oper}
variable {d : Option Tmp} {ty : TypeId} {pos : String} {aft : Array Edge} {g : Option (Nat × Bool)}

/-- a new object -/
theorem St.push {w : World} (t : St c M L w) (o : Obj) {m : Fact} (hm : m.p (w.alloc o) (fun k => k = w.heap.size)) : St c (m :: M) L (w.alloc o) := by
  have e : Ext w (w.alloc o) := (Below.refl _ _).alloc (Nat.le_refl _) _
  obtain ⟨ho, F, hF, hL⟩ := t
  have hb : ∀ k, k < w.heap.size → (w.alloc o).heap[k]? = w.heap[k]? := e.block
  refine ⟨ho.trans e, fun i k => match i with | 0 => k = w.heap.size | i + 1 => F i k, ⟨?_, ?_, ?_⟩, fun f hf => ?_⟩
  · intro i m' hm'
    cases i with
    | zero => simp at hm'; subst hm'; exact hm
    | succ i => exact Fact.same (hF.res i m' (by simpa using hm')) (fun _ h => h) (fun k _ hl => hb k hl)
  · intro i k hk
    cases i with
    | zero => subst hk; exact ⟨.inl ho.size, by simp⟩
    | succ i => exact ⟨(hF.rng i k hk).1, Nat.lt_of_lt_of_le (hF.rng i k hk).2 e.size⟩
  · intro i j k hi hj
    cases i with
    | zero =>
      cases j with
      | zero => rfl
      | succ j => have := (hF.rng j k hj).2; simp only at hi; omega
    | succ i =>
      cases j with
      | zero => have := (hF.rng i k hi).2; simp only at hj; omega
      | succ j => exact congrArg (· + 1) (hF.dis i j k hi hj)
  · exact f.mono (hL f hf) fun k hk hl => ⟨⟨hk.1, fun i hi => by
      cases i with
      | zero => simp only at hi; omega
      | succ i => exact hk.2 i hi⟩, hb k hl⟩

variable {κ ν : Type} [DecidableEq κ] {ek : κ → Value} {ev : ν → Value}
theorem Loud.makeMap (ek : κ → Value) (ev : ν → Value) {T : TypeId} : Loud P c n σ M L ⟨d, .makeMap T none, ty, pos, aft, g⟩ (fun r : Nat => .map (some r)) (fun r => Mp ek ev r [] :: M) (fun _ => L) := fun a w s t => by
  have hrun : (execOp a.eval ⟨d, .makeMap T none, ty, pos, aft, g⟩).run P w = .ok (.value (.map (some w.heap.size))) (w.alloc (.map #[] 0)) := by
    simp [execOp, Instr.makeMap]
  simp only [Oper.wp, hrun, Oper.upon]
  exact ⟨w.heap.size, rfl, t.push _ ⟨rfl, heap_alloc_new w _⟩⟩

theorem run_lookup [Tab P] {T kt vt : TypeId} {s1 s2 s3 s4 : Nat} {z zv : Value} {dv : TypeDesc} {w : World} {r : Nat} {l : List (κ × ν)} {F : Nat → Prop} (hk : KeyOk P kt ek) (hM : (Mp ek ev r l).p w F)
    (hT : Tab.tab P T = some ⟨.map kt vt, s1, s2, z⟩) (hV : Tab.tab P vt = some ⟨dv, s3, s4, zv⟩) (k : κ) (b : Bool) :
    (Instr.lookup T (.map (some r)) (ek k) b).run P w = .ok (if b then .tuple #[((mget k l).map ev).getD zv, .bool (mget k l).isSome] else ((mget k l).map ev).getD zv) w := by
  have hg : (getObj r).run P w = .ok (.map (mpL ek ev 0 l).toArray l.length) w := by
    simp [getObj, Sem.run, hM.2]
  have hf := hk.find ev k l w
  have hfg := fnd_get ev k 0 l
  simp only [Instr.lookup]
  simp [(Tab.ok hT).run_und w, hg, hk.chk, hf]
  cases hfd : fnd ev k 0 l with
  | none =>
    rw [hfd] at hfg
    have : mget k l = none := by cases h : mget k l <;> simp [h] at hfg ⊢
    simp [this, (Tab.ok hV).run_zero w]
  | some x =>
    rw [hfd] at hfg
    obtain ⟨v, hv, hx⟩ : ∃ v, mget k l = some v ∧ ev v = x.2 := by
      cases h : mget k l with
      | none => simp [h] at hfg
      | some v => simp [h] at hfg; exact ⟨v, rfl, hfg.symm⟩
    simp [hv, hx]

theorem Y.lookup [Tab P] (j : Nat) {T kt vt : TypeId} {s1 s2 s3 s4 : Nat} {z zv : Value} {dv : TypeDesc} {x y : Operand} {r : Nat} {l : List (κ × ν)} (k : κ) {b : Bool} (hk : KeyOk P kt ek) (hx : Go.Sx.ev σ x = some (.map (some r))) (hy : Go.Sx.ev σ y = some (ek k)) (hf : M[j]? = some (Mp ek ev r l))
    (hT : Tab.tab P T = some ⟨.map kt vt, s1, s2, z⟩) (hV : Tab.tab P vt = some ⟨dv, s3, s4, zv⟩) {u : Value} (hu : ((mget k l).map ev).getD zv = u) :
    Y P c n σ M L ⟨d, .lookup T x y b, ty, pos, aft, g⟩ (if b then .tuple #[u, .bool (mget k l).isSome] else u) := fun a w s t => by
  obtain ⟨F, hF⟩ := t.res hf
  subst hu
  simp [execOp, s.eval hx, s.eval hy, run_lookup hk hF hT hV]

theorem run_setObj_map {w : World} {r : Nat} {es : Array MapEntry} {k : Nat} (h : w.heap[r]? = some (.map es k)) (o : Obj) : (setObj r o).run P w = .ok () { w with heap := w.heap.setIfInBounds r o } := by
  simp [setObj, Sem.run, h]

theorem St.setMap {w : World} (t : St c M L w) {j r : Nat} {l l' : List (κ × ν)} (hf : M[j]? = some (Mp ek ev r l)) (o : Obj) (ho : o = .map (mpL ek ev 0 l').toArray l'.length) :
    St c (M.set j (Mp ek ev r l')) L { w with heap := w.heap.setIfInBounds r o } :=
  t.upd hf rfl rfl rfl (by simp) fun F hF _ => ⟨fun k _ hk => by
      rw [Array.getElem?_setIfInBounds_ne (fun e => hk (by subst e; exact hF.1))], F, ⟨hF.1, by
        rw [Array.getElem?_setIfInBounds_self_of_lt (Array.getElem?_eq_some_iff.1 hF.2).1, ho]⟩, fun _ h => .inl h⟩

theorem J.mapUpdate [Tab P] (j : Nat) {T kt vt : TypeId} {s1 s2 : Nat} {z : Value} {x y v : Operand} {r : Nat} {l : List (κ × ν)} (k : κ) (nv : ν) (hk : KeyOk P kt ek) (hx : Go.Sx.ev σ x = some (.map (some r))) (hy : Go.Sx.ev σ y = some (ek k)) (hv : Go.Sx.ev σ v = some (ev nv)) (hf : M[j]? = some (Mp ek ev r l))
    (hT : Tab.tab P T = some ⟨.map kt vt, s1, s2, z⟩) (h : J c n σ (M.set j (Mp ek ev r (mset k nv l))) L (wpList P ops Q rest)) :
    J c n σ M L (wpList P ops Q (⟨none, .mapUpdate T x y v, ty, pos, aft, none⟩ :: rest)) := fun a w s t => by
  refine wpList_take rfl ?_
  obtain ⟨F, hF⟩ := t.res hf
  have hg : (getObj r).run P w = .ok (.map (mpL ek ev 0 l).toArray l.length) w := by
    simp [getObj, Sem.run, hF.2]
  have hfd := hk.find ev k l w
  have hfg := fnd_get ev k 0 l
  have hrun : ∃ o : Obj, (execOp a.eval ⟨none, .mapUpdate T x y v, ty, pos, aft, none⟩).run P w = .ok .skip { w with heap := w.heap.setIfInBounds r o } ∧ o = .map (mpL ek ev 0 (mset k nv l)).toArray (mset k nv l).length := by
    simp only [execOp, s.eval hx, s.eval hy, s.eval hv, Instr.mapUpdate]
    cases hfn : fnd ev k 0 l with
    | none =>
      rw [hfn] at hfg hfd
      have hn : mget k l = none := by cases h : mget k l <;> simp [h] at hfg ⊢
      refine ⟨.map (mpL ek ev 0 l ++ [(⟨ek k, ev nv, l.length⟩ : MapEntry)]).toArray (l.length + 1), by simp [(Tab.ok hT).run_und w, hg, hk.chk, hfd, run_setObj_map hF.2], ?_⟩
      rw [mset_none k nv l hn, mpL_append]; simp
    | some q =>
      obtain ⟨i, u⟩ := q
      rw [hfn] at hfd
      obtain ⟨_, h2, h3, h4⟩ := fnd_set ek ev k nv 0 0 l i u hfn
      rw [Nat.sub_zero] at h2 h3
      have hkey : (((mpL ek ev 0 l).toArray[i]?).map (·.key)).getD (ek k) = ek k := by
        rw [List.getElem?_toArray, h2]; rfl
      refine ⟨.map ((mpL ek ev 0 l).toArray.modify i fun e => { e with key := ek k, val := ev nv }) l.length, ?_, ?_⟩
      · have hst : (Instr.keyThatStays (ek k) (ek k)).run P w = .ok (ek k) w := by simp [Instr.keyThatStays, hk.same k]
        have hkey' : (Option.map (fun x => x.key) (mpL ek ev 0 l)[i]?).getD (ek k) = ek k := by rw [h2]; rfl
        simp [(Tab.ok hT).run_und w, hg, hk.chk, hfd, hkey', hst, run_setObj_map hF.2]
      · rw [h3, h4]; simp
  obtain ⟨o, hr, ho⟩ := hrun
  simp only [Oper.wp, hr, Oper.upon]
  exact h _ _ s (t.setMap hf o ho)
end
end Go.Sx
