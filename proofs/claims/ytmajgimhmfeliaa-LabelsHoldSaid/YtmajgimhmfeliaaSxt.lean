/- The layer Sx, part 20: loops over maps, whatever the order. Conditions: a table of types that is right for the program. -/
import Derived.Test.YtmajgimhmfeliaaSxs
set_option linter.unusedVariables false
set_option linter.unusedSimpArgs false
set_option linter.unusedSectionVars false
namespace Go.Sx
open Go.RowKit Go.ChangeMaps

def It (b m len : Nat) (seen : List Nat) : Fact where
  p w F := F b ∧ w.heap[b]? = some (.mapIter (some m) len seen.toArray len)
  mono := fun ⟨h1, h2⟩ h => by
    obtain ⟨h3, h4⟩ := h b h1 (Array.getElem?_eq_some_iff.1 h2).1
    exact ⟨h3, by rw [h4]; exact h2⟩

section
variable {κ ν : Type} [DecidableEq κ] {ek : κ → Value} {ev : ν → Value} {R : Type}

theorem mpL_mem (ek : κ → Value) (ev : ν → Value) : ∀ (k : Nat) (l : List (κ × ν)) (e : MapEntry), e ∈ mpL ek ev k l → ∃ i kv, l[i]? = some kv ∧ e = ⟨ek kv.1, ev kv.2, k + i⟩
  | _, [], e, h => by simp [mpL] at h
  | k, x :: xs, e, h => by
    rcases List.mem_cons.1 h with rfl | h
    · exact ⟨0, x, rfl, rfl⟩
    · obtain ⟨i, kv, h1, h2⟩ := mpL_mem ek ev (k + 1) xs e h
      exact ⟨i + 1, kv, h1, by rw [h2, show k + 1 + i = k + (i + 1) by omega]⟩
theorem mem_mpL (ek : κ → Value) (ev : ν → Value) : ∀ (k : Nat) (l : List (κ × ν)) (i : Nat) (kv : κ × ν), l[i]? = some kv → (⟨ek kv.1, ev kv.2, k + i⟩ : MapEntry) ∈ mpL ek ev k l
  | _, [], i, kv, h => by simp at h
  | k, x :: xs, 0, kv, h => by simp at h; subst h; exact List.mem_cons_self
  | k, x :: xs, i + 1, kv, h => by
    have := mem_mpL ek ev (k + 1) xs i kv (by simpa using h)
    rw [show k + 1 + i = k + (i + 1) by omega] at this
    exact List.mem_cons_of_mem _ this
theorem mpL_born (ek : κ → Value) (ev : ν → Value) : ∀ (k : Nat) (l : List (κ × ν)), (mpL ek ev k l).map (·.born) = List.range' k l.length
  | _, [] => rfl
  | k, x :: xs => by simp [mpL, mpL_born ek ev (k + 1) xs, List.range'_succ]

def mrun (step : κ × ν → Option R → Option R) (K : Option R) (l : List (κ × ν)) : Option R := l.foldr step K

def rem (l : List (κ × ν)) (seen : List Nat) : List (κ × ν) := ((List.range l.length).filter (fun i => !seen.contains i)).filterMap (fun i => l[i]?)

theorem range_get : ∀ l : List (κ × ν), (List.range l.length).filterMap (fun i => l[i]?) = l
  | [] => rfl
  | x :: xs => by
    rw [List.length_cons, List.range_succ_eq_map, List.filterMap_cons]
    simp only [List.getElem?_cons_zero, List.filterMap_map]
    congr 1
    have := range_get xs
    simpa [Function.comp_def] using this

theorem rem_nil (l : List (κ × ν)) : rem l [] = l := by
  unfold rem
  rw [List.filter_eq_self.2 (by simp), range_get]

theorem rem_pick {l : List (κ × ν)} {seen : List Nat} {i : Nat} {kv : κ × ν} (hi : l[i]? = some kv) (hs : i ∉ seen) : ∃ l1 l2, rem l seen = l1 ++ kv :: l2 ∧ rem l (seen ++ [i]) = l1 ++ l2 := by
  have hlt := getElem?_lt hi
  have hmem : i ∈ (List.range l.length).filter (fun i => !seen.contains i) := by simp [hlt, hs]
  obtain ⟨A, B, hAB⟩ := List.append_of_mem hmem
  have hnd : ((List.range l.length).filter (fun i => !seen.contains i)).Nodup := List.Pairwise.filter _ List.nodup_range
  rw [hAB] at hnd
  have hA : i ∉ A := fun h => by
    have := (List.nodup_append.1 hnd).2.2 i h i List.mem_cons_self
    exact this rfl
  have hB : i ∉ B := fun h => by
    have := (List.nodup_cons.1 (List.nodup_append.1 hnd).2.1).1
    exact this h
  refine ⟨A.filterMap (fun i => l[i]?), B.filterMap (fun i => l[i]?), ?_, ?_⟩
  · unfold rem
    rw [hAB, List.filterMap_append, List.filterMap_cons, hi]
  · unfold rem
    have e : (List.range l.length).filter (fun j => !(seen ++ [i]).contains j) = ((List.range l.length).filter (fun j => !seen.contains j)).filter (fun j => decide (j ≠ i)) := by
      rw [List.filter_filter]
      apply List.filter_congr
      intro j _
      rw [Bool.eq_iff_iff]
      simp [and_comm]
    rw [e, hAB, List.filter_append, List.filter_cons]
    have fA : A.filter (fun j => decide (j ≠ i)) = A := List.filter_eq_self.2 (fun j hj => by simp; rintro rfl; exact hA hj)
    have fB : B.filter (fun j => decide (j ≠ i)) = B := List.filter_eq_self.2 (fun j hj => by simp; rintro rfl; exact hB hj)
    rw [fA, fB, List.filterMap_append.symm]
    simp

theorem mrun_pick {step : κ × ν → Option R → Option R} (hc : ∀ a b x, step a (step b x) = step b (step a x)) (K : Option R) (kv : κ × ν) (l2 : List (κ × ν)) : ∀ l1 : List (κ × ν), mrun step K (l1 ++ kv :: l2) = step kv (mrun step K (l1 ++ l2))
  | [] => rfl
  | x :: xs => by
    have := mrun_pick hc K kv l2 xs
    unfold mrun at this ⊢
    rw [List.cons_append, List.cons_append, List.foldr_cons, List.foldr_cons, this, hc]
end

section
variable {P : Program} {rd : Option Nat} {c : Ctx} {n : Sz} {σ σ' : Fr} {M L M' L' : List Fact} {Q : Exit → Act → World → Prop} {ops : Array Oper} {rest : List Oper}
variable {d : Option Tmp} {ty : TypeId} {pos : String} {aft : Array Edge} {g : Option (Nat × Bool)}
variable {κ ν : Type} [DecidableEq κ] {ek : κ → Value} {ev : ν → Value} {R : Type}

theorem Loud.range [Tab P] (j : Nat) {T kt vt : TypeId} {s1 s2 : Nat} {z : Value} {x : Operand} {m : Nat} {l : List (κ × ν)} (hx : Go.Sx.ev σ x = some (.map (some m))) (hf : M[j]? = some (Mp ek ev m l)) (hT : Tab.tab P T = some ⟨.map kt vt, s1, s2, z⟩) :
    Loud P c n σ M L ⟨d, .range T x, ty, pos, aft, g⟩ (fun b : Nat => .pointer (some ⟨b, 0, none⟩)) (fun b => It b m l.length [] :: M) (fun _ => L) := fun a w s t => by
  obtain ⟨F, hF⟩ := t.res hf
  have hrun : (execOp a.eval ⟨d, .range T x, ty, pos, aft, g⟩).run P w = .ok (.value (.pointer (some ⟨w.heap.size, 0, none⟩))) (w.alloc (.mapIter (some m) l.length #[] l.length)) := by
    simp [execOp, s.eval hx, run_range_map w T kt vt m _ _ (Tab.ok hT).und hF.2]
  simp only [Oper.wp, hrun, Oper.upon]
  exact ⟨w.heap.size, rfl, t.push _ ⟨rfl, heap_alloc_new w _⟩⟩

def nextVal (ek : κ → Value) (ev : ν → Value) (l : List (κ × ν)) : Option Nat → Value
  | none => .tuple #[.bool false]
  | some i => match l[i]? with
    | some kv => .tuple #[.bool true, ek kv.1, ev kv.2]
    | none => undef
def nextIs (len : Nat) (seen : List Nat) : Option Nat → Prop
  | none => ∀ i, i < len → i ∈ seen
  | some i => i < len ∧ i ∉ seen
def nextM (M : List Fact) (ji b m len : Nat) (seen : List Nat) : Option Nat → List Fact
  | none => M
  | some i => M.set ji (It b m len (seen ++ [i]))

theorem St.pureL {w : World} {p : Prop} (hp : p) (t : St c M L w) : St c M (Pure p :: L) w := by
  obtain ⟨ho, F, hF, hL⟩ := t
  refine ⟨ho, F, hF, fun f hf => ?_⟩
  rcases List.mem_cons.1 hf with rfl | hf
  · exact hp
  · exact hL f hf

theorem Loud.next (jm ji : Nat) {x : Operand} {b m : Nat} {l : List (κ × ν)} {seen : List Nat} (hx : Go.Sx.ev σ x = some (.pointer (some ⟨b, 0, none⟩))) (hf : M[jm]? = some (Mp ek ev m l)) (hi : M[ji]? = some (It b m l.length seen)) :
    Loud P c n σ M L ⟨d, .next x false, ty, pos, aft, g⟩ (nextVal ek ev l) (nextM M ji b m l.length seen) (fun o => Pure (nextIs l.length seen o) :: L) := fun a w s t => by
  obtain ⟨F, hF⟩ := t.res hf
  obtain ⟨G, hG⟩ := t.res hi
  have hold : ∀ e ∈ (mpL ek ev 0 l).toArray.toList, e.born < l.length := fun e he => by
    obtain ⟨i, kv, h1, h2⟩ := mpL_mem ek ev 0 l e (by simpa using he)
    rw [h2]; have := getElem?_lt h1; simp; omega
  rcases run_next_at (P := P) w ty b m l.length l.length seen.toArray (mpL ek ev 0 l).toArray l.length hG.2 hF.2 hold (Nat.le_refl _) with ⟨h0, hr⟩ | ⟨e, he, w1, hw1, hr⟩
  · have hrun : (execOp a.eval ⟨d, .next x false, ty, pos, aft, g⟩).run P w = .ok (.value (.tuple #[.bool false])) w := by
      simp [execOp, s.eval hx, hr]
    simp only [Oper.wp, hrun, Oper.upon]
    refine ⟨none, rfl, t.pureL fun i hi' => ?_⟩
    obtain ⟨kv, hkv⟩ : ∃ kv, l[i]? = some kv := ⟨_, List.getElem?_eq_getElem hi'⟩
    have := all_seen _ _ h0 _ (by simpa using mem_mpL ek ev 0 l i kv hkv)
    simpa using this
  · have hml := _root_.Go.mem_left he
    obtain ⟨i, kv, h1, h2⟩ := mpL_mem ek ev 0 l e (by simpa using hml.1)
    subst h2
    rw [Nat.zero_add] at hr hml
    have hrun : (execOp a.eval ⟨d, .next x false, ty, pos, aft, g⟩).run P w = .ok (.value (.tuple #[.bool true, ek kv.1, ev kv.2])) (setBlock w1 b (.mapIter (some m) l.length (seen.toArray.push i) l.length)) := by
      simp [execOp, s.eval hx, hr]
    simp only [Oper.wp, hrun, Oper.upon]
    have t1 : St c M L w1 := by
      rcases hw1 with rfl | rfl
      · exact t
      · exact t.ext ((Below.refl _ _).drew)
    refine ⟨some i, by simp [nextVal, h1], St.pureL ⟨getElem?_lt h1, by simpa using hml.2⟩ ?_⟩
    refine t1.upd hi rfl rfl rfl (by simp [setBlock]) fun F hF _ => ⟨fun k _ hk => ?_, F, ⟨hF.1, ?_⟩, fun _ h => .inl h⟩
    · simp only [setBlock]
      rw [Array.getElem?_setIfInBounds_ne (fun e => hk (by subst e; exact hF.1))]
    · simp only [setBlock]
      rw [Array.getElem?_setIfInBounds_self_of_lt (Array.getElem?_eq_some_iff.1 hF.2).1]
      simp

theorem Loud.entry (jm ji : Nat) {x : Operand} {b m i : Nat} {l : List (κ × ν)} {seen : List Nat} {kv : κ × ν} (hkv : l[i]? = some kv) (hx : Go.Sx.ev σ x = some (.pointer (some ⟨b, 0, none⟩))) (hf : M[jm]? = some (Mp ek ev m l)) (hi : M[ji]? = some (It b m l.length (seen ++ [i]))) :
    Loud P c n σ M L ⟨d, .entry x, ty, pos, aft, g⟩ (fun _ : Unit => .tuple #[ek kv.1, ev kv.2]) (fun _ => M) (fun _ => L) := fun a w s t => by
  obtain ⟨F, hF⟩ := t.res hf
  obtain ⟨G, hG⟩ := t.res hi
  have he := mem_mpL ek ev 0 l i kv hkv
  rw [Nat.zero_add] at he
  have hn : ((mpL ek ev 0 l).toArray.toList.map (·.born)).Nodup := by
    simp only [mpL_born]; exact List.nodup_range'
  have hr := run_entry_at (P := P) w b m l.length seen.toArray (mpL ek ev 0 l).toArray l.length ⟨ek kv.1, ev kv.2, i⟩ (by rw [hG.2]; simp) hF.2 (by simpa using he) hn
  have hrun : (execOp a.eval ⟨d, .entry x, ty, pos, aft, g⟩).run P w = .ok (.value (.tuple #[ek kv.1, ev kv.2])) w := by
    simp [execOp, s.eval hx, hr]
  simp only [Oper.wp, hrun, Oper.upon]
  exact ⟨(), by first | rfl | trivial, t⟩

theorem J.weakE {G : Act → World → Prop} (σ' : Fr) (M' L' : List Fact) (hs : SubF σ σ') (hM : SubM M M') (hL : LentAll [] L L') (h : J c n σ' M' L' G) : J c n σ M L G := fun a w s t => h a w (s.weak hs) (t.weakE hM hL)

theorem KeyOk.deep {kt : TypeId} {d : TypeDesc} (hu : P.underlying kt = some d) (chk : ∀ b k w, (Instr.checkKey b 10000 kt (ek k)).run P w = .ok () w) (now : ∀ a b, Instr.sameNow d (ek a) (ek b) = none)
    (eq : ∀ a b w, (Op.equal kt (ek a) (ek b)).run P w = .ok (decide (a = b)) w) (same : ∀ k, Instr.sameBits 10000 (ek k) (ek k) = true) : KeyOk P kt ek := by
  refine ⟨chk, fun {ν'} ev' k l w => ?_, same⟩
  have ask : ∀ (l : List (κ × ν')) (i : Nat), (Instr.findAsking kt (ek k) (mpL ek ev' i l) i).run P w = .ok (fnd ev' k i l) w := by
    intro l
    induction l with
    | nil => intro i; simp [mpL, fnd, Instr.findAsking]
    | cons x xs ih =>
      intro i
      simp only [mpL, fnd, Instr.findAsking]
      simp [eq]
      by_cases h : k = x.1
      · simp [h]
      · simp [h, ih]
  unfold Instr.findKey
  cases l with
  | nil => simp [mpL, fnd, Instr.findNow, run_underlying hu w]
  | cons x xs =>
    have h1 : Instr.findNow d (ek k) (mpL ek ev' 0 (x :: xs)) 0 = none := by simp [mpL, Instr.findNow, now]
    simp [run_underlying hu w, h1, ask]

theorem KeyOk.plain {kt : TypeId} {d : TypeDesc} (hu : P.underlying kt = some d) (chk : ∀ b k w, (Instr.checkKey b 10000 kt (ek k)).run P w = .ok () w) (now : ∀ a b, Instr.sameNow d (ek a) (ek b) = some (decide (a = b)))
    (same : ∀ k, Instr.sameBits 10000 (ek k) (ek k) = true) : KeyOk P kt ek := by
  refine ⟨chk, fun {ν'} ev' k l w => ?_, same⟩
  have fn : ∀ (l : List (κ × ν')) (i : Nat), Instr.findNow d (ek k) (mpL ek ev' i l) i = some (fnd ev' k i l) := by
    intro l
    induction l with
    | nil => intro i; simp [mpL, fnd, Instr.findNow]
    | cons x xs ih =>
      intro i
      simp only [mpL, fnd, Instr.findNow, now]
      by_cases h : k = x.1
      · simp [h]
      · simp [h, ih]
  unfold Instr.findKey
  simp [run_underlying hu w, fn]

/-- where a round of a loop over a map ends -/
def MapInv {R : Type} (c : Ctx) (n : Sz) (σ : Fr) (M L : List Fact) (x : Option R) (r : R) (a : Act) (w : World) : Prop := x = some r ∧ Sub n σ a ∧ St c M L w

theorem J.mapAgain {R : Type} {x : Option R} {r : R} (h : x = some r) (hs : SubF σ' σ) (hM : SubM M' M) (hL : LentAll [] L' L) : J c n σ' M' L' (MapInv c n σ M L x r) := fun _ _ s t => ⟨h, s.weak hs, t.weakE hM hL⟩

theorem J.loopMap (step : κ × ν → Option R → Option R) {K : Option R} {r : R} (jm ji : Nat) {b m : Nat} {l : List (κ × ν)} (hc : ∀ a b x, step a (step b x) = step b (step a x)) (h : mrun step K l = some r)
    (hf : M[jm]? = some (Mp ek ev m l)) (hi : M[ji]? = some (It b m l.length [])) (hne : Nat.beq ji jm = false) {t0 t1 t2 : Tmp} (hx : lk σ t0 = some (.pointer (some ⟨b, 0, none⟩))) (hd1 : Nat.blt t1 n.sz = true) (hd2 : Nat.blt t2 n.sz = true)
    {id ex : Nat} {y1 y2 : TypeId} {q1 q2 : String} {f1 f2 : Array Edge} {body : Code}
    (round : ∀ (kv : κ × ν) (i : Nat) (seen : List Nat) (x : Option R), l[i]? = some kv → step kv x = some r →
      J c n ((t2, .bool true) :: (t1, .tuple #[.bool true, ek kv.1, ev kv.2]) :: σ) (M.set ji (It b m l.length (seen ++ [i]))) L (body.wpr rd P (Exit.then (MapInv c n σ (M.set ji (It b m l.length (seen ++ [i]))) L x r) Q)))
    (fin : ∀ seen, K = some r → J c n ((t2, .bool false) :: (t1, .tuple #[.bool false]) :: σ) (M.set ji (It b m l.length seen)) L (Q (.exit ex))) :
    J c n σ M L ((Code.loop (Code.seq (Code.region id [⟨some t1, .next (.tmp t0) false, y1, q1, f1, none⟩, ⟨some t2, .extract (.tmp t1) 0, y2, q2, f2, none⟩].toArray false) (Code.seq (Code.cond (.tmp t2) .skip (.exit ex)) body))).wpr rd P Q) := by
  have hjlt := getElem?_lt hi
  have hjm : jm ≠ ji := fun e => by subst e; simp at hne
  have hset : M.set ji (It b m l.length []) = M := by
    apply List.ext_getElem?
    intro q
    by_cases eq : q = ji
    · subst eq; rw [List.getElem?_set_self hjlt, hi]
    · rw [List.getElem?_set_ne (Ne.symm eq)]
  refine J.loop (X := List Nat) (fun seen => seen.Nodup ∧ (∀ i ∈ seen, i < l.length) ∧ mrun step K (rem l seen) = some r) (fun _ => σ) (fun seen => M.set ji (It b m l.length seen)) (fun _ => L) (fun seen => l.length - seen.length) [] ⟨List.nodup_nil, by simp, by rw [rem_nil]; exact h⟩ (SubF.refl _) (by rw [hset]; exact SubM.refl _) (fun _ h => h) ?_
  rintro seen ⟨hnd, hlt, hrun⟩
  have hf' : (M.set ji (It b m l.length seen))[jm]? = some (Mp ek ev m l) := by rw [List.getElem?_set_ne (Ne.symm hjm)]; exact hf
  have hi' : (M.set ji (It b m l.length seen))[ji]? = some (It b m l.length seen) := List.getElem?_set_self hjlt
  refine J.seq (J.region (J.loud (Loud.next jm ji (x := .tmp t0) hx hf' hi') hd1 fun o => ?_))
  refine J.pure List.mem_cons_self fun ho => ?_
  refine J.weak (M' := nextM (M.set ji (It b m l.length seen)) ji b m l.length seen o) (L' := L) ?_ (SubF.refl _) (SubM.refl _) (fun f hf => List.mem_cons_of_mem _ hf)
  cases o with
  | none =>
    refine J.quiet (Y.extract (vs := [.bool false]) (by simp [nextVal, lk, Go.Sx.ev]) rfl) hd2 (J.done (J.thenN (J.seq (J.condF (by simp [lk, Go.Sx.ev]) (J.exit (J.thenX (J.thenX ?_)))))))
    refine fin seen ?_
    have : rem l seen = [] := by
      unfold rem
      rw [List.filter_eq_nil_iff.2 (fun i hi => by simpa using ho i (by simpa using hi))]
      rfl
    rw [this] at hrun
    exact hrun
  | some i =>
    obtain ⟨h1, h2⟩ := ho
    obtain ⟨kv, hkv⟩ : ∃ kv, l[i]? = some kv := ⟨_, List.getElem?_eq_getElem h1⟩
    have hval : nextVal ek ev l (some i) = .tuple #[.bool true, ek kv.1, ev kv.2] := by simp [nextVal, hkv]
    obtain ⟨l1, l2, e1, e2⟩ := rem_pick hkv h2
    have hstep : step kv (mrun step K (rem l (seen ++ [i]))) = some r := by
      rw [e2, ← mrun_pick hc K kv l2 l1, ← e1]; exact hrun
    have hMs : nextM (M.set ji (It b m l.length seen)) ji b m l.length seen (some i) = M.set ji (It b m l.length (seen ++ [i])) := by simp [nextM]
    rw [hval, hMs]
    refine J.quiet (Y.extract (vs := [.bool true, ek kv.1, ev kv.2]) (by simp [lk, Go.Sx.ev]) rfl) hd2 (J.done (J.thenN (J.seq (J.condT (by simp [lk, Go.Sx.ev]) (J.skip (J.thenN ?_))))))
    refine J.mono (round kv i seen _ hkv hstep) fun a w hw => wpr_mono (fun e a' w' q => ?_) hw
    cases e with
    | normal =>
      obtain ⟨hx', hs', ht'⟩ := q
      refine ⟨seen ++ [i], ⟨?_, ?_, hx'⟩, ?_, hs', ht'⟩
      · rw [List.nodup_append]; exact ⟨hnd, by simp, fun a ha b hb => by simp at hb; subst hb; rintro rfl; exact h2 ha⟩
      · intro j hj
        rcases List.mem_append.1 hj with hj | hj
        · exact hlt j hj
        · simp at hj; subst hj; exact h1
      · have : seen.length < l.length := by
          have hsub : (seen ++ [i]).length ≤ (List.range l.length).length := by
            apply List.Nodup.length_le_of_subset
            · rw [List.nodup_append]; exact ⟨hnd, by simp, fun a ha b hb => by simp at hb; subst hb; rintro rfl; exact h2 ha⟩
            · intro j hj
              rcases List.mem_append.1 hj with hj | hj
              · simpa using hlt j hj
              · simp at hj; subst hj; simpa using h1
          simp at hsub; omega
        simp; omega
    | exit id => exact q
    | goto l => exact q
    | ret => exact q
    | panic ch => exact q
    | outgrown => exact q
end
end Go.Sx
