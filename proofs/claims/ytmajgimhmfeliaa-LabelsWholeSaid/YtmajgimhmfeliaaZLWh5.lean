/- Models of functions with their proofs, by program (gen/xt.py), and plain laws, in one text. Conditions: none. -/
import Derived.Test.YtmajgimhmfeliaaZLWh4
import Derived.Test.YtmajgimhmfeliaaZLWh3
import Derived.Test.YtmajgimhmfeliaaZLWh2
section
set_option linter.unusedVariables false
set_option linter.unusedSimpArgs false
set_option linter.unusedVariables false
set_option linter.unusedSimpArgs false
namespace Go.Proofs.Ytmajgimhmfeliaa
open Go.Sx
section
variable {g : GR} {st : List Int} {l : List (Int × Int)} {v : Nat}
/-- what a state may say at a node -/
def FitAt (kind : Int) (g : GR) (v : Nat) (x : Int) : Prop :=
  if kind = 1 ∨ kind = 4 then -1 ≤ x ∧ x < ((row g v).length : Int) else if kind = 2 then x = 0 ∨ x = 1 else x = 0

theorem Same2.of {R : Type} {a b : Option R} {r : R} (h1 : a = some r) (h2 : b = some r) : Same2 a b := ⟨r, h1, h2⟩

theorem prog_enter (h : Ctx39 g st l v) (kind : Int) : m_labels_accepts 2000 kind g st l (v : Int) = labels_accepts_k1 2000 kind g st l (v : Int) () := by
  have := h.hl
  have := h.hv
  unfold m_labels_accepts
  rw [ckT (by omega), ckT (by omega)]

theorem refK1 (h : Ctx39 g st l v) (b : Bool) : ref39_sees_k1 2000 1 g st l (v : Int) b = some (if at' st (v : Int) < 0 then decide ((lab l v).1 = at' g.1 (v : Int) ∧ (lab l v).2 = 0) else b) := by
  have hs := h.hs
  have hv := h.hv
  have hlen := h.V.len
  unfold ref39_sees_k1
  rw [if_pos rfl, ckT (by omega)]
  by_cases hx : at' st (v : Int) < 0
  · rw [if_pos hx, if_pos hx, ckT (by omega), ckT (by omega)]
    by_cases hi : (at' l (v : Int)).1 = at' g.1 (v : Int)
    · rw [if_pos hi]
      by_cases hy : (at' l (v : Int)).2 = 0
      · rw [if_pos hy, decide_eq_true ⟨hi, hy⟩]; rfl
      · rw [if_neg hy, if_neg (by omega), decide_eq_false (fun hc => hy hc.2)]; rfl
    · rw [if_neg hi, if_neg (by omega), decide_eq_false (fun hc => hi hc.1)]; rfl
  · rw [if_neg hx, if_neg hx, ckT (by omega), if_pos (by omega)]; rfl

theorem refK2 (h : Ctx39 g st l v) (hf : at' st (v : Int) = 0 ∨ at' st (v : Int) = 1) (b : Bool) : ref39_sees_k1 2000 2 g st l (v : Int) b = some (if at' st (v : Int) = 1 then decide ((lab l v).1 = at' g.1 (v : Int) ∧ (lab l v).2 = 0) else b) := by
  have hs := h.hs
  have hv := h.hv
  have hlen := h.V.len
  unfold ref39_sees_k1
  rw [if_neg (by decide), if_pos rfl, ckT (by omega)]
  by_cases hx : at' st (v : Int) = 1
  · rw [if_pos hx, if_pos hx, ckT (by omega), ckT (by omega)]
    by_cases hi : (at' l (v : Int)).1 = at' g.1 (v : Int)
    · rw [if_pos hi]
      by_cases hy : (at' l (v : Int)).2 = 0
      · rw [if_pos hy, decide_eq_true ⟨hi, hy⟩]; rfl
      · rw [if_neg hy, if_neg (by omega), decide_eq_false (fun hc => hy hc.2)]; rfl
    · rw [if_neg hi, if_neg (by omega), decide_eq_false (fun hc => hi hc.1)]; rfl
  · rw [if_neg hx, if_neg hx, ckT (by omega), if_pos (by omega)]; rfl

theorem progK3 (h : Ctx39 g st l v) : labels_accepts_k3 g l v true = some (decide ((lab l v).1 = at' g.1 (v : Int) ∧ (lab l v).2 = 0)) := by
  have hv := h.hv
  have hlen := h.V.len
  unfold labels_accepts_k3 labels_accepts_k2
  rw [if_pos rfl, ckT (by omega)]
  by_cases hi : (at' l (v : Int)).1 = at' g.1 (v : Int)
  · rw [if_pos hi]; congr 1; exact decide_eq_decide.2 ⟨fun hy => ⟨hi, hy⟩, fun hy => hy.2⟩
  · rw [if_neg hi, decide_eq_false (fun hc => hi hc.1)]

theorem progK17 (h : Ctx39 g st l v) : labels_accepts_k17 g l v true = some (decide ((lab l v).1 = at' g.1 (v : Int) ∧ (lab l v).2 = 0)) := by
  have hv := h.hv
  have hlen := h.V.len
  unfold labels_accepts_k17 labels_accepts_k16
  rw [if_pos rfl, ckT (by omega)]
  by_cases hi : (at' l (v : Int)).1 = at' g.1 (v : Int)
  · rw [if_pos hi]; congr 1; exact decide_eq_decide.2 ⟨fun hy => ⟨hi, hy⟩, fun hy => hy.2⟩
  · rw [if_neg hi, decide_eq_false (fun hc => hi hc.1)]

theorem alike1 (h : Ctx39 g st l v) (hf : FitAt 1 g v (at' st (v : Int))) : Same2 (m_labels_accepts 2000 1 g st l (v : Int)) (m_ref39_sees 2000 1 g st l (v : Int)) := by
  have hs := h.hs
  have hl := h.hl
  have hv := h.hv
  have q1 : (at' g.2 (v : Int)).length = (row g v).length := rfl
  rw [FitAt, if_pos (.inl rfl)] at hf
  have pe : m_labels_accepts 2000 1 g st l (v : Int) = if at' st (v : Int) < 0 then iter (labels_accepts_s1 2000 g l v) 2000 0 else iter (labels_accepts_s2 2000 g st l v) 2000 0 := by
    rw [prog_enter h]
    unfold labels_accepts_k1
    rw [if_pos rfl, ckT (by omega), ckT (by omega), ckT (by omega)]
  rw [pe]
  by_cases ha : ∀ i, i < (row g v).length → SameAt g l v i
  rotate_left
  · rw [(sees12 h (.inl rfl)).2 ha, (acc1 h).2 ha, (acc2 h).2 ha]
    exact ⟨false, by split <;> rfl, rfl⟩
  obtain ⟨b, hb, he⟩ := (sees12 h (.inl rfl)).1 ha
  rw [he, refK1 h, (acc1 h).1 ha, (acc2 h).1 ha, progK3 h]
  by_cases hx : at' st (v : Int) < 0
  · rw [if_pos hx, if_pos hx]; exact ⟨_, rfl, rfl⟩
  rw [if_neg hx, if_neg hx]
  refine ⟨b, ?_, rfl⟩
  unfold labels_accepts_k10 labels_accepts_k9
  rw [if_pos rfl]
  obtain ⟨k, hk⟩ : ∃ k : Nat, at' st (v : Int) = k := ⟨(at' st (v : Int)).toNat, by omega⟩
  have hkd : k < (row g v).length := by omega
  have hn := h.nb hkd
  have q2 : (at' (at' g.2 (v : Int)) (k : Int)).1 = (lnk (row g v) k).1 := rfl
  by_cases hy : (1 : Int) ≤ (at' l (v : Int)).2
  · rw [if_pos hy, ckT (by omega), ckT (by omega), hk, ckT (by omega), ckT (by omega)]
    unfold m_labels_accepts_4
    rw [bindS rfl]
    congr 1
    rw [Bool.eq_iff_iff, hb, decide_eq_true_eq]
    constructor
    · intro h3; exact ⟨k, hkd, .inr hk.symm, hy, h3⟩
    · rintro ⟨i, hi, h1, _, h3⟩
      rcases h1 with h1 | h1
      · cases h1
      · have : i = k := by omega
        subst this; exact h3
  · rw [if_neg hy]
    congr 1
    cases b with
    | false => rfl
    | true => obtain ⟨_, _, _, h2, _⟩ := hb.1 rfl; exact absurd h2 hy

theorem alike2 (h : Ctx39 g st l v) (hf : FitAt 2 g v (at' st (v : Int))) : Same2 (m_labels_accepts 2000 2 g st l (v : Int)) (m_ref39_sees 2000 2 g st l (v : Int)) := by
  have hs := h.hs
  have hl := h.hl
  have hv := h.hv
  rw [FitAt, if_neg (by decide), if_pos rfl] at hf
  have pe : m_labels_accepts 2000 2 g st l (v : Int) = if at' st (v : Int) = 1 then iter (labels_accepts_s3 2000 g l v) 2000 0 else iter (labels_accepts_s5 2000 g l v) 2000 0 := by
    rw [prog_enter h]
    unfold labels_accepts_k1
    rw [if_neg (by decide), if_pos rfl, ckT (by omega), ckT (by omega), ckT (by omega)]
  rw [pe]
  by_cases ha : ∀ i, i < (row g v).length → SameAt g l v i
  rotate_left
  · rw [(sees12 h (.inr rfl)).2 ha, (acc3 h).2 ha, (acc5 h).2 ha]
    exact ⟨false, by split <;> rfl, rfl⟩
  obtain ⟨b, hb, he⟩ := (sees12 h (.inr rfl)).1 ha
  rw [he, refK2 h hf, (acc3 h).1 ha, (acc5 h).1 ha, progK17 h]
  by_cases hx : at' st (v : Int) = 1
  · rw [if_pos hx, if_pos hx]; exact ⟨_, rfl, rfl⟩
  rw [if_neg hx, if_neg hx]
  refine ⟨b, ?_, rfl⟩
  unfold labels_accepts_k24 labels_accepts_k23
  rw [if_pos rfl]
  by_cases hy : (1 : Int) ≤ (at' l (v : Int)).2
  · rw [if_pos hy, ckT (by omega)]
    by_cases hn : ∀ i, i < (row g v).length → ¬ NearAt g l v i
    · rw [(acc4 h).1 hn]
      congr 1
      cases b with
      | false => rfl
      | true => obtain ⟨i, hi, _, _, h3⟩ := hb.1 rfl; exact absurd h3 (hn i hi)
    · rw [(acc4 h).2 hn]
      congr 1
      symm
      rw [hb]
      apply Classical.byContradiction
      intro hc
      exact hn fun i hi h3 => hc ⟨i, hi, .inl rfl, hy, h3⟩
  · rw [if_neg hy]
    congr 1
    cases b with
    | false => rfl
    | true => obtain ⟨_, _, _, h2, _⟩ := hb.1 rfl; exact absurd h2 hy

theorem alike3 (h : Ctx39 g st l v) : Same2 (m_labels_accepts 2000 3 g st l (v : Int)) (m_ref39_sees 2000 3 g st l (v : Int)) := by
  have hs := h.hs
  have hl := h.hl
  have hv := h.hv
  have key := sees34 h (kind := 3) (.inl rfl) (fun i => (nlab g l v i).1 = wI .i64 (1 - (lab l v).1)) (fun _ _ => Iff.rfl) (fun hc => by omega)
  rw [prog_enter h]
  unfold labels_accepts_k1
  rw [if_neg (by decide), if_neg (by decide)]
  have k34 : labels_accepts_k34 2000 3 g st l v false = iter (labels_accepts_s6 2000 g l v) 2000 0 := by
    unfold labels_accepts_k34
    rw [if_neg (by simp), if_pos rfl, ckT (by omega)]
  have fin : ∀ c : Bool, ((at' l (v : Int)).1 = 0 ∨ (at' l (v : Int)).1 = 1) → Same2 (iter (labels_accepts_s6 2000 g l v) 2000 0) (m_ref39_sees 2000 3 g st l v) := by
    intro _ hx
    by_cases ha : ∀ i, i < (row g v).length → (nlab g l v i).1 = wI .i64 (1 - (lab l v).1)
    · rw [(acc6 h).1 ha, key.1 ha]
      unfold ref39_sees_k1
      rw [if_neg (by decide), if_neg (by decide), if_pos rfl]
      rcases hx with hx | hx
      · rw [if_pos hx]; exact ⟨_, rfl, rfl⟩
      · rw [if_neg (by omega), decide_eq_true hx]; exact ⟨_, rfl, rfl⟩
    · rw [(acc6 h).2 ha, key.2 ha]; exact ⟨_, rfl, rfl⟩
  by_cases h0 : (at' l (v : Int)).1 ≠ 0
  · rw [if_pos h0]
    by_cases h1 : (at' l (v : Int)).1 ≠ 1
    · rw [decide_eq_true h1]
      have e1 : labels_accepts_k34 2000 3 g st l v true = some false := rfl
      rw [e1]
      by_cases ha : ∀ i, i < (row g v).length → (nlab g l v i).1 = wI .i64 (1 - (lab l v).1)
      · rw [key.1 ha]
        unfold ref39_sees_k1
        rw [if_neg (by decide), if_neg (by decide), if_pos rfl, if_neg h0, decide_eq_false h1]; exact ⟨_, rfl, rfl⟩
      · rw [key.2 ha]; exact ⟨_, rfl, rfl⟩
    · rw [decide_eq_false h1, k34]; exact fin true (.inr (by omega))
  · rw [if_neg h0, k34]; exact fin true (.inl (by omega))

theorem refBack_eq (h : Ctx39 g st l v) {k : Nat} (hk : k < (row g v).length) {u : Nat} (hu : u < g.2.length) (he : (lnk (row g v) k).1 = (u : Int)) : m_ref01_Back 2000 g (v : Int) (k : Int) = some (portOf (row g u) (v : Int)) := by
  have hd := h.deg
  have hv := h.hv
  have h24 := h.V.n24
  have q1 : (at' g.2 (v : Int)).length = (row g v).length := rfl
  have q2 : (at' (at' g.2 (v : Int)) (k : Int)).1 = (lnk (row g v) k).1 := rfl
  have hdeg : m_ref01_Degree 2000 g (v : Int) = some ((row g v).length : Int) := by
    unfold m_ref01_Degree
    rw [bindS ((refValid_eq g h.V.light).1 h.V)]
    unfold ref01_Degree_k1
    rw [if_neg (by simp), wr (by omega) (by omega), refIn_eq, decide_eq_true (by omega), bindS rfl]
    first | rw [if_neg (by simp), ckT (by omega)] | rfl
  unfold m_ref01_Back
  rw [bindS hdeg, wr (by omega) (by omega), refIn_eq, decide_eq_true (by omega), bindS rfl, if_neg (by simp), ckT (by omega), ckT (by omega), q2, he, bindS (refPort_eq g u v hu (by have := (h.V.node u hu).deg; omega))]

theorem prog4 (h : Ctx39 g st l v) : m_labels_accepts 2000 4 g st l (v : Int) = if (at' l (v : Int)).1 = 0 ∨ (at' l (v : Int)).1 = 1 then iter (labels_accepts_s7 2000 g st l v) 2000 0 else some false := by
  have hs := h.hs
  have hl := h.hl
  have hv := h.hv
  have k34 : labels_accepts_k34 2000 4 g st l v false = iter (labels_accepts_s7 2000 g st l v) 2000 0 := by
    unfold labels_accepts_k34
    rw [if_neg (by simp), if_neg (by decide), ckT (by omega)]
  rw [prog_enter h]
  unfold labels_accepts_k1
  rw [if_neg (by decide), if_neg (by decide)]
  by_cases h0 : (at' l (v : Int)).1 = 0
  · rw [if_neg (fun hne => hne h0), if_pos (.inl h0), k34]
  · rw [if_pos h0]
    by_cases h1 : (at' l (v : Int)).1 = 1
    · rw [decide_eq_false (fun hne => hne h1), if_pos (.inr h1), k34]
    · rw [decide_eq_true h1, if_neg (fun hc => hc.elim h0 h1)]; rfl

theorem refPartner (h : Ctx39 g st l v) (hf : FitAt 4 g v (at' st (v : Int))) : m_ref39_partner 2000 g st v = some (if at' st (v : Int) < 0 then -1 else (at' (at' g.2 (v : Int)) (at' st (v : Int))).1) := by
  have hs := h.hs
  have hv := h.hv
  have q1 : (at' g.2 (v : Int)).length = (row g v).length := rfl
  rw [FitAt, if_pos (.inr rfl)] at hf
  unfold m_ref39_partner
  rw [ckT (by omega)]
  by_cases hx : at' st (v : Int) < 0
  · rw [if_pos hx, if_pos hx]
  · rw [if_neg hx, if_neg hx, ckT (by omega), ckT (by omega), ckT (by omega)]

theorem ref4 (kind : Int) (hk : kind = 4) : ref39_sees_k1 2000 kind g st l v false = Option.bind (m_ref39_partner 2000 g st v) fun r42 => (if (0 : Int) ≤ r42 then (ck (0 ≤ r42 ∧ r42 < (List.length st : Int)) (ck (0 ≤ (v : Int) ∧ (v : Int) < (List.length st : Int)) (Option.bind (m_ref01_Back 2000 ((g.1, g.2)) v (at' st v)) fun r59 => (ref39_sees_k5 l v r42 (decide ((at' st r42) ≠ r59)))))) else (ref39_sees_k5 l v r42 (false))) := by
  unfold ref39_sees_k1
  rw [if_neg (by omega), if_neg (by omega), if_neg (by omega)]

/-- the value at kind 4 where all neighbours are covered -/
def val4 (g : GR) (st : List Int) (l : List (Int × Int)) (v : Nat) : Bool :=
  if at' st (v : Int) < 0 then decide ((at' l (v : Int)).1 = 0) else
    let u := (at' (at' g.2 (v : Int)) (at' st (v : Int))).1
    decide (at' st u = portOf (at' g.2 u) (v : Int)) && (decide ((at' l (v : Int)).1 = 0) || (decide ((at' l (v : Int)).1 = 1) && decide ((at' l u).1 = 0)))

theorem refVal4 (h : Ctx39 g st l v) (hf : FitAt 4 g v (at' st (v : Int))) : ref39_sees_k1 2000 4 g st l v false = some (val4 g st l v) := by
  have hs := h.hs
  have hl := h.hl
  have hv := h.hv
  have h24 := h.V.n24
  have q1 : (at' g.2 (v : Int)).length = (row g v).length := rfl
  rw [ref4 4 rfl, bindS (refPartner h hf)]
  rw [FitAt, if_pos (.inr rfl)] at hf
  unfold val4
  by_cases hx : at' st (v : Int) < 0
  · rw [if_pos hx, if_pos hx, if_neg (by decide)]
    unfold ref39_sees_k5
    rw [if_neg (by simp)]
    by_cases h0 : (at' l (v : Int)).1 = 0
    · rw [if_pos h0, decide_eq_true h0]; rfl
    · rw [if_neg h0, decide_eq_false h0]
      by_cases h1 : (at' l (v : Int)).1 = 1
      · rw [if_pos h1, if_neg (by decide)]; rfl
      · rw [if_neg h1]; rfl
  · rw [if_neg hx, if_neg hx]
    obtain ⟨k, hk⟩ : ∃ k : Nat, at' st (v : Int) = k := ⟨(at' st (v : Int)).toNat, by omega⟩
    have hkd : k < (row g v).length := by omega
    obtain ⟨u, hu, he, _⟩ := h.V.port hv hkd
    have q2 : (at' (at' g.2 (v : Int)) (k : Int)).1 = (u : Int) := he
    rw [hk, q2]
    dsimp only
    rw [if_pos (by omega), ckT (by omega), ckT (by omega), bindS (refBack_eq h hkd hu he)]
    have q3 : at' g.2 (u : Int) = row g u := rfl
    rw [q3]
    by_cases hb : at' st (u : Int) = portOf (row g u) (v : Int)
    · rw [decide_eq_false (fun hne => hne hb), decide_eq_true hb]
      unfold ref39_sees_k5
      rw [if_neg (by simp)]
      by_cases h0 : (at' l (v : Int)).1 = 0
      · rw [if_pos h0, decide_eq_true h0]; rfl
      · rw [if_neg h0, decide_eq_false h0]
        by_cases h1 : (at' l (v : Int)).1 = 1
        · rw [if_pos h1, if_pos (by omega), ckT (by omega), decide_eq_true h1]; rfl
        · rw [if_neg h1, decide_eq_false h1]; rfl
    · rw [decide_eq_true hb, decide_eq_false hb]; rfl

theorem progVal4 (h : Ctx39 g st l v) (hf : FitAt 4 g v (at' st (v : Int))) (h01 : (at' l (v : Int)).1 = 0 ∨ (at' l (v : Int)).1 = 1) : labels_accepts_k41 2000 g st l v true = some (val4 g st l v) := by
  have hs := h.hs
  have hl := h.hl
  have hv := h.hv
  have h24 := h.V.n24
  have q1 : (at' g.2 (v : Int)).length = (row g v).length := rfl
  rw [FitAt, if_pos (.inr rfl)] at hf
  unfold labels_accepts_k41 val4
  rw [if_neg (by simp), ckT (by omega)]
  by_cases hx : at' st (v : Int) < 0
  · rw [if_pos hx, if_pos hx]
  · rw [if_neg hx, if_neg hx]
    obtain ⟨k, hk⟩ : ∃ k : Nat, at' st (v : Int) = k := ⟨(at' st (v : Int)).toNat, by omega⟩
    have hkd : k < (row g v).length := by omega
    obtain ⟨u, hu, he, _⟩ := h.V.port hv hkd
    have q2 : (at' (at' g.2 (v : Int)) (k : Int)).1 = (u : Int) := he
    have q3 : at' g.2 (u : Int) = row g u := rfl
    have du := (h.V.node u hu).deg
    rw [hk]
    dsimp only
    rw [ckT (by omega), ckT (by omega), ckT (by omega), q2, q3, ckT (by omega), bindS (portTo_eq g u (v : Int) hu (by omega)), ckT (by omega)]
    unfold labels_accepts_k42
    by_cases hb : at' st (u : Int) = portOf (row g u) (v : Int)
    · rw [if_pos hb, decide_eq_true hb]
      by_cases h0 : (at' l (v : Int)).1 = 0
      · rw [if_pos h0, decide_eq_true h0]; rfl
      · rw [if_neg h0, decide_eq_false h0, decide_eq_true (h01.resolve_left h0)]; rfl
    · rw [if_neg hb, decide_eq_false hb]; rfl

theorem alike4 (h : Ctx39 g st l v) (hf : FitAt 4 g v (at' st (v : Int))) : Same2 (m_labels_accepts 2000 4 g st l (v : Int)) (m_ref39_sees 2000 4 g st l (v : Int)) := by
  have key := sees34 h (kind := 4) (.inr rfl) (fun i => (lab l v).1 = 1 ∨ (nlab g l v i).1 = 1) (fun hc => by omega) (fun _ _ => Iff.rfl)
  rw [prog4 h]
  by_cases ha : ∀ i, i < (row g v).length → ((lab l v).1 = 1 ∨ (nlab g l v i).1 = 1)
  rotate_left
  · rw [key.2 ha, (acc7 h).2 ha]
    exact ⟨false, by split <;> rfl, rfl⟩
  rw [key.1 ha, refVal4 h hf, (acc7 h).1 ha]
  refine ⟨_, ?_, rfl⟩
  by_cases h01 : (at' l (v : Int)).1 = 0 ∨ (at' l (v : Int)).1 = 1
  · rw [if_pos h01, progVal4 h hf h01]
  · rw [if_neg h01]
    have h0 : ¬ (at' l (v : Int)).1 = 0 := fun hc => h01 (.inl hc)
    have h1 : ¬ (at' l (v : Int)).1 = 1 := fun hc => h01 (.inr hc)
    unfold val4
    rw [decide_eq_false h0, decide_eq_false h1]
    by_cases hx : at' st (v : Int) < 0
    · rw [if_pos hx]
    · rw [if_neg hx]; simp
end
/-! ## the numbers of a state -/
theorem number_eq {g : GR} {v : Nat} (hv : v < g.2.length) (kind x : Int) : (FitAt kind g v x → m_labels_number 2000 kind g v x = some true) ∧ (¬ FitAt kind g v x → m_labels_number 2000 kind g v x = some false) := by
  have q1 : (at' g.2 (v : Int)).length = (row g v).length := rfl
  have e : m_labels_number 2000 kind g v x = labels_number_k1 kind g v x (decide (kind = 1 ∨ kind = 4)) := by
    unfold m_labels_number
    by_cases h1 : kind = 1
    · rw [if_pos h1, decide_eq_true h1, decide_eq_true (.inl h1)]
    · rw [if_neg h1]; congr 1; exact decide_eq_decide.2 ⟨.inr, fun h => h.resolve_left h1⟩
  rw [e]
  unfold labels_number_k1 FitAt
  by_cases h14 : kind = 1 ∨ kind = 4
  · rw [if_pos (decide_eq_true h14), if_pos h14]
    by_cases h1 : -1 ≤ x
    · rw [if_pos h1, ckT (by omega)]
      unfold labels_number_k2
      by_cases h2 : x < ((row g v).length : Int)
      · rw [decide_eq_true h2]; exact ⟨fun _ => rfl, fun hn => absurd ⟨h1, h2⟩ hn⟩
      · rw [decide_eq_false h2]; exact ⟨fun hy => absurd hy.2 h2, fun _ => rfl⟩
    · rw [if_neg h1]; exact ⟨fun hy => absurd hy.1 h1, fun _ => rfl⟩
  · rw [if_neg h14, decide_eq_false h14, if_neg (c := (false = true)) (by simp)]
    by_cases h2 : kind = 2
    · rw [if_pos h2, if_pos h2]
      unfold labels_number_k3
      by_cases h0 : x = 0
      · rw [if_pos h0]; exact ⟨fun _ => rfl, fun hn => absurd (.inl h0) hn⟩
      · rw [if_neg h0]
        by_cases h1 : x = 1
        · rw [decide_eq_true h1]; exact ⟨fun _ => rfl, fun hn => absurd (.inr h1) hn⟩
        · rw [decide_eq_false h1]; exact ⟨fun hy => by rcases hy with hy | hy; exact absurd hy h0; exact absurd hy h1, fun _ => rfl⟩
    · rw [if_neg h2, if_neg h2]
      by_cases h0 : x = 0
      · rw [decide_eq_true h0]; exact ⟨fun _ => rfl, fun hn => absurd h0 hn⟩
      · rw [decide_eq_false h0]; exact ⟨fun hy => absurd hy h0, fun _ => rfl⟩

theorem fits_eq {g : GR} {v : Nat} (hv : v < g.2.length) (hd : (row g v).length ≤ 900) (kind x : Int) : (FitAt kind g v x → m_ref39_Fits 2000 kind g v x = some true) ∧ (¬ FitAt kind g v x → m_ref39_Fits 2000 kind g v x = some false) := by
  have q1 : (at' g.2 (v : Int)).length = (row g v).length := rfl
  have e : m_ref39_Fits 2000 kind g v x = ref39_Fits_k1 2000 kind g v x (decide (kind = 1 ∨ kind = 4)) := by
    unfold m_ref39_Fits
    by_cases h1 : kind = 1
    · rw [if_pos h1, decide_eq_true h1, decide_eq_true (.inl h1)]
    · rw [if_neg h1]; congr 1; exact decide_eq_decide.2 ⟨.inr, fun h => h.resolve_left h1⟩
  rw [e]
  unfold ref39_Fits_k1 FitAt
  by_cases h14 : kind = 1 ∨ kind = 4
  · rw [if_pos (decide_eq_true h14), if_pos h14, ckT (by omega), wr (by omega) (by omega), refIn_eq, bindS rfl]
    by_cases h1 : -1 ≤ x ∧ x ≤ ((at' g.2 (v : Int)).length : Int) - 1
    · rw [decide_eq_true h1]; exact ⟨fun _ => rfl, fun hn => absurd ⟨h1.1, by omega⟩ hn⟩
    · rw [decide_eq_false h1]; exact ⟨fun hy => absurd ⟨hy.1, by omega⟩ h1, fun _ => rfl⟩
  · rw [if_neg h14, decide_eq_false h14, if_neg (c := (false = true)) (by simp)]
    by_cases h2 : kind = 2
    · rw [if_pos h2, if_pos h2]
      unfold ref39_Fits_k2
      by_cases h0 : x = 0
      · rw [if_pos h0]; exact ⟨fun _ => rfl, fun hn => absurd (.inl h0) hn⟩
      · rw [if_neg h0]
        by_cases h1 : x = 1
        · rw [decide_eq_true h1]; exact ⟨fun _ => rfl, fun hn => absurd (.inr h1) hn⟩
        · rw [decide_eq_false h1]; exact ⟨fun hy => by rcases hy with hy | hy; exact absurd hy h0; exact absurd hy h1, fun _ => rfl⟩
    · rw [if_neg h2, if_neg h2]
      by_cases h0 : x = 0
      · rw [decide_eq_true h0]; exact ⟨fun _ => rfl, fun hn => absurd h0 hn⟩
      · rw [decide_eq_false h0]; exact ⟨fun hy => absurd hy h0, fun _ => rfl⟩

/-! ## Accepts -/
/-- what is asked for -/
def OK39 (kind : Int) (g : GR) (st : List Int) (l : List (Int × Int)) (w : Int) : Prop :=
  (1 ≤ kind ∧ kind ≤ 4) ∧ (0 ≤ w ∧ w ≤ (g.2.length : Int) - 1) ∧ st.length = g.2.length ∧ l.length = g.2.length ∧ FitAt kind g w.toNat (at' st w)

theorem progA {g : GR} (hlg : light g) (hV : VG g) (kind : Int) (st : List Int) (l : List (Int × Int)) (w : Int) :
    (OK39 kind g st l w → m_labels_Accepts 2000 kind g st l w = (m_labels_accepts 2000 kind g st l w).bind fun r => some r) ∧ (¬ OK39 kind g st l w → m_labels_Accepts 2000 kind g st l w = some false) := by
  have hlen := hV.len
  have h24 := hV.n24
  have hkn : m_labels_known 2000 kind = some (decide (1 ≤ kind ∧ kind ≤ 4)) := by
    unfold m_labels_known labels_known_k1
    by_cases h1 : 1 ≤ kind
    · rw [if_pos h1]; congr 1; exact decide_eq_decide.2 ⟨fun h => ⟨h1, h⟩, fun h => h.2⟩
    · rw [if_neg h1, decide_eq_false (fun h => h1 h.1)]
  have no1 : labels_Accepts_k1 2000 kind g st l w true = some false := rfl
  have no3 : labels_Accepts_k2 2000 kind g st l w true = some false := rfl
  unfold m_labels_Accepts
  rw [bindS ((valid_eq g hlg).1 hV), if_neg (by simp), hkn, bindS rfl]
  by_cases hk : 1 ≤ kind ∧ kind ≤ 4
  rotate_left
  · rw [decide_eq_false hk, if_pos (by rfl), no1]; exact ⟨fun h => absurd h.1 hk, fun _ => rfl⟩
  rw [decide_eq_true hk, if_neg (c := ((!true) = true)) (by simp)]
  by_cases hw : 0 ≤ w ∧ w ≤ (g.2.length : Int) - 1
  rotate_left
  · refine ⟨fun h => absurd h.2.1 hw, fun _ => ?_⟩
    by_cases h0 : w < 0
    · rw [if_pos h0]; exact no1
    · rw [if_neg h0, decide_eq_true (by omega)]; exact no1
  rw [if_neg (show ¬ w < 0 by omega), decide_eq_false (show ¬ (g.1.length : Int) ≤ w by omega)]
  obtain ⟨v, rfl⟩ : ∃ k : Nat, w = k := ⟨w.toNat, by omega⟩
  unfold labels_Accepts_k1
  rw [if_neg (c := (false = true)) (by simp)]
  by_cases hs : st.length = g.2.length
  rotate_left
  · rw [if_pos (show (st.length : Int) ≠ (g.1.length : Int) by omega), no3]; exact ⟨fun h => absurd h.2.2.1 hs, fun _ => rfl⟩
  rw [if_neg (show ¬ (st.length : Int) ≠ (g.1.length : Int) by omega)]
  by_cases hl : l.length = g.2.length
  rotate_left
  · rw [if_pos (show (l.length : Int) ≠ (g.1.length : Int) by omega), no3]; exact ⟨fun h => absurd h.2.2.2.1 hl, fun _ => rfl⟩
  rw [if_neg (show ¬ (l.length : Int) ≠ (g.1.length : Int) by omega), ckT (by omega)]
  by_cases hf : FitAt kind g v (at' st (v : Int))
  rotate_left
  · rw [bindS ((number_eq (by omega) kind _).2 hf)]; exact ⟨fun h => absurd h.2.2.2.2 hf, fun _ => no3⟩
  rw [bindS ((number_eq (by omega) kind _).1 hf)]
  exact ⟨fun _ => rfl, fun h => absurd ⟨hk, hw, hs, hl, hf⟩ h⟩

theorem refA {g : GR} (hlg : light g) (hV : VG g) (kind : Int) (st : List Int) (l : List (Int × Int)) (w : Int) :
    (OK39 kind g st l w → m_ref39_Accepts 2000 kind g st l w = (m_ref39_sees 2000 kind g st l w).bind fun r => some r) ∧ (¬ OK39 kind g st l w → m_ref39_Accepts 2000 kind g st l w = some false) := by
  have hlen := hV.len
  have h24 := hV.n24
  have no2 : ref39_Accepts_k1 2000 kind g st l w true = some false := rfl
  unfold m_ref39_Accepts
  rw [bindS ((refValid_eq g hlg).1 hV), if_neg (by simp), refIn_eq, bindS rfl]
  by_cases hk : 1 ≤ kind ∧ kind ≤ 4
  rotate_left
  · rw [decide_eq_false hk, if_pos (by rfl), no2]; exact ⟨fun h => absurd h.1 hk, fun _ => rfl⟩
  rw [decide_eq_true hk, if_neg (c := ((!true) = true)) (by simp), wr (by omega) (by omega), refIn_eq, bindS rfl]
  by_cases hw : 0 ≤ w ∧ w ≤ (g.2.length : Int) - 1
  rotate_left
  · rw [decide_eq_false hw, if_pos (by rfl), no2]; exact ⟨fun h => absurd h.2.1 hw, fun _ => rfl⟩
  rw [decide_eq_true hw, if_neg (c := ((!true) = true)) (by simp)]
  obtain ⟨v, rfl⟩ : ∃ k : Nat, w = k := ⟨w.toNat, by omega⟩
  by_cases hs : st.length = g.2.length
  rotate_left
  · rw [if_pos (show (st.length : Int) ≠ (g.2.length : Int) by omega), no2]; exact ⟨fun h => absurd h.2.2.1 hs, fun _ => rfl⟩
  rw [if_neg (show ¬ (st.length : Int) ≠ (g.2.length : Int) by omega)]
  by_cases hl : l.length = g.2.length
  rotate_left
  · rw [if_pos (show (l.length : Int) ≠ (g.2.length : Int) by omega), no2]; exact ⟨fun h => absurd h.2.2.2.1 hl, fun _ => rfl⟩
  rw [if_neg (show ¬ (l.length : Int) ≠ (g.2.length : Int) by omega), ckT (by omega)]
  have hc : Ctx39 g st l v := ⟨hV, by omega, hs, hl⟩
  have hdg := hc.deg
  by_cases hf : FitAt kind g v (at' st (v : Int))
  rotate_left
  · rw [bindS ((fits_eq (by omega) (by omega) kind _).2 hf)]; exact ⟨fun h => absurd h.2.2.2.2 hf, fun _ => no2⟩
  rw [bindS ((fits_eq (by omega) (by omega) kind _).1 hf)]
  exact ⟨fun _ => rfl, fun h => absurd ⟨hk, hw, hs, hl, hf⟩ h⟩

theorem accepts_alike {g : GR} (hlg : light g) (kind : Int) (st : List Int) (l : List (Int × Int)) (w : Int) : Same2 (m_labels_Accepts 2000 kind g st l w) (m_ref39_Accepts 2000 kind g st l w) := by
  by_cases hV : VG g
  rotate_left
  · refine ⟨false, ?_, ?_⟩
    · unfold m_labels_Accepts; rw [bindS ((valid_eq g hlg).2 hV)]; rfl
    · unfold m_ref39_Accepts; rw [bindS ((refValid_eq g hlg).2 hV)]; rfl
  by_cases hok : OK39 kind g st l w
  rotate_left
  · exact ⟨false, (progA hlg hV kind st l w).2 hok, (refA hlg hV kind st l w).2 hok⟩
  rw [(progA hlg hV kind st l w).1 hok, (refA hlg hV kind st l w).1 hok]
  obtain ⟨hk, hw, hs, hl, hf⟩ := hok
  obtain ⟨v, rfl⟩ : ∃ k : Nat, w = k := ⟨w.toNat, by omega⟩
  have hc : Ctx39 g st l v := ⟨hV, by have := hV.len; omega, hs, hl⟩
  have key : Same2 (m_labels_accepts 2000 kind g st l (v : Int)) (m_ref39_sees 2000 kind g st l (v : Int)) := by
    rcases (show kind = 1 ∨ kind = 2 ∨ kind = 3 ∨ kind = 4 by omega) with rfl | rfl | rfl | rfl
    · exact alike1 hc hf
    · exact alike2 hc hf
    · exact alike3 hc
    · exact alike4 hc hf
  obtain ⟨r, h1, h2⟩ := key
  rw [bindS h1, bindS h2]
  exact ⟨_, rfl, rfl⟩

/-! ## Rejecting -/
end Go.Proofs.Ytmajgimhmfeliaa
end
section
set_option linter.unusedVariables false
set_option linter.unusedSimpArgs false
namespace Go.Proofs.Ytmajgimhmfeliaa
open Go.Sx
set_option linter.unusedVariables false
set_option linter.unusedSimpArgs false
def labels_fits_k1  (a3 : Unit) : Option (Bool) :=
  some (true)
def labels_fits_s1 (fuel : Nat) (p0 : Int) (p1 : List (Int) × (List (List (Int × Int)))) (p2 : List (Int)) (a7 : Int) (ag6 : (Int) → Option (Bool)) : Option (Bool) :=
  if a7 < (List.length p2 : Int) then (ck (0 ≤ a7 ∧ a7 < (List.length p2 : Int)) (Option.bind (m_labels_number fuel p0 ((p1.1, p1.2)) a7 (at' p2 a7)) fun r12 => (if (!r12) = true then (some (false)) else (ag6 (wI .i64 (a7 + (1 : Int))))))) else (labels_fits_k1  (()))
def m_labels_fits (fuel : Nat) (p0 : Int) (p1 : List (Int) × (List (List (Int × Int)))) (p2 : List (Int)) : Option (Bool) :=
  if (List.length p2 : Int) ≠ (List.length p1.1 : Int) then (some (false)) else (iter (labels_fits_s1 fuel p0 p1 p2) fuel (0 : Int))

theorem body31 : HasBody Try.prog 31 := Try.call31

set_option maxHeartbeats 4000000 in
set_option maxRecDepth 20000 in
theorem t_labels_fits (fuel : Nat) {p0 : Int} {p1 : List (Int) × (List (List (Int × Int)))} {p2 : List (Int)} (v0 : Value)  (v1 : Value)  (z2 : List (Value × List (Int × Int)))  (v3 : Value) (r : Bool) (h : m_labels_fits fuel p0 p1 p2 = some r) :
    Meets Try.prog 31 #[Value.int .i64 (p0), Value.agg #[v0, v1], v3] [Sl RI64 v0 p1.1, S2 RI64I64p v1 z2 p1.2, Sl RI64 v3 p2] (fun x : Unit => Value.bool (r)) (fun x l => l) (fun _ l => l) := by
  refine Meets.of (vs := [Value.int .i64 (p0), Value.agg #[v0, v1], v3]) Try.func31 rfl Try.ntmps31 rfl fun c => ?_
  unfold m_labels_fits at h
  refine J.seq ?_
  refine J.region ?_
  refine J.loud (Loud.box (cs := [v0, v1]) rfl rfl) rfl fun b1 => ?_
  refine J.quiet (Y.assign rfl) rfl ?_
  refine J.done ?_
  refine J.thenN ?_
  refine J.seq ?_
  refine J.seq ?_
  refine J.region ?_
  refine J.quiet (Y.move rfl) rfl ?_
  refine J.quiet (Y.lenS rfl (Lent.fact 2 rfl) rfl) rfl ?_
  refine J.quiet (Y.fieldB rfl rfl rfl rfl rfl) rfl ?_
  refine J.quiet (Y.loadB 0 rfl rfl rfl rfl rfl) rfl ?_
  refine J.quiet (Y.lenS rfl (Lent.fact 0 rfl) rfl) rfl ?_
  refine J.quiet (Y.neq rfl rfl) rfl ?_
  refine J.done ?_
  refine J.thenN ?_
  refine J.condD (by exact rfl) (fun hp2 => ?_) (fun hp2 => ?_)
  · replace h := ifP hp2 h
    refine J.seq ?_
    refine J.region ?_
    refine J.quiet (Y.assign rfl) rfl ?_
    refine J.done ?_
    refine J.thenN ?_
    refine J.ret ?_
    refine J.thenR ?_
    obtain rfl := Option.some.inj h
    exact J.retG1 (()) rfl rfl (RV.tmp rfl) (SubM.nil) LentAll.nil
  · replace h := ifN hp2 h
    refine J.skip ?_
    refine J.thenN ?_
    refine J.seq ?_
    refine J.midI (A := Unit) (B := Unit) (fun a3 => labels_fits_k1  a3 = some r) (fun a3 b4 => []) (fun a3 b4 => []) (fun a3 b4 => [Sl RI64 v0 p1.1, S2 RI64I64p v1 z2 p1.2, Sl RI64 v3 p2]) ?_ ?_
    · refine J.seq ?_
      refine J.region ?_
      refine J.quiet (Y.move rfl) rfl ?_
      refine J.quiet (Y.lenS rfl (Lent.fact 2 rfl) rfl) rfl ?_
      refine J.quiet (Y.move rfl) rfl ?_
      refine J.done ?_
      refine J.thenN ?_
      refine J.block ?_
      refine J.loopI (A := Int) (B := Unit) (labels_fits_s1 fuel p0 p1 p2) (fun a7 b8 => [(0, Value.int .i64 (p0)), (4, Value.pointer (some ⟨b1, 0, none⟩)), (15, v3), (16, Value.int .i64 (List.length p2 : Int)), (17, Value.int .i64 (a7))]) (fun a7 b8 => [Blk b1 [v0, v1] 29]) (fun a7 b8 => [Sl RI64 v0 p1.1, S2 RI64I64p v1 z2 p1.2, Sl RI64 v3 p2]) (0 : Int) (()) h (by repeat (first | exact SubF.nil | refine SubF.cons rfl ?_)) (SubM.refl _) (LentAll.refl _ _) ?_
      clear h
      intro k9 a7 b8 h
      unfold labels_fits_s1 at h
      refine J.seq ?_
      refine J.region ?_
      refine J.quiet (Y.lss rfl rfl) rfl ?_
      refine J.done ?_
      refine J.thenN ?_
      refine J.seq ?_
      refine J.condD (by exact rfl) (fun hp10 => ?_) (fun hp10 => ?_)
      · replace h := ifP hp10 h
        refine J.skip ?_
        refine J.thenN ?_
        refine J.seq ?_
        refine J.block ?_
        refine J.seq ?_
        refine J.region ?_
        refine J.quiet (Y.move rfl) rfl ?_
        replace h := ck_some h; obtain ⟨hc11, h⟩ := h
        refine J.quiet (Y.indexS rfl rfl (Lent.fact 2 rfl) rfl rfl hc11) rfl ?_
        refine J.quiet (Y.loadS0 rfl (Lent.fact 2 rfl) rfl rfl rfl RI64c0 hc11) rfl ?_
        refine J.quiet (Y.assign rfl) rfl ?_
        refine J.quiet (Y.assign rfl) rfl ?_
        refine J.done ?_
        refine J.thenN ?_
        refine J.seq ?_
        refine J.region ?_
        refine J.quiet (Y.move rfl) rfl ?_
        refine J.quiet (Y.loadBAll 0 rfl rfl rfl rfl) rfl ?_
        refine J.quiet (Y.move rfl) rfl ?_
        refine J.quiet (Y.move rfl) rfl ?_
        replace h := bnd h; obtain ⟨r12, hr13, h⟩ := h
        refine J.loud (Loud.callL body46 (t_labels_number fuel v0 v1 z2 r12 hr13) rfl (LentAll.cons (Lent.fact 0 rfl) (LentAll.cons (Lent.fact 1 rfl) (LentAll.nil))) (fun _ _ => rfl)) rfl fun x14 => ?_
        refine J.quiet (Y.not rfl) rfl ?_
        refine J.done ?_
        refine J.thenN ?_
        refine J.cond (by exact rfl) (fun hp15 => ?_) (fun hp15 => ?_)
        · replace h := ifP hp15 h
          refine J.seq ?_
          refine J.region ?_
          refine J.quiet (Y.assign rfl) rfl ?_
          refine J.done ?_
          refine J.thenN ?_
          refine J.ret ?_
          refine J.inR ?_
          refine J.thenR ?_
          refine J.thenR ?_
          refine J.inR ?_
          refine J.thenR ?_
          obtain rfl := Option.some.inj h
          exact J.retG1 (()) rfl rfl (RV.tmp rfl) (SubM.nil) LentAll.nil
        · replace h := ifBN hp15 h
          refine J.skip ?_
          refine J.inN ?_
          refine J.thenN ?_
          refine J.region ?_
          refine J.quiet (Y.addW rfl rfl) rfl ?_
          refine J.quiet (Y.move rfl) rfl ?_
          refine J.done ?_
          refine J.thenN ?_
          exact J.againI (wI .i64 (a7 + (1 : Int))) (()) h (by repeat (first | exact SubF.nil | refine SubF.cons rfl ?_)) (SubM.refl _) (LentAll.refl _ _)
      · replace h := ifN hp10 h
        refine J.exit ?_
        refine J.thenX ?_
        refine J.thenX ?_
        refine J.inX ?_
        refine J.thenN ?_
        exact J.meetI (()) (()) h (by repeat (first | exact SubF.nil | refine SubF.cons rfl ?_)) (SubM.nil) (LentAll.refl _ _)
    · clear h
      intro a3 b4 h
      unfold labels_fits_k1 at h
      refine J.seq ?_
      refine J.region ?_
      refine J.quiet (Y.assign rfl) rfl ?_
      refine J.done ?_
      refine J.thenN ?_
      refine J.ret ?_
      obtain rfl := Option.some.inj h
      exact J.retG1 (()) rfl rfl (RV.tmp rfl) (SubM.refl _) LentAll.nil

end Go.Proofs.Ytmajgimhmfeliaa
end
section
set_option linter.unusedVariables false
set_option linter.unusedSimpArgs false
namespace Go.Proofs.Ytmajgimhmfeliaa
open Go.Sx
set_option linter.unusedVariables false
set_option linter.unusedSimpArgs false
def labels_only_k1  (a3 : Int × Int) : Option (Int) :=
  if a3.2 ≠ (1 : Int) then (some (-1 : Int)) else (some (a3.1))
def labels_only_k2 (a10 : Int × Int × Int) (ag9 : (Int × Int × Int) → Option (Int)) (a16 : Int × Int) : Option (Int) :=
  ag9 (a16.1, a16.2, (wI .i64 (a10.2.2 + (1 : Int))))
def labels_only_s1 (p0 : List (Int)) (p1 : Int) (a10 : Int × Int × Int) (ag9 : (Int × Int × Int) → Option (Int)) : Option (Int) :=
  if a10.2.2 < (List.length p0 : Int) then (ck (0 ≤ a10.2.2 ∧ a10.2.2 < (List.length p0 : Int)) (if (at' p0 a10.2.2) = p1 then (labels_only_k2 a10 ag9 (a10.2.2, (wI .i64 (a10.2.1 + (1 : Int))))) else (labels_only_k2 a10 ag9 (a10.1, a10.2.1)))) else (labels_only_k1  (a10.1, a10.2.1))
def m_labels_only (fuel : Nat) (p0 : List (Int)) (p1 : Int) : Option (Int) :=
  iter (labels_only_s1 p0 p1) fuel ((-1 : Int), (0 : Int), (0 : Int))

theorem body54 : HasBody Try.prog 54 := Try.call54

set_option maxHeartbeats 4000000 in
set_option maxRecDepth 20000 in
theorem t_labels_only (fuel : Nat) {p0 : List (Int)} {p1 : Int} (v0 : Value) (r : Int) (h : m_labels_only fuel p0 p1 = some r) :
    Meets Try.prog 54 #[v0, Value.int .i64 (p1)] [Sl RI64 v0 p0] (fun x : Unit => Value.int .i64 (r)) (fun x l => l) (fun _ l => l) := by
  refine Meets.of (vs := [v0, Value.int .i64 (p1)]) Try.func54 rfl Try.ntmps54 rfl fun c => ?_
  unfold m_labels_only at h
  refine J.seq ?_
  refine J.region ?_
  refine J.quiet (Y.assign rfl) rfl ?_
  refine J.done ?_
  refine J.thenN ?_
  refine J.seq ?_
  refine J.region ?_
  refine J.quiet (Y.assign rfl) rfl ?_
  refine J.quiet (Y.assign rfl) rfl ?_
  refine J.done ?_
  refine J.thenN ?_
  refine J.seq ?_
  refine J.midI (A := Int × Int) (B := Unit) (fun a3 => labels_only_k1  a3 = some r) (fun a3 b4 => [(5, Value.int .i64 (a3.1)), (6, Value.int .i64 (a3.2))]) (fun a3 b4 => []) (fun a3 b4 => [Sl RI64 v0 p0]) ?_ ?_
  · refine J.seq ?_
    refine J.region ?_
    refine J.quiet (Y.move rfl) rfl ?_
    refine J.quiet (Y.lenS rfl (Lent.fact 0 rfl) rfl) rfl ?_
    refine J.quiet (Y.move rfl) rfl ?_
    refine J.done ?_
    refine J.thenN ?_
    refine J.block ?_
    refine J.loopI (A := Int × Int × Int) (B := Unit) (labels_only_s1 p0 p1) (fun a10 b11 => [(1, Value.int .i64 (p1)), (5, Value.int .i64 (a10.1)), (6, Value.int .i64 (a10.2.1)), (9, v0), (10, Value.int .i64 (List.length p0 : Int)), (11, Value.int .i64 (a10.2.2))]) (fun a10 b11 => []) (fun a10 b11 => [Sl RI64 v0 p0]) ((-1 : Int), (0 : Int), (0 : Int)) (()) h (by repeat (first | exact SubF.nil | refine SubF.cons rfl ?_)) (SubM.refl _) (LentAll.refl _ _) ?_
    clear h
    intro k12 a10 b11 h
    unfold labels_only_s1 at h
    refine J.seq ?_
    refine J.region ?_
    refine J.quiet (Y.lss rfl rfl) rfl ?_
    refine J.done ?_
    refine J.thenN ?_
    refine J.seq ?_
    refine J.condD (by exact rfl) (fun hp13 => ?_) (fun hp13 => ?_)
    · replace h := ifP hp13 h
      refine J.skip ?_
      refine J.thenN ?_
      refine J.seq ?_
      refine J.midI (A := Int × Int) (B := Unit) (fun a16 => labels_only_k2 a10 (iter (labels_only_s1 p0 p1) k12) a16 = some r) (fun a16 b17 => [(1, Value.int .i64 (p1)), (5, Value.int .i64 (a16.1)), (6, Value.int .i64 (a16.2)), (9, v0), (10, Value.int .i64 (List.length p0 : Int)), (11, Value.int .i64 (a10.2.2))]) (fun a16 b17 => []) (fun a16 b17 => [Sl RI64 v0 p0]) ?_ ?_
      · refine J.block ?_
        refine J.seq ?_
        refine J.region ?_
        refine J.quiet (Y.move rfl) rfl ?_
        replace h := ck_some h; obtain ⟨hc18, h⟩ := h
        refine J.quiet (Y.indexS rfl rfl (Lent.fact 0 rfl) rfl rfl hc18) rfl ?_
        refine J.quiet (Y.loadS0 rfl (Lent.fact 0 rfl) rfl rfl rfl RI64c0 hc18) rfl ?_
        refine J.quiet (Y.assign rfl) rfl ?_
        refine J.quiet (Y.assign rfl) rfl ?_
        refine J.done ?_
        refine J.thenN ?_
        refine J.seq ?_
        refine J.region ?_
        refine J.quiet (Y.move rfl) rfl ?_
        refine J.quiet (Y.move rfl) rfl ?_
        refine J.quiet (Y.eql rfl rfl) rfl ?_
        refine J.done ?_
        refine J.thenN ?_
        refine J.condD (by exact rfl) (fun hp19 => ?_) (fun hp19 => ?_)
        · replace h := ifP hp19 h
          refine J.seq ?_
          refine J.region ?_
          refine J.quiet (Y.move rfl) rfl ?_
          refine J.quiet (Y.assign rfl) rfl ?_
          refine J.done ?_
          refine J.thenN ?_
          refine J.region ?_
          refine J.quiet (Y.move rfl) rfl ?_
          refine J.quiet (Y.addW rfl rfl) rfl ?_
          refine J.quiet (Y.assign rfl) rfl ?_
          refine J.done ?_
          refine J.inN ?_
          refine J.thenN ?_
          exact J.meetI (a10.2.2, (wI .i64 (a10.2.1 + (1 : Int)))) (()) h (by repeat (first | exact SubF.nil | refine SubF.cons rfl ?_)) (SubM.refl _) (LentAll.refl _ _)
        · replace h := ifN hp19 h
          refine J.skip ?_
          refine J.inN ?_
          refine J.thenN ?_
          exact J.meetI (a10.1, a10.2.1) (()) h (by repeat (first | exact SubF.nil | refine SubF.cons rfl ?_)) (SubM.refl _) (LentAll.refl _ _)
      · clear h
        intro a16 b17 h
        unfold labels_only_k2 at h
        refine J.region ?_
        refine J.quiet (Y.addW rfl rfl) rfl ?_
        refine J.quiet (Y.move rfl) rfl ?_
        refine J.done ?_
        refine J.thenN ?_
        exact J.againI (a16.1, a16.2, (wI .i64 (a10.2.2 + (1 : Int)))) (()) h (by repeat (first | exact SubF.nil | refine SubF.cons rfl ?_)) (SubM.refl _) (LentAll.refl _ _)
    · replace h := ifN hp13 h
      refine J.exit ?_
      refine J.thenX ?_
      refine J.thenX ?_
      refine J.inX ?_
      refine J.thenN ?_
      exact J.meetI (a10.1, a10.2.1) (()) h (by repeat (first | exact SubF.nil | refine SubF.cons rfl ?_)) (SubM.refl _) (LentAll.refl _ _)
  · clear h
    intro a3 b4 h
    unfold labels_only_k1 at h
    refine J.seq ?_
    refine J.seq ?_
    refine J.region ?_
    refine J.quiet (Y.move rfl) rfl ?_
    refine J.quiet (Y.neq rfl rfl) rfl ?_
    refine J.done ?_
    refine J.thenN ?_
    refine J.condD (by exact rfl) (fun hp5 => ?_) (fun hp5 => ?_)
    · replace h := ifP hp5 h
      refine J.seq ?_
      refine J.region ?_
      refine J.quiet (Y.assign rfl) rfl ?_
      refine J.done ?_
      refine J.thenN ?_
      refine J.ret ?_
      refine J.thenR ?_
      obtain rfl := Option.some.inj h
      exact J.retG1 (()) rfl rfl (RV.tmp rfl) (SubM.refl _) LentAll.nil
    · replace h := ifN hp5 h
      refine J.skip ?_
      refine J.thenN ?_
      refine J.seq ?_
      refine J.region ?_
      refine J.quiet (Y.move rfl) rfl ?_
      refine J.quiet (Y.assign rfl) rfl ?_
      refine J.done ?_
      refine J.thenN ?_
      refine J.ret ?_
      obtain rfl := Option.some.inj h
      exact J.retG1 (()) rfl rfl (RV.tmp rfl) (SubM.refl _) LentAll.nil

end Go.Proofs.Ytmajgimhmfeliaa
end
section
set_option linter.unusedVariables false
set_option linter.unusedSimpArgs false
namespace Go.Proofs.Ytmajgimhmfeliaa
open Go.Sx
set_option linter.unusedVariables false
set_option linter.unusedSimpArgs false
def labels_tree_k1  (a9 : (List (Int × Int))) : Option ((List (Int × Int)) × Bool) :=
  some (a9, true)
def labels_tree_k2 (p0 : List (Int) × (List (List (Int × Int)))) (r2 : Int) (a14 : Int × (List (Int × Int))) (ag13 : (Int × (List (Int × Int))) → Option ((List (Int × Int)) × Bool)) (a19 : Int) : Option ((List (Int × Int)) × Bool) :=
  ck (0 ≤ r2 ∧ r2 < (List.length p0.1 : Int)) (ck (0 ≤ a14.1 ∧ a14.1 < (List.length a14.2 : Int)) (ag13 ((wI .i64 (a14.1 + (1 : Int))), (List.set a14.2 (Int.toNat a14.1) ((at' p0.1 r2), a19)))))
def labels_tree_s2 (p0 : List (Int) × (List (List (Int × Int)))) (p1 : List (Int)) (r2 : Int) (a14 : Int × (List (Int × Int))) (ag13 : (Int × (List (Int × Int))) → Option ((List (Int × Int)) × Bool)) (a27 : Int × Int) (ag26 : (Int × Int) → Option ((List (Int × Int)) × Bool)) : Option ((List (Int × Int)) × Bool) :=
  if a27.2 ≠ r2 then (if (List.length p1 : Int) ≤ (wI .i64 (a27.1 + (1 : Int))) then (some (([] : List (Int × Int)), false)) else (ck (0 ≤ a27.2 ∧ a27.2 < (List.length p0.2 : Int)) (ck (0 ≤ a27.2 ∧ a27.2 < (List.length p1 : Int)) (ck (0 ≤ (at' p1 a27.2) ∧ (at' p1 a27.2) < (List.length (at' p0.2 a27.2) : Int)) (ag26 ((wI .i64 (a27.1 + (1 : Int))), ((at' (at' p0.2 a27.2) (at' p1 a27.2)).1))))))) else (labels_tree_k2 p0 r2 a14 ag13 (a27.1))
def labels_tree_s1 (fuel : Nat) (p0 : List (Int) × (List (List (Int × Int)))) (p1 : List (Int)) (r2 : Int) (a14 : Int × (List (Int × Int))) (ag13 : (Int × (List (Int × Int))) → Option ((List (Int × Int)) × Bool)) : Option ((List (Int × Int)) × Bool) :=
  if a14.1 < (List.length p1 : Int) then (iter (labels_tree_s2 p0 p1 r2 a14 ag13) fuel ((0 : Int), a14.1)) else (labels_tree_k1  (a14.2))
def m_labels_tree (fuel : Nat) (p0 : List (Int) × (List (List (Int × Int)))) (p1 : List (Int)) : Option ((List (Int × Int)) × Bool) :=
  Option.bind (m_labels_only fuel p1 (-1 : Int)) fun r2 => (if r2 < (0 : Int) then (some (([] : List (Int × Int)), false)) else (ck (0 ≤ (List.length p1 : Int) ∧ (List.length p1 : Int) ≤ 1099511627) (iter (labels_tree_s1 fuel p0 p1 r2) fuel ((0 : Int), (List.replicate (Int.toNat (List.length p1 : Int)) ((0 : Int), (0 : Int)))))))

theorem body32 : HasBody Try.prog 32 := Try.call32

set_option maxHeartbeats 4000000 in
set_option maxRecDepth 20000 in
theorem t_labels_tree (fuel : Nat) {p0 : List (Int) × (List (List (Int × Int)))} {p1 : List (Int)} (v0 : Value)  (v1 : Value)  (z2 : List (Value × List (Int × Int)))  (v3 : Value) (r : (List (Int × Int)) × Bool) (h : m_labels_tree fuel p0 p1 = some r) :
    Meets Try.prog 32 #[Value.agg #[v0, v1], v3] [Sl RI64 v0 p0.1, S2 RI64I64p v1 z2 p0.2, Sl RI64 v3 p1] (fun x : Value => Value.tuple #[x, Value.bool (r.2)]) (fun x l => Ar EI64I64p x r.1 :: l) (fun _ l => l) := by
  refine Meets.of (vs := [Value.agg #[v0, v1], v3]) Try.func32 rfl Try.ntmps32 rfl fun c => ?_
  unfold m_labels_tree at h
  refine J.seq ?_
  refine J.region ?_
  refine J.loud (Loud.box (cs := [v0, v1]) rfl rfl) rfl fun b1 => ?_
  refine J.quiet (Y.assign rfl) rfl ?_
  refine J.quiet (Y.assign rfl) rfl ?_
  refine J.done ?_
  refine J.thenN ?_
  refine J.seq ?_
  refine J.region ?_
  refine J.quiet (Y.move rfl) rfl ?_
  replace h := bnd h; obtain ⟨r2, hr3, h⟩ := h
  refine J.loud (Loud.callL body54 (t_labels_only fuel v3 r2 hr3) rfl (LentAll.cons (Lent.fact 2 rfl) (LentAll.nil)) (fun _ _ => rfl)) rfl fun x4 => ?_
  refine J.quiet (Y.assign rfl) rfl ?_
  refine J.done ?_
  refine J.thenN ?_
  refine J.seq ?_
  refine J.seq ?_
  refine J.region ?_
  refine J.quiet (Y.move rfl) rfl ?_
  refine J.quiet (Y.lss rfl rfl) rfl ?_
  refine J.done ?_
  refine J.thenN ?_
  refine J.condD (by exact rfl) (fun hp5 => ?_) (fun hp5 => ?_)
  · replace h := ifP hp5 h
    refine J.seq ?_
    refine J.region ?_
    refine J.quiet (Y.assign rfl) rfl ?_
    refine J.quiet (Y.assign rfl) rfl ?_
    refine J.done ?_
    refine J.thenN ?_
    refine J.ret ?_
    refine J.thenR ?_
    refine J.stp (Stp.nilAr EI64I64p) ?_
    obtain rfl := Option.some.inj h
    exact J.retG2 (Value.slice none 0 0) rfl rfl (RV.tmp rfl) (RV.tmp rfl) (SubM.cons 0 rfl (SubM.nil)) LentAll.nil
  · replace h := ifN hp5 h
    refine J.skip ?_
    refine J.thenN ?_
    refine J.seq ?_
    refine J.region ?_
    refine J.quiet (Y.move rfl) rfl ?_
    refine J.quiet (Y.lenS rfl (Lent.fact 2 rfl) rfl) rfl ?_
    replace h := ck_some h; obtain ⟨hc6, h⟩ := h
    refine J.loud (Loud.makeS (e := EI64I64p) (((0 : Int), (0 : Int))) rfl rfl rfl rfl hc6 rfl rfl rfl) rfl fun u7 => ?_
    refine J.quiet (Y.assign rfl) rfl ?_
    refine J.done ?_
    refine J.thenN ?_
    refine J.seq ?_
    refine J.midI (A := (List (Int × Int))) (B := Unit) (fun a9 => labels_tree_k1  a9 = some r) (fun a9 b10 => [(7, u7)]) (fun a9 b10 => [Ar EI64I64p u7 a9]) (fun a9 b10 => [Sl RI64 v0 p0.1, S2 RI64I64p v1 z2 p0.2, Sl RI64 v3 p1]) ?_ ?_
    · refine J.seq ?_
      refine J.region ?_
      refine J.quiet (Y.move rfl) rfl ?_
      refine J.quiet (Y.lenS rfl (Lent.fact 2 rfl) rfl) rfl ?_
      refine J.quiet (Y.move rfl) rfl ?_
      refine J.done ?_
      refine J.thenN ?_
      refine J.block ?_
      refine J.loopI (A := Int × (List (Int × Int))) (B := Unit) (labels_tree_s1 fuel p0 p1 r2) (fun a14 b15 => [(1, v3), (2, Value.pointer (some ⟨b1, 0, none⟩)), (6, Value.int .i64 (r2)), (7, u7), (19, Value.int .i64 (List.length p1 : Int)), (20, Value.int .i64 (a14.1))]) (fun a14 b15 => [Ar EI64I64p u7 a14.2, Blk b1 [v0, v1] 29]) (fun a14 b15 => [Sl RI64 v0 p0.1, S2 RI64I64p v1 z2 p0.2, Sl RI64 v3 p1]) ((0 : Int), (List.replicate (Int.toNat (List.length p1 : Int)) ((0 : Int), (0 : Int)))) (()) h (by repeat (first | exact SubF.nil | refine SubF.cons rfl ?_)) (SubM.refl _) (LentAll.refl _ _) ?_
      clear h
      intro k16 a14 b15 h
      unfold labels_tree_s1 at h
      refine J.seq ?_
      refine J.region ?_
      refine J.quiet (Y.lss rfl rfl) rfl ?_
      refine J.done ?_
      refine J.thenN ?_
      refine J.seq ?_
      refine J.condD (by exact rfl) (fun hp17 => ?_) (fun hp17 => ?_)
      · replace h := ifP hp17 h
        refine J.skip ?_
        refine J.thenN ?_
        refine J.seq ?_
        refine J.block ?_
        refine J.seq ?_
        refine J.region ?_
        refine J.quiet (Y.move rfl) rfl ?_
        refine J.quiet (Y.assign rfl) rfl ?_
        refine J.done ?_
        refine J.thenN ?_
        refine J.seq ?_
        refine J.region ?_
        refine J.quiet (Y.assign rfl) rfl ?_
        refine J.done ?_
        refine J.thenN ?_
        refine J.seq ?_
        refine J.midI (A := Int) (B := Unit) (fun a19 => labels_tree_k2 p0 r2 a14 (iter (labels_tree_s1 fuel p0 p1 r2) k16) a19 = some r) (fun a19 b20 => [(1, v3), (2, Value.pointer (some ⟨b1, 0, none⟩)), (6, Value.int .i64 (r2)), (7, u7), (8, Value.int .i64 (a14.1)), (9, Value.int .i64 (a19)), (19, Value.int .i64 (List.length p1 : Int)), (20, Value.int .i64 (a14.1))]) (fun a19 b20 => [Ar EI64I64p u7 a14.2, Blk b1 [v0, v1] 29]) (fun a19 b20 => [Sl RI64 v0 p0.1, S2 RI64I64p v1 z2 p0.2, Sl RI64 v3 p1]) ?_ ?_
        · refine J.seq ?_
          refine J.region ?_
          refine J.quiet (Y.move rfl) rfl ?_
          refine J.quiet (Y.assign rfl) rfl ?_
          refine J.done ?_
          refine J.thenN ?_
          refine J.block ?_
          refine J.loopI (A := Int × Int) (B := Unit) (labels_tree_s2 p0 p1 r2 a14 (iter (labels_tree_s1 fuel p0 p1 r2) k16)) (fun a27 b28 => [(1, v3), (2, Value.pointer (some ⟨b1, 0, none⟩)), (6, Value.int .i64 (r2)), (7, u7), (8, Value.int .i64 (a14.1)), (9, Value.int .i64 (a27.1)), (10, Value.int .i64 (a27.2)), (19, Value.int .i64 (List.length p1 : Int)), (20, Value.int .i64 (a14.1))]) (fun a27 b28 => [Ar EI64I64p u7 a14.2, Blk b1 [v0, v1] 29]) (fun a27 b28 => [Sl RI64 v0 p0.1, S2 RI64I64p v1 z2 p0.2, Sl RI64 v3 p1]) ((0 : Int), a14.1) (()) h (by repeat (first | exact SubF.nil | refine SubF.cons rfl ?_)) (SubM.refl _) (LentAll.refl _ _) ?_
          clear h
          intro k29 a27 b28 h
          unfold labels_tree_s2 at h
          refine J.seq ?_
          refine J.seq ?_
          refine J.region ?_
          refine J.quiet (Y.move rfl) rfl ?_
          refine J.quiet (Y.move rfl) rfl ?_
          refine J.quiet (Y.neq rfl rfl) rfl ?_
          refine J.done ?_
          refine J.thenN ?_
          refine J.condD (by exact rfl) (fun hp30 => ?_) (fun hp30 => ?_)
          · replace h := ifP hp30 h
            refine J.skip ?_
            refine J.thenN ?_
            refine J.seq ?_
            refine J.block ?_
            refine J.seq ?_
            refine J.region ?_
            refine J.quiet (Y.move rfl) rfl ?_
            refine J.quiet (Y.addW rfl rfl) rfl ?_
            refine J.quiet (Y.assign rfl) rfl ?_
            refine J.done ?_
            refine J.thenN ?_
            refine J.seq ?_
            refine J.region ?_
            refine J.quiet (Y.move rfl) rfl ?_
            refine J.quiet (Y.move rfl) rfl ?_
            refine J.quiet (Y.lenS rfl (Lent.fact 2 rfl) rfl) rfl ?_
            refine J.quiet (Y.geq rfl rfl) rfl ?_
            refine J.done ?_
            refine J.thenN ?_
            refine J.condD (by exact rfl) (fun hp31 => ?_) (fun hp31 => ?_)
            · replace h := ifP hp31 h
              refine J.seq ?_
              refine J.region ?_
              refine J.quiet (Y.assign rfl) rfl ?_
              refine J.quiet (Y.assign rfl) rfl ?_
              refine J.done ?_
              refine J.thenN ?_
              refine J.ret ?_
              refine J.inR ?_
              refine J.thenR ?_
              refine J.thenR ?_
              refine J.inR ?_
              refine J.thenR ?_
              refine J.inR ?_
              refine J.thenR ?_
              refine J.thenR ?_
              refine J.inR ?_
              refine J.thenR ?_
              refine J.stp (Stp.nilAr EI64I64p) ?_
              obtain rfl := Option.some.inj h
              exact J.retG2 (Value.slice none 0 0) rfl rfl (RV.tmp rfl) (RV.tmp rfl) (SubM.cons 0 rfl (SubM.nil)) LentAll.nil
            · replace h := ifN hp31 h
              refine J.skip ?_
              refine J.inN ?_
              refine J.thenN ?_
              refine JR.start [0, 1, 0, 7, 15, 0, 0, 96, 224, 511, 1023, 2047, 4095] 9 mixedOrders (by decide +kernel) ?_
              refine JR.open (by exact rfl) ?_
              refine JR.qt rfl (SubM.nil) (SubL.nil) (Y.fieldB rfl rfl rfl rfl rfl) HistOk.z ?_
              refine JR.qt rfl (SubM.cons 1 rfl (SubM.nil)) (SubL.nil) (Y.loadB 0 rfl rfl rfl rfl rfl) HistOk.z ?_
              refine JR.qt rfl (SubM.nil) (SubL.nil) (Y.move rfl) HistOk.z ?_
              replace h := ck_some h; obtain ⟨hc32, h⟩ := h
              refine JR.qt rfl (SubM.nil) (SubL.cons (List.mem_of_getElem? (i := 1) rfl) (SubL.nil)) (Y.indexN rfl rfl (Lent.fact 0 rfl) rfl rfl hc32) HistOk.z ?_
              refine JR.qt rfl (SubM.nil) (SubL.cons (List.mem_of_getElem? (i := 1) rfl) (SubL.nil)) (Y.loadRow rfl (Lent.fact 0 rfl) rfl rfl hc32) HistOk.z ?_
              refine JR.qt rfl (SubM.nil) (SubL.nil) (Y.move rfl) HistOk.z ?_
              refine JR.qt rfl (SubM.nil) (SubL.nil) (Y.move rfl) HistOk.z ?_
              replace h := ck_some h; obtain ⟨hc33, h⟩ := h
              refine JR.qt rfl (SubM.nil) (SubL.cons (List.mem_of_getElem? (i := 2) rfl) (SubL.nil)) (Y.indexS rfl rfl (Lent.fact 0 rfl) rfl rfl hc33) HistOk.z ?_
              refine JR.qt rfl (SubM.nil) (SubL.cons (List.mem_of_getElem? (i := 2) rfl) (SubL.nil)) (Y.loadS0 rfl (Lent.fact 0 rfl) rfl rfl rfl RI64c0 hc33) HistOk.z ?_
              refine JR.tailD 9 rfl rfl ?_
              replace h := ck_some h; obtain ⟨hc34, h⟩ := h
              refine J.quiet (Y.indexS rfl rfl (Lent.el (Lent.fact 1 rfl) hc32.1 hc32.2) rfl rfl hc34) rfl ?_
              refine J.quiet (Y.fieldEl rfl rfl rfl rfl rfl) rfl ?_
              refine J.quiet (Y.loadS rfl (Lent.el (Lent.fact 1 rfl) hc32.1 hc32.2) rfl rfl rfl RI64I64pc0 hc34) rfl ?_
              refine J.quiet (Y.assign rfl) rfl ?_
              refine J.done ?_
              refine J.thenN ?_
              exact J.againI ((wI .i64 (a27.1 + (1 : Int))), ((at' (at' p0.2 a27.2) (at' p1 a27.2)).1)) (()) h (by repeat (first | exact SubF.nil | refine SubF.cons rfl ?_)) (SubM.refl _) (LentAll.refl _ _)
          · replace h := ifN hp30 h
            refine J.exit ?_
            refine J.thenX ?_
            refine J.thenX ?_
            refine J.inX ?_
            refine J.thenN ?_
            exact J.meetI (a27.1) (()) h (by repeat (first | exact SubF.nil | refine SubF.cons rfl ?_)) (SubM.refl _) (LentAll.refl _ _)
        · clear h
          intro a19 b20 h
          unfold labels_tree_k2 at h
          refine J.region ?_
          refine J.quiet (Y.move rfl) rfl ?_
          refine J.quiet (Y.move rfl) rfl ?_
          refine J.quiet (Y.fieldB rfl rfl rfl rfl rfl) rfl ?_
          refine J.quiet (Y.loadB 1 rfl rfl rfl rfl rfl) rfl ?_
          refine J.quiet (Y.move rfl) rfl ?_
          replace h := ck_some h; obtain ⟨hc21, h⟩ := h
          refine J.quiet (Y.indexS rfl rfl (Lent.fact 0 rfl) rfl rfl hc21) rfl ?_
          refine J.quiet (Y.loadS0 rfl (Lent.fact 0 rfl) rfl rfl rfl RI64c0 hc21) rfl ?_
          refine J.quiet (Y.move rfl) rfl ?_
          refine J.quiet (Y.bld2 (r := Value.agg #[Value.int .i64 (at' p0.1 r2), Value.int .i64 (a19)]) rfl rfl (by intro w; simp [Instr.build, Instr.fill, cells_intV, cells_boolV, cells_sliceV, cells_ptrV, cells_strV, cells_funcV, cells_agg])) rfl ?_
          replace h := ck_some h; obtain ⟨hc22, h⟩ := h
          refine J.quiet (Y.indexS rfl rfl (Lent.ar (Lent.res 0 rfl) FI64I64p) rfl rfl hc22) rfl ?_
          refine J.loud0 (Loud.storeE (us := [Value.int .i64 (at' p0.1 r2), Value.int .i64 (a19)]) (o := 0) 0 (((at' p0.1 r2), a19)) hc22 rfl rfl rfl rfl rfl rfl rfl rfl rfl rfl) fun x23 => ?_
          refine J.done ?_
          refine J.inN ?_
          refine J.thenN ?_
          refine J.region ?_
          refine J.quiet (Y.addW rfl rfl) rfl ?_
          refine J.quiet (Y.move rfl) rfl ?_
          refine J.done ?_
          refine J.thenN ?_
          exact J.againI ((wI .i64 (a14.1 + (1 : Int))), (List.set a14.2 (Int.toNat a14.1) ((at' p0.1 r2), a19))) (()) h (by repeat (first | exact SubF.nil | refine SubF.cons rfl ?_)) (SubM.refl _) (LentAll.refl _ _)
      · replace h := ifN hp17 h
        refine J.exit ?_
        refine J.thenX ?_
        refine J.thenX ?_
        refine J.inX ?_
        refine J.thenN ?_
        exact J.meetI (a14.2) (()) h (by repeat (first | exact SubF.nil | refine SubF.cons rfl ?_)) (SubM.cons 0 rfl (SubM.nil)) (LentAll.refl _ _)
    · clear h
      intro a9 b10 h
      unfold labels_tree_k1 at h
      refine J.seq ?_
      refine J.region ?_
      refine J.quiet (Y.move rfl) rfl ?_
      refine J.quiet (Y.assign rfl) rfl ?_
      refine J.quiet (Y.assign rfl) rfl ?_
      refine J.done ?_
      refine J.thenN ?_
      refine J.ret ?_
      obtain rfl := Option.some.inj h
      exact J.retG2 (u7) rfl rfl (RV.tmp rfl) (RV.tmp rfl) (SubM.refl _) LentAll.nil

end Go.Proofs.Ytmajgimhmfeliaa
end
section
set_option linter.unusedVariables false
set_option linter.unusedSimpArgs false
namespace Go.Proofs.Ytmajgimhmfeliaa
open Go.Sx
set_option linter.unusedVariables false
set_option linter.unusedSimpArgs false
def labels_leader_k1  (a9 : (List (Int × Int))) : Option ((List (Int × Int)) × Bool) :=
  some (a9, true)
def labels_leader_s1 (p0 : List (Int) × (List (List (Int × Int)))) (r2 : Int) (r11 : List (Int)) (a17 : Int × (List (Int × Int))) (ag16 : (Int × (List (Int × Int))) → Option ((List (Int × Int)) × Bool)) : Option ((List (Int × Int)) × Bool) :=
  if a17.1 < (List.length r11 : Int) then (ck (0 ≤ a17.1 ∧ a17.1 < (List.length r11 : Int)) (ck (0 ≤ r2 ∧ r2 < (List.length p0.1 : Int)) (ck (0 ≤ a17.1 ∧ a17.1 < (List.length a17.2 : Int)) (ag16 ((wI .i64 (a17.1 + (1 : Int))), (List.set a17.2 (Int.toNat a17.1) ((at' p0.1 r2), (at' r11 a17.1)))))))) else (labels_leader_k1  (a17.2))
def m_labels_leader (fuel : Nat) (p0 : List (Int) × (List (List (Int × Int)))) (p1 : List (Int)) : Option ((List (Int × Int)) × Bool) :=
  Option.bind (m_labels_only fuel p1 (1 : Int)) fun r2 => (if r2 < (0 : Int) then (some (([] : List (Int × Int)), false)) else (ck (0 ≤ (List.length p1 : Int) ∧ (List.length p1 : Int) ≤ 1099511627) (Option.bind (m_graph_Distances fuel ((p0.1, p0.2)) r2) fun r11 => (iter (labels_leader_s1 p0 r2 r11) fuel ((0 : Int), (List.replicate (Int.toNat (List.length p1 : Int)) ((0 : Int), (0 : Int))))))))

theorem body33 : HasBody Try.prog 33 := Try.call33

set_option maxHeartbeats 4000000 in
set_option maxRecDepth 20000 in
theorem t_labels_leader (fuel : Nat) {p0 : List (Int) × (List (List (Int × Int)))} {p1 : List (Int)} (v0 : Value)  (v1 : Value)  (z2 : List (Value × List (Int × Int)))  (v3 : Value) (r : (List (Int × Int)) × Bool) (h : m_labels_leader fuel p0 p1 = some r) :
    Meets Try.prog 33 #[Value.agg #[v0, v1], v3] [Sl RI64 v0 p0.1, S2 RI64I64p v1 z2 p0.2, Sl RI64 v3 p1] (fun x : Value => Value.tuple #[x, Value.bool (r.2)]) (fun x l => Ar EI64I64p x r.1 :: l) (fun _ l => l) := by
  refine Meets.of (vs := [Value.agg #[v0, v1], v3]) Try.func33 rfl Try.ntmps33 rfl fun c => ?_
  unfold m_labels_leader at h
  refine J.seq ?_
  refine J.region ?_
  refine J.loud (Loud.box (cs := [v0, v1]) rfl rfl) rfl fun b1 => ?_
  refine J.quiet (Y.assign rfl) rfl ?_
  refine J.quiet (Y.assign rfl) rfl ?_
  refine J.done ?_
  refine J.thenN ?_
  refine J.seq ?_
  refine J.region ?_
  refine J.quiet (Y.move rfl) rfl ?_
  replace h := bnd h; obtain ⟨r2, hr3, h⟩ := h
  refine J.loud (Loud.callL body54 (t_labels_only fuel v3 r2 hr3) rfl (LentAll.cons (Lent.fact 2 rfl) (LentAll.nil)) (fun _ _ => rfl)) rfl fun x4 => ?_
  refine J.quiet (Y.assign rfl) rfl ?_
  refine J.done ?_
  refine J.thenN ?_
  refine J.seq ?_
  refine J.seq ?_
  refine J.region ?_
  refine J.quiet (Y.move rfl) rfl ?_
  refine J.quiet (Y.lss rfl rfl) rfl ?_
  refine J.done ?_
  refine J.thenN ?_
  refine J.condD (by exact rfl) (fun hp5 => ?_) (fun hp5 => ?_)
  · replace h := ifP hp5 h
    refine J.seq ?_
    refine J.region ?_
    refine J.quiet (Y.assign rfl) rfl ?_
    refine J.quiet (Y.assign rfl) rfl ?_
    refine J.done ?_
    refine J.thenN ?_
    refine J.ret ?_
    refine J.thenR ?_
    refine J.stp (Stp.nilAr EI64I64p) ?_
    obtain rfl := Option.some.inj h
    exact J.retG2 (Value.slice none 0 0) rfl rfl (RV.tmp rfl) (RV.tmp rfl) (SubM.cons 0 rfl (SubM.nil)) LentAll.nil
  · replace h := ifN hp5 h
    refine J.skip ?_
    refine J.thenN ?_
    refine J.seq ?_
    refine J.region ?_
    refine J.quiet (Y.move rfl) rfl ?_
    refine J.quiet (Y.lenS rfl (Lent.fact 2 rfl) rfl) rfl ?_
    replace h := ck_some h; obtain ⟨hc6, h⟩ := h
    refine J.loud (Loud.makeS (e := EI64I64p) (((0 : Int), (0 : Int))) rfl rfl rfl rfl hc6 rfl rfl rfl) rfl fun u7 => ?_
    refine J.quiet (Y.assign rfl) rfl ?_
    refine J.done ?_
    refine J.thenN ?_
    refine J.seq ?_
    refine J.midI (A := (List (Int × Int))) (B := Unit) (fun a9 => labels_leader_k1  a9 = some r) (fun a9 b10 => [(7, u7)]) (fun a9 b10 => [Ar EI64I64p u7 a9]) (fun a9 b10 => [Sl RI64 v0 p0.1, S2 RI64I64p v1 z2 p0.2, Sl RI64 v3 p1]) ?_ ?_
    · refine J.seq ?_
      refine J.region ?_
      refine J.quiet (Y.loadBAll 1 rfl rfl rfl rfl) rfl ?_
      refine J.quiet (Y.move rfl) rfl ?_
      replace h := bnd h; obtain ⟨r11, hr12, h⟩ := h
      refine J.loud (Loud.callL body55 (t_graph_Distances fuel v0 v1 z2 r11 hr12) rfl (LentAll.cons (Lent.fact 0 rfl) (LentAll.cons (Lent.fact 1 rfl) (LentAll.nil))) (fun _ _ => rfl)) rfl fun x13 => ?_
      refine J.quiet (Y.lenS rfl (Lent.ar (Lent.res 0 rfl) FI64) rfl) rfl ?_
      refine J.quiet (Y.move rfl) rfl ?_
      refine J.done ?_
      refine J.thenN ?_
      refine J.block ?_
      refine J.loopI (A := Int × (List (Int × Int))) (B := Unit) (labels_leader_s1 p0 r2 r11) (fun a17 b18 => [(2, Value.pointer (some ⟨b1, 0, none⟩)), (6, Value.int .i64 (r2)), (7, u7), (19, x13), (20, Value.int .i64 (List.length r11 : Int)), (21, Value.int .i64 (a17.1))]) (fun a17 b18 => [Ar EI64 x13 r11, Ar EI64I64p u7 a17.2, Blk b1 [v0, v1] 29]) (fun a17 b18 => [Sl RI64 v0 p0.1, S2 RI64I64p v1 z2 p0.2, Sl RI64 v3 p1]) ((0 : Int), (List.replicate (Int.toNat (List.length p1 : Int)) ((0 : Int), (0 : Int)))) (()) h (by repeat (first | exact SubF.nil | refine SubF.cons rfl ?_)) (SubM.refl _) (LentAll.refl _ _) ?_
      clear h
      intro k19 a17 b18 h
      unfold labels_leader_s1 at h
      refine J.seq ?_
      refine J.region ?_
      refine J.quiet (Y.lss rfl rfl) rfl ?_
      refine J.done ?_
      refine J.thenN ?_
      refine J.seq ?_
      refine J.condD (by exact rfl) (fun hp20 => ?_) (fun hp20 => ?_)
      · replace h := ifP hp20 h
        refine J.skip ?_
        refine J.thenN ?_
        refine J.seq ?_
        refine J.block ?_
        refine J.seq ?_
        refine J.region ?_
        refine J.quiet (Y.move rfl) rfl ?_
        replace h := ck_some h; obtain ⟨hc21, h⟩ := h
        refine J.quiet (Y.indexS rfl rfl (Lent.ar (Lent.res 0 rfl) FI64) rfl rfl hc21) rfl ?_
        refine J.quiet (Y.loadS0 rfl (Lent.ar (Lent.res 0 rfl) FI64) rfl rfl rfl RI64c0 hc21) rfl ?_
        refine J.quiet (Y.assign rfl) rfl ?_
        refine J.quiet (Y.assign rfl) rfl ?_
        refine J.done ?_
        refine J.thenN ?_
        refine J.region ?_
        refine J.quiet (Y.move rfl) rfl ?_
        refine J.quiet (Y.move rfl) rfl ?_
        refine J.quiet (Y.fieldB rfl rfl rfl rfl rfl) rfl ?_
        refine J.quiet (Y.loadB 2 rfl rfl rfl rfl rfl) rfl ?_
        refine J.quiet (Y.move rfl) rfl ?_
        replace h := ck_some h; obtain ⟨hc22, h⟩ := h
        refine J.quiet (Y.indexS rfl rfl (Lent.fact 0 rfl) rfl rfl hc22) rfl ?_
        refine J.quiet (Y.loadS0 rfl (Lent.fact 0 rfl) rfl rfl rfl RI64c0 hc22) rfl ?_
        refine J.quiet (Y.move rfl) rfl ?_
        refine J.quiet (Y.bld2 (r := Value.agg #[Value.int .i64 (at' p0.1 r2), Value.int .i64 (at' r11 a17.1)]) rfl rfl (by intro w; simp [Instr.build, Instr.fill, cells_intV, cells_boolV, cells_sliceV, cells_ptrV, cells_strV, cells_funcV, cells_agg])) rfl ?_
        replace h := ck_some h; obtain ⟨hc23, h⟩ := h
        refine J.quiet (Y.indexS rfl rfl (Lent.ar (Lent.res 1 rfl) FI64I64p) rfl rfl hc23) rfl ?_
        refine J.loud0 (Loud.storeE (us := [Value.int .i64 (at' p0.1 r2), Value.int .i64 (at' r11 a17.1)]) (o := 0) 1 (((at' p0.1 r2), (at' r11 a17.1))) hc23 rfl rfl rfl rfl rfl rfl rfl rfl rfl rfl) fun x24 => ?_
        refine J.done ?_
        refine J.inN ?_
        refine J.thenN ?_
        refine J.region ?_
        refine J.quiet (Y.addW rfl rfl) rfl ?_
        refine J.quiet (Y.move rfl) rfl ?_
        refine J.done ?_
        refine J.thenN ?_
        exact J.againI ((wI .i64 (a17.1 + (1 : Int))), (List.set a17.2 (Int.toNat a17.1) ((at' p0.1 r2), (at' r11 a17.1)))) (()) h (by repeat (first | exact SubF.nil | refine SubF.cons rfl ?_)) (SubM.refl _) (LentAll.refl _ _)
      · replace h := ifN hp20 h
        refine J.exit ?_
        refine J.thenX ?_
        refine J.thenX ?_
        refine J.inX ?_
        refine J.thenN ?_
        exact J.meetI (a17.2) (()) h (by repeat (first | exact SubF.nil | refine SubF.cons rfl ?_)) (SubM.cons 1 rfl (SubM.nil)) (LentAll.refl _ _)
    · clear h
      intro a9 b10 h
      unfold labels_leader_k1 at h
      refine J.seq ?_
      refine J.region ?_
      refine J.quiet (Y.move rfl) rfl ?_
      refine J.quiet (Y.assign rfl) rfl ?_
      refine J.quiet (Y.assign rfl) rfl ?_
      refine J.done ?_
      refine J.thenN ?_
      refine J.ret ?_
      obtain rfl := Option.some.inj h
      exact J.retG2 (u7) rfl rfl (RV.tmp rfl) (RV.tmp rfl) (SubM.refl _) LentAll.nil

end Go.Proofs.Ytmajgimhmfeliaa
end
section
set_option linter.unusedVariables false
set_option linter.unusedSimpArgs false
namespace Go.Proofs.Ytmajgimhmfeliaa
open Go.Sx
set_option linter.unusedVariables false
set_option linter.unusedSimpArgs false
def labels_bipartite_k2 (a10 : (List (Int × Int))) (a13 : Unit) : Option ((List (Int × Int)) × Bool) :=
  some (a10, true)
def labels_bipartite_k4 (a25 : Int) (ag24 : (Int) → Option ((List (Int × Int)) × Bool)) (a29 : Unit) : Option ((List (Int × Int)) × Bool) :=
  ag24 (wI .i64 (a25 + (1 : Int)))
def labels_bipartite_s2 (p0 : List (Int) × (List (List (Int × Int)))) (a10 : (List (Int × Int))) (a25 : Int) (ag24 : (Int) → Option ((List (Int × Int)) × Bool)) (a34 : Int) (ag33 : (Int) → Option ((List (Int × Int)) × Bool)) : Option ((List (Int × Int)) × Bool) :=
  if a34 < (List.length (at' p0.2 a25) : Int) then (ck (0 ≤ a34 ∧ a34 < (List.length (at' p0.2 a25) : Int)) (ck (0 ≤ a25 ∧ a25 < (List.length a10 : Int)) (ck (0 ≤ ((at' (at' p0.2 a25) a34).1) ∧ ((at' (at' p0.2 a25) a34).1) < (List.length a10 : Int)) (if (((at' a10 a25).1), ((at' a10 a25).2)) = (((at' a10 ((at' (at' p0.2 a25) a34).1)).1), ((at' a10 ((at' (at' p0.2 a25) a34).1)).2)) then (some (([] : List (Int × Int)), false)) else (ag33 (wI .i64 (a34 + (1 : Int)))))))) else (labels_bipartite_k4 a25 ag24 (()))
def labels_bipartite_s1 (fuel : Nat) (p0 : List (Int) × (List (List (Int × Int)))) (a10 : (List (Int × Int))) (a25 : Int) (ag24 : (Int) → Option ((List (Int × Int)) × Bool)) : Option ((List (Int × Int)) × Bool) :=
  if a25 < (List.length p0.2 : Int) then (ck (0 ≤ a25 ∧ a25 < (List.length p0.2 : Int)) (iter (labels_bipartite_s2 p0 a10 a25 ag24) fuel (0 : Int))) else (labels_bipartite_k2 a10 (()))
def labels_bipartite_k3 (fuel : Nat) (p0 : List (Int) × (List (List (Int × Int)))) (a10 : (List (Int × Int))) (a17 : Unit) : Option ((List (Int × Int)) × Bool) :=
  iter (labels_bipartite_s1 fuel p0 a10) fuel (0 : Int)
def labels_bipartite_k1 (fuel : Nat) (p0 : List (Int) × (List (List (Int × Int)))) (a10 : (List (Int × Int))) : Option ((List (Int × Int)) × Bool) :=
  labels_bipartite_k3 fuel p0 a10 (())
def labels_bipartite_s3 (fuel : Nat) (p0 : List (Int) × (List (List (Int × Int)))) (r45 : List (Int)) (a51 : Int × (List (Int × Int))) (ag50 : (Int × (List (Int × Int))) → Option ((List (Int × Int)) × Bool)) : Option ((List (Int × Int)) × Bool) :=
  if a51.1 < (List.length r45 : Int) then (ck (0 ≤ a51.1 ∧ a51.1 < (List.length r45 : Int)) (ck ((2 : Int) ≠ 0) (ck (0 ≤ a51.1 ∧ a51.1 < (List.length a51.2 : Int)) (ag50 ((wI .i64 (a51.1 + (1 : Int))), (List.set a51.2 (Int.toNat a51.1) ((Int.tmod (at' r45 a51.1) (2 : Int)), ((at' a51.2 a51.1).2)))))))) else (labels_bipartite_k1 fuel p0 (a51.2))
def m_labels_bipartite (fuel : Nat) (p0 : List (Int) × (List (List (Int × Int)))) (p1 : List (Int)) : Option ((List (Int × Int)) × Bool) :=
  ck (0 ≤ (List.length p1 : Int) ∧ (List.length p1 : Int) ≤ 1099511627) (Option.bind (m_graph_Distances fuel ((p0.1, p0.2)) (0 : Int)) fun r45 => (iter (labels_bipartite_s3 fuel p0 r45) fuel ((0 : Int), (List.replicate (Int.toNat (List.length p1 : Int)) ((0 : Int), (0 : Int))))))

theorem body34 : HasBody Try.prog 34 := Try.call34

set_option maxHeartbeats 4000000 in
set_option maxRecDepth 20000 in
theorem t_labels_bipartite (fuel : Nat) {p0 : List (Int) × (List (List (Int × Int)))} {p1 : List (Int)} (v0 : Value)  (v1 : Value)  (z2 : List (Value × List (Int × Int)))  (v3 : Value) (r : (List (Int × Int)) × Bool) (h : m_labels_bipartite fuel p0 p1 = some r) :
    Meets Try.prog 34 #[Value.agg #[v0, v1], v3] [Sl RI64 v0 p0.1, S2 RI64I64p v1 z2 p0.2, Sl RI64 v3 p1] (fun x : Value => Value.tuple #[x, Value.bool (r.2)]) (fun x l => Ar EI64I64p x r.1 :: l) (fun _ l => l) := by
  refine Meets.of (vs := [Value.agg #[v0, v1], v3]) Try.func34 rfl Try.ntmps34 rfl fun c => ?_
  unfold m_labels_bipartite at h
  refine J.stp Stp.dfs0 ?_
  refine J.seq ?_
  refine J.region ?_
  refine J.loud (Loud.box (cs := [v0, v1]) rfl rfl) rfl fun b2 => ?_
  refine J.loud (Loud.alloc (cs := [Value.slice none 0 0]) rfl rfl) rfl fun b3 => ?_
  refine J.loud (Loud.alloc (cs := [Value.bool (false)]) rfl rfl) rfl fun b4 => ?_
  refine J.done ?_
  refine J.thenN ?_
  refine J.seq ?_
  refine J.region ?_
  refine J.quiet (Y.move rfl) rfl ?_
  refine J.quiet (Y.lenS rfl (Lent.fact 2 rfl) rfl) rfl ?_
  replace h := ck_some h; obtain ⟨hc5, h⟩ := h
  refine J.loud (Loud.makeS (e := EI64I64p) (((0 : Int), (0 : Int))) rfl rfl rfl rfl hc5 rfl rfl rfl) rfl fun u6 => ?_
  refine J.loud (Loud.alloc (cs := [Value.slice none 0 0]) rfl rfl) rfl fun b7 => ?_
  refine J.know (Know.one ((Lent.ar (Lent.res 1 rfl) FI64I64p))) fun ho8 => ?_
  refine J.store1 0 rfl rfl ho8 rfl rfl rfl ?_
  refine J.done ?_
  refine J.thenN ?_
  refine J.seq ?_
  refine J.midN (A := (List (Int × Int))) (B := Unit) (fun a10 b11 => ⟨44, marks ([] : List Nat)⟩) (fun a10 => labels_bipartite_k1 fuel p0 a10 = some r) (fun a10 b11 => [(2, Value.pointer (some ⟨b2, 0, none⟩)), (4, Value.pointer (some ⟨b3, 0, none⟩)), (5, Value.pointer (some ⟨b4, 0, none⟩)), (6, Value.pointer (some ⟨b7, 0, none⟩))]) (fun a10 b11 => [Blk b7 [u6] 31, Ar EI64I64p u6 a10, Blk b4 [Value.bool (false)] 4, Blk b3 [Value.slice none 0 0] 31, Blk b2 [v0, v1] 29, Dfs ([] : List Nat)]) (fun a10 b11 => [Sl RI64 v0 p0.1, S2 RI64I64p v1 z2 p0.2, Sl RI64 v3 p1]) ?_ ?_
  · refine J.seq ?_
    refine J.region ?_
    refine J.quiet (Y.loadBAll 4 rfl rfl rfl rfl) rfl ?_
    replace h := bnd h; obtain ⟨r45, hr46, h⟩ := h
    refine J.loud (Loud.callL body55 (t_graph_Distances fuel v0 v1 z2 r45 hr46) rfl (LentAll.cons (Lent.fact 0 rfl) (LentAll.cons (Lent.fact 1 rfl) (LentAll.nil))) (fun _ _ => rfl)) rfl fun x47 => ?_
    refine J.quiet (Y.lenS rfl (Lent.ar (Lent.res 0 rfl) FI64) rfl) rfl ?_
    refine J.quiet (Y.move rfl) rfl ?_
    refine J.done ?_
    refine J.thenN ?_
    refine J.block ?_
    refine J.loopN (A := Int × (List (Int × Int))) (B := Unit) (fun a51 b52 => ⟨44, marks ([] : List Nat)⟩) (labels_bipartite_s3 fuel p0 r45) (fun a51 b52 => [(2, Value.pointer (some ⟨b2, 0, none⟩)), (4, Value.pointer (some ⟨b3, 0, none⟩)), (5, Value.pointer (some ⟨b4, 0, none⟩)), (6, Value.pointer (some ⟨b7, 0, none⟩)), (15, x47), (16, Value.int .i64 (List.length r45 : Int)), (17, Value.int .i64 (a51.1))]) (fun a51 b52 => [Ar EI64 x47 r45, Blk b7 [u6] 31, Ar EI64I64p u6 a51.2, Blk b4 [Value.bool (false)] 4, Blk b3 [Value.slice none 0 0] 31, Blk b2 [v0, v1] 29, Dfs ([] : List Nat)]) (fun a51 b52 => [Sl RI64 v0 p0.1, S2 RI64I64p v1 z2 p0.2, Sl RI64 v3 p1]) ((0 : Int), (List.replicate (Int.toNat (List.length p1 : Int)) ((0 : Int), (0 : Int)))) (()) rfl h (by repeat (first | exact SubF.nil | refine SubF.cons rfl ?_)) (SubM.refl _) (LentAll.refl _ _) ?_
    clear h
    intro k53 a51 b52 h
    unfold labels_bipartite_s3 at h
    refine J.seq ?_
    refine J.region ?_
    refine J.quiet (Y.lss rfl rfl) rfl ?_
    refine J.done ?_
    refine J.thenN ?_
    refine J.seq ?_
    refine J.condD (by exact rfl) (fun hp54 => ?_) (fun hp54 => ?_)
    · replace h := ifP hp54 h
      refine J.skip ?_
      refine J.thenN ?_
      refine J.seq ?_
      refine J.block ?_
      refine J.seq ?_
      refine J.region ?_
      refine J.quiet (Y.move rfl) rfl ?_
      replace h := ck_some h; obtain ⟨hc55, h⟩ := h
      refine J.quiet (Y.indexS rfl rfl (Lent.ar (Lent.res 0 rfl) FI64) rfl rfl hc55) rfl ?_
      refine J.quiet (Y.loadS0 rfl (Lent.ar (Lent.res 0 rfl) FI64) rfl rfl rfl RI64c0 hc55) rfl ?_
      refine J.quiet (Y.assign rfl) rfl ?_
      refine J.quiet (Y.assign rfl) rfl ?_
      refine J.done ?_
      refine J.thenN ?_
      refine J.region ?_
      refine J.quiet (Y.loadB 1 rfl rfl rfl rfl rfl) rfl ?_
      refine J.quiet (Y.move rfl) rfl ?_
      refine J.quiet (Y.move rfl) rfl ?_
      replace h := ck_some h; obtain ⟨hc56, h⟩ := h
      refine J.quiet (Y.rem rfl rfl hc56) rfl ?_
      replace h := ck_some h; obtain ⟨hc57, h⟩ := h
      refine J.quiet (Y.indexS rfl rfl (Lent.ar (Lent.res 2 rfl) FI64I64p) rfl rfl hc57) rfl ?_
      refine J.quiet (Y.indexEl (i := 0) rfl rfl rfl rfl rfl (by decide)) rfl ?_
      refine J.loud0 (Loud.storeE (us := [Value.int .i64 (Int.tmod (at' r45 a51.1) (2 : Int))]) (o := 0) 2 (((Int.tmod (at' r45 a51.1) (2 : Int)), ((at' a51.2 a51.1).2))) hc57 rfl rfl rfl rfl rfl rfl rfl rfl rfl rfl) fun x58 => ?_
      refine J.done ?_
      refine J.inN ?_
      refine J.thenN ?_
      refine J.region ?_
      refine J.quiet (Y.addW rfl rfl) rfl ?_
      refine J.quiet (Y.move rfl) rfl ?_
      refine J.done ?_
      refine J.thenN ?_
      exact J.againN ((wI .i64 (a51.1 + (1 : Int))), (List.set a51.2 (Int.toNat a51.1) ((Int.tmod (at' r45 a51.1) (2 : Int)), ((at' a51.2 a51.1).2)))) (()) rfl h (by repeat (first | exact SubF.nil | refine SubF.cons rfl ?_)) (SubM.refl _) (LentAll.refl _ _)
    · replace h := ifN hp54 h
      refine J.exit ?_
      refine J.thenX ?_
      refine J.thenX ?_
      refine J.inX ?_
      refine J.thenN ?_
      exact J.meetN (a51.2) (()) rfl h (by repeat (first | exact SubF.nil | refine SubF.cons rfl ?_)) (SubM.cons 1 rfl (SubM.cons 1 rfl (SubM.cons 1 rfl (SubM.cons 1 rfl (SubM.cons 1 rfl (SubM.cons 1 rfl (SubM.nil))))))) (LentAll.refl _ _)
  · clear h
    intro a10 b11 h
    unfold labels_bipartite_k1 at h
    refine J.seq ?_
    refine J.midN (A := Unit) (B := List Nat) (fun a13 b14 => ⟨44, marks b14⟩) (fun a13 => labels_bipartite_k2 a10 a13 = some r) (fun a13 b14 => [(4, Value.pointer (some ⟨b3, 0, none⟩)), (5, Value.pointer (some ⟨b4, 0, none⟩)), (6, Value.pointer (some ⟨b7, 0, none⟩))]) (fun a13 b14 => [Blk b7 [u6] 31, Ar EI64I64p u6 a10, Blk b4 [Value.bool (false)] 4, Blk b3 [Value.slice none 0 0] 31, Dfs b14]) (fun a13 b14 => [Sl RI64 v0 p0.1, S2 RI64I64p v1 z2 p0.2, Sl RI64 v3 p1]) ?_ ?_
    · refine J.seq ?_
      refine J.region ?_
      refine J.quiet (Y.loadBAll 4 rfl rfl rfl rfl) rfl ?_
      refine J.inlC (A := Unit) (B := Nat) (vs := [Value.agg #[v0, v1]]) (fun a17 => labels_bipartite_k3 fuel p0 a10 a17 = some r) (fun a17 b18 => Value.func (.func 76) #[] #[Value.pointer (some ⟨b18, 0, none⟩)]) (fun a17 b18 => [Blk b18 [v0, v1] 29, Blk b7 [u6] 31, Ar EI64I64p u6 a10, Blk b4 [Value.bool (false)] 4, Blk b3 [Value.slice none 0 0] 31, Dfs ([] : List Nat)]) (fun a17 b18 => [Sl RI64 v0 p0.1, S2 RI64I64p v1 z2 p0.2, Sl RI64 v3 p1]) (Enter.fn (show HasBody Try.prog 56 from Try.call56) rfl) Try.func56 rfl Try.ntmps56 rfl rfl ?_ ?_
      · refine J.seq ?_
        refine J.region ?_
        refine J.loud (Loud.box (cs := [v0, v1]) rfl rfl) rfl fun b44 => ?_
        refine J.quiet (Y.assign rfl) rfl ?_
        refine J.done ?_
        refine J.thenN ?_
        refine J.seq ?_
        refine J.region ?_
        refine J.quiet (Y.makeFunc (cs := [.tmp 1]) (vs := [Value.pointer (some ⟨b44, 0, none⟩)]) rfl) rfl ?_
        refine J.quiet (Y.assign rfl) rfl ?_
        refine J.done ?_
        refine J.thenN ?_
        refine J.ret ?_
        exact J.retM (()) (b44) h (.inl rfl) (Res.r1 rfl (RV.tmp rfl)) rfl (SubM.cons 0 rfl (SubM.cons 0 rfl (SubM.cons 0 rfl (SubM.cons 0 rfl (SubM.cons 0 rfl (SubM.cons 1 rfl (SubM.nil))))))) (LentAll.refl _ _)
      · clear h
        intro a17 b18 h
        unfold labels_bipartite_k3 at h
        refine J.done ?_
        refine J.thenN ?_
        refine J.block ?_
        refine J.rangeFuncD (i := 5) (cs := [Value.pointer (some ⟨b18, 0, none⟩)]) ([] : List Nat) rfl (show HasBody Try.prog 76 from Try.call76) rfl Try.func76 rfl Try.ntmps76 rfl fun l19 D20 R21 hR22 => ?_
        refine J.seq ?_
        refine J.region ?_
        refine J.quiet (Y.fieldB rfl rfl rfl rfl rfl) rfl ?_
        refine J.quiet (Y.loadB 1 rfl rfl rfl rfl rfl) rfl ?_
        refine J.quiet (Y.lenN rfl (Lent.fact 1 rfl) rfl) rfl ?_
        refine J.quiet (Y.move rfl) rfl ?_
        refine J.done ?_
        refine J.thenN ?_
        refine J.block ?_
        refine J.loopI (A := Int) (B := Unit) (labels_bipartite_s1 fuel p0 a10) (fun a25 b26 => [(0, yieldV l19), (8, v1), (9, Value.int .i64 (List.length p0.2 : Int)), (10, Value.int .i64 (a25))]) (fun a25 b26 => [Lp l19 R21 LoopState.ready none, Blk b18 [v0, v1] 29, Blk b7 [u6] 31, Ar EI64I64p u6 a10, Blk b4 [Value.bool (false)] 4, Blk b3 [Value.slice none 0 0] 31, Dfs (List.cons D20 ([] : List Nat))]) (fun a25 b26 => [Sl RI64 v0 p0.1, S2 RI64I64p v1 z2 p0.2, Sl RI64 v3 p1]) (0 : Int) (()) h (by repeat (first | exact SubF.nil | refine SubF.cons rfl ?_)) (SubM.refl _) (LentAll.refl _ _) ?_
        clear h
        intro k27 a25 b26 h
        unfold labels_bipartite_s1 at h
        refine J.seq ?_
        refine J.region ?_
        refine J.quiet (Y.lss rfl rfl) rfl ?_
        refine J.done ?_
        refine J.thenN ?_
        refine J.seq ?_
        refine J.condD (by exact rfl) (fun hp28 => ?_) (fun hp28 => ?_)
        · replace h := ifP hp28 h
          refine J.skip ?_
          refine J.thenN ?_
          refine J.seq ?_
          refine J.midI (A := Unit) (B := Unit) (fun a29 => labels_bipartite_k4 a25 (iter (labels_bipartite_s1 fuel p0 a10) k27) a29 = some r) (fun a29 b30 => [(0, yieldV l19), (8, v1), (9, Value.int .i64 (List.length p0.2 : Int)), (10, Value.int .i64 (a25))]) (fun a29 b30 => [Lp l19 R21 LoopState.ready none, Blk b18 [v0, v1] 29, Blk b7 [u6] 31, Ar EI64I64p u6 a10, Blk b4 [Value.bool (false)] 4, Blk b3 [Value.slice none 0 0] 31, Dfs (List.cons D20 ([] : List Nat))]) (fun a29 b30 => [Sl RI64 v0 p0.1, S2 RI64I64p v1 z2 p0.2, Sl RI64 v3 p1]) ?_ ?_
          · refine J.block ?_
            refine J.seq ?_
            refine J.region ?_
            refine J.quiet (Y.move rfl) rfl ?_
            replace h := ck_some h; obtain ⟨hc31, h⟩ := h
            refine J.quiet (Y.indexN rfl rfl (Lent.fact 1 rfl) rfl rfl hc31) rfl ?_
            refine J.quiet (Y.loadRow rfl (Lent.fact 1 rfl) rfl rfl hc31) rfl ?_
            refine J.quiet (Y.assign rfl) rfl ?_
            refine J.quiet (Y.assign rfl) rfl ?_
            refine J.done ?_
            refine J.thenN ?_
            refine J.seq ?_
            refine J.region ?_
            refine J.quiet (Y.move rfl) rfl ?_
            refine J.quiet (Y.lenS rfl (Lent.el (Lent.fact 1 rfl) hc31.1 hc31.2) rfl) rfl ?_
            refine J.quiet (Y.move rfl) rfl ?_
            refine J.done ?_
            refine J.thenN ?_
            refine J.block ?_
            refine J.loopI (A := Int) (B := Unit) (labels_bipartite_s2 p0 a10 a25 (iter (labels_bipartite_s1 fuel p0 a10) k27)) (fun a34 b35 => [(0, yieldV l19), (3, Value.int .i64 (a25)), (8, v1), (9, Value.int .i64 (List.length p0.2 : Int)), (10, Value.int .i64 (a25)), (15, (at' z2 a25).1), (16, Value.int .i64 (List.length (at' p0.2 a25) : Int)), (17, Value.int .i64 (a34))]) (fun a34 b35 => [Lp l19 R21 LoopState.ready none, Blk b18 [v0, v1] 29, Blk b7 [u6] 31, Ar EI64I64p u6 a10, Blk b4 [Value.bool (false)] 4, Blk b3 [Value.slice none 0 0] 31, Dfs (List.cons D20 ([] : List Nat))]) (fun a34 b35 => [Sl RI64 v0 p0.1, S2 RI64I64p v1 z2 p0.2, Sl RI64 v3 p1]) (0 : Int) (()) h (by repeat (first | exact SubF.nil | refine SubF.cons rfl ?_)) (SubM.refl _) (LentAll.refl _ _) ?_
            clear h
            intro k36 a34 b35 h
            unfold labels_bipartite_s2 at h
            refine J.seq ?_
            refine J.region ?_
            refine J.quiet (Y.lss rfl rfl) rfl ?_
            refine J.done ?_
            refine J.thenN ?_
            refine J.seq ?_
            refine J.condD (by exact rfl) (fun hp37 => ?_) (fun hp37 => ?_)
            · replace h := ifP hp37 h
              refine J.skip ?_
              refine J.thenN ?_
              refine J.seq ?_
              refine J.block ?_
              refine J.seq ?_
              refine J.region ?_
              replace h := ck_some h; obtain ⟨hc38, h⟩ := h
              refine J.quiet (Y.indexS rfl rfl (Lent.el (Lent.fact 1 rfl) hc31.1 hc31.2) rfl rfl hc38) rfl ?_
              refine J.quiet (Y.loadAggS (cs := [Value.int .i64 ((at' (at' p0.2 a25) a34).1), Value.int .i64 ((at' (at' p0.2 a25) a34).2)]) rfl (Lent.el (Lent.fact 1 rfl) hc31.1 hc31.2) FI64I64p rfl rfl rfl rfl hc38) rfl ?_
              refine J.loud (Loud.alloc (cs := [Value.int .i64 (0 : Int), Value.int .i64 (0 : Int)]) rfl rfl) rfl fun b39 => ?_
              refine J.storeAll 0 (vs := [Value.int .i64 ((at' (at' p0.2 a25) a34).1), Value.int .i64 ((at' (at' p0.2 a25) a34).2)]) rfl rfl rfl rfl rfl rfl ?_
              refine J.done ?_
              refine J.thenN ?_
              refine J.seq ?_
              refine J.region ?_
              refine J.quiet (Y.move rfl) rfl ?_
              refine J.quiet (Y.move rfl) rfl ?_
              refine J.quiet (Y.loadBAll 0 rfl rfl rfl rfl) rfl ?_
              refine J.yieldR (us := [Value.int .i64 (a25), Value.agg #[Value.int .i64 ((at' (at' p0.2 a25) a34).1), Value.int .i64 ((at' (at' p0.2 a25) a34).2)]]) (i := 1) hR22 rfl rfl rfl rfl rfl rfl ?_
              refine J.seq ?_
              refine J.region ?_
              refine J.quiet (Y.assign rfl) rfl ?_
              refine J.done ?_
              refine J.thenN ?_
              refine J.region ?_
              refine J.loud (Loud.alloc (cs := [Value.int .i64 (0 : Int), Value.int .i64 (0 : Int)]) rfl rfl) rfl fun b40 => ?_
              refine J.storeAll 0 (vs := [Value.int .i64 ((at' (at' p0.2 a25) a34).1), Value.int .i64 ((at' (at' p0.2 a25) a34).2)]) rfl rfl rfl rfl rfl rfl ?_
              refine J.done ?_
              refine J.thenN ?_
              refine J.begin (i := 2) rfl ?_
              refine J.block ?_
              refine J.seq ?_
              refine JR.start [0, 0, 3, 7, 0, 0, 32, 112, 240, 511] 9 mixedOrders (by decide +kernel) ?_
              refine JR.open (by exact rfl) ?_
              refine JR.qt rfl (SubM.cons 4 rfl (SubM.nil)) (SubL.nil) (Y.loadB 0 rfl rfl rfl rfl rfl) HistOk.z ?_
              refine JR.qt rfl (SubM.nil) (SubL.nil) (Y.move rfl) HistOk.z ?_
              replace h := ck_some h; obtain ⟨hc41, h⟩ := h
              refine JR.qt rfl (SubM.cons 5 rfl (SubM.nil)) (SubL.nil) (Y.indexS rfl rfl (Lent.ar (Lent.res 0 rfl) FI64I64p) rfl rfl hc41) HistOk.z ?_
              refine JR.qt rfl (SubM.cons 5 rfl (SubM.nil)) (SubL.nil) (Y.loadAggS (cs := [Value.int .i64 ((at' a10 a25).1), Value.int .i64 ((at' a10 a25).2)]) rfl (Lent.ar (Lent.res 0 rfl) FI64I64p) FI64I64p rfl rfl rfl rfl hc41) HistOk.z ?_
              refine JR.qt rfl (SubM.cons 4 rfl (SubM.nil)) (SubL.nil) (Y.loadB 0 rfl rfl rfl rfl rfl) HistOk.z ?_
              refine JR.qt rfl (SubM.nil) (SubL.nil) (Y.fieldB rfl rfl rfl rfl rfl) HistOk.z ?_
              refine JR.qt rfl (SubM.cons 0 rfl (SubM.nil)) (SubL.nil) (Y.loadB 0 rfl rfl rfl rfl rfl) HistOk.z ?_
              replace h := ck_some h; obtain ⟨hc42, h⟩ := h
              refine JR.qt rfl (SubM.cons 5 rfl (SubM.nil)) (SubL.nil) (Y.indexS rfl rfl (Lent.ar (Lent.res 0 rfl) FI64I64p) rfl rfl hc42) HistOk.z ?_
              refine JR.qt rfl (SubM.cons 5 rfl (SubM.nil)) (SubL.nil) (Y.loadAggS (cs := [Value.int .i64 ((at' a10 ((at' (at' p0.2 a25) a34).1)).1), Value.int .i64 ((at' a10 ((at' (at' p0.2 a25) a34).1)).2)]) rfl (Lent.ar (Lent.res 0 rfl) FI64I64p) FI64I64p rfl rfl rfl rfl hc42) HistOk.z ?_
              refine JR.tailD 9 rfl rfl ?_
              refine J.quiet (Y.eqA rfl rfl (eq_T42 (((at' a10 a25).1), ((at' a10 a25).2)) (((at' a10 ((at' (at' p0.2 a25) a34).1)).1), ((at' a10 ((at' (at' p0.2 a25) a34).1)).2)) _ _)) rfl ?_
              refine J.done ?_
              refine J.thenN ?_
              refine J.condD (by exact rfl) (fun hp43 => ?_) (fun hp43 => ?_)
              · replace h := ifP hp43 h
                refine J.seq ?_
                refine J.region ?_
                refine J.store1 7 rfl rfl rfl rfl rfl rfl ?_
                refine J.store1 6 rfl rfl rfl rfl rfl rfl ?_
                refine J.done ?_
                refine J.thenN ?_
                refine J.ret ?_
                refine J.inR ?_
                refine J.roundR (i := 2) rfl ?_
                refine J.quiet (Y.not rfl) rfl ?_
                refine J.done ?_
                refine J.thenN ?_
                refine J.condT rfl ?_
                refine J.ret ?_
                refine J.inR ?_
                refine J.thenR ?_
                refine J.thenR ?_
                refine J.inR ?_
                refine J.inR ?_
                refine J.thenR ?_
                refine J.thenR ?_
                refine J.inR ?_
                refine J.retFR (i := 2) (.inl rfl) rfl (Res.r0 rfl) ?_
                refine J.inR ?_
                refine J.thenR ?_
                refine J.unmarkAll (i := 8) (Ds := List.cons D20 ([] : List Nat)) (.inl rfl) rfl ?_
                refine J.stp (Stp.nilAr EI64I64p) ?_
                obtain rfl := Option.some.inj h
                exact J.retG2 (Value.slice none 0 0) rfl rfl (RV.cell1 8 rfl rfl rfl rfl) (RV.cell1 7 rfl rfl rfl rfl) (SubM.cons 0 rfl (SubM.nil)) LentAll.nil
              · replace h := ifN hp43 h
                refine J.skip ?_
                refine J.inN ?_
                refine J.roundN (i := 2) rfl ?_
                refine J.quiet (Y.not rfl) rfl ?_
                refine J.done ?_
                refine J.thenN ?_
                refine J.condF rfl ?_
                refine J.skip ?_
                refine J.inN ?_
                refine J.thenN ?_
                refine J.region ?_
                refine J.quiet (Y.addW rfl rfl) rfl ?_
                refine J.quiet (Y.move rfl) rfl ?_
                refine J.done ?_
                refine J.thenN ?_
                exact J.againI (wI .i64 (a34 + (1 : Int))) (()) h (by repeat (first | exact SubF.nil | refine SubF.cons rfl ?_)) (SubM.cons 2 rfl (SubM.cons 2 rfl (SubM.cons 2 rfl (SubM.cons 2 rfl (SubM.cons 2 rfl (SubM.cons 2 rfl (SubM.cons 2 rfl (SubM.nil)))))))) (LentAll.refl _ _)
            · replace h := ifN hp37 h
              refine J.exit ?_
              refine J.thenX ?_
              refine J.thenX ?_
              refine J.inX ?_
              refine J.inN ?_
              refine J.thenN ?_
              exact J.meetI (()) (()) h (by repeat (first | exact SubF.nil | refine SubF.cons rfl ?_)) (SubM.refl _) (LentAll.refl _ _)
          · clear h
            intro a29 b30 h
            unfold labels_bipartite_k4 at h
            refine J.region ?_
            refine J.quiet (Y.addW rfl rfl) rfl ?_
            refine J.quiet (Y.move rfl) rfl ?_
            refine J.done ?_
            refine J.thenN ?_
            exact J.againI (wI .i64 (a25 + (1 : Int))) (()) h (by repeat (first | exact SubF.nil | refine SubF.cons rfl ?_)) (SubM.refl _) (LentAll.refl _ _)
        · replace h := ifN hp28 h
          refine J.exit ?_
          refine J.thenX ?_
          refine J.thenX ?_
          refine J.inX ?_
          refine J.retF (i := 0) (.inr rfl) rfl (Res.r0 rfl) ?_
          refine J.inN ?_
          refine J.thenN ?_
          exact J.meetN (()) (List.cons D20 ([] : List Nat)) rfl h (by repeat (first | exact SubF.nil | refine SubF.cons rfl ?_)) (SubM.cons 2 rfl (SubM.cons 2 rfl (SubM.cons 2 rfl (SubM.cons 2 rfl (SubM.cons 2 rfl (SubM.nil)))))) (LentAll.refl _ _)
    · clear h
      intro a13 b14 h
      unfold labels_bipartite_k2 at h
      refine J.seq ?_
      refine J.region ?_
      refine J.quiet (Y.loadB 0 rfl rfl rfl rfl rfl) rfl ?_
      refine J.know (Know.one ((Lent.ar (Lent.res 1 rfl) FI64I64p))) fun ho15 => ?_
      refine J.store1 3 rfl rfl ho15 rfl rfl rfl ?_
      refine J.store1 2 rfl rfl rfl rfl rfl rfl ?_
      refine J.done ?_
      refine J.thenN ?_
      refine J.ret ?_
      refine J.unmarkAll (i := 4) (Ds := b14) (.inl rfl) rfl ?_
      obtain rfl := Option.some.inj h
      exact J.retG2 (u6) rfl rfl (RV.cell1 3 rfl rfl rfl rfl) (RV.cell1 2 rfl rfl rfl rfl) (SubM.cons 1 rfl (SubM.nil)) LentAll.nil

end Go.Proofs.Ytmajgimhmfeliaa
end
section
set_option linter.unusedVariables false
set_option linter.unusedSimpArgs false
namespace Go.Proofs.Ytmajgimhmfeliaa
open Go.Sx
set_option linter.unusedVariables false
set_option linter.unusedSimpArgs false
def __labels_coverer__spread_k3  (a17 : List (Int)) : Option (Bool × List (Int)) :=
  some (true, a17)
def __labels_coverer__spread_s1 (p0 : (List (Int) × (List (List (Int × Int)))) × List (Int) × List (Int)) (p1 : Int) (rc : ((List (Int) × (List (List (Int × Int)))) × List (Int) × List (Int)) → Int → Int → Option (Bool × List (Int))) (a23 : Int × List (Int)) (ag22 : (Int × List (Int)) → Option (Bool × List (Int))) : Option (Bool × List (Int)) :=
  if a23.1 < (List.length (at' p0.1.2 p1) : Int) then (ck (0 ≤ a23.1 ∧ a23.1 < (List.length (at' p0.1.2 p1) : Int)) (Option.bind (rc ((((p0.1.1, p0.1.2)), p0.2.1, a23.2)) ((at' (at' p0.1.2 p1) a23.1).1) (1 : Int)) fun r29 => (if (!r29.1) = true then (some (false, r29.2)) else (ag22 ((wI .i64 (a23.1 + (1 : Int))), r29.2))))) else (__labels_coverer__spread_k3  (a23.2))
def __labels_coverer__spread_k2 (fuel : Nat) (p0 : (List (Int) × (List (List (Int × Int)))) × List (Int) × List (Int)) (p1 : Int) (p2 : Int) (rc : ((List (Int) × (List (List (Int × Int)))) × List (Int) × List (Int)) → Int → Int → Option (Bool × List (Int))) (a12 : Bool × List (Int)) : Option (Bool × List (Int)) :=
  if a12.1 = true then (some (false, a12.2)) else (if p2 = (1 : Int) then (some (true, a12.2)) else (ck (0 ≤ p1 ∧ p1 < (List.length p0.1.2 : Int)) (iter (__labels_coverer__spread_s1 p0 p1 rc) fuel ((0 : Int), a12.2))))
def __labels_coverer__spread_k1 (fuel : Nat) (p0 : (List (Int) × (List (List (Int × Int)))) × List (Int) × List (Int)) (p1 : Int) (p2 : Int) (rc : ((List (Int) × (List (List (Int × Int)))) × List (Int) × List (Int)) → Int → Int → Option (Bool × List (Int))) (a6 : Bool) : Option (Bool × List (Int)) :=
  if a6 = true then (some (false, p0.2.2)) else (ck (0 ≤ p1 ∧ p1 < (List.length p0.2.2 : Int)) (if (0 : Int) ≤ (at' p0.2.1 p1) then (Option.bind (rc ((((p0.1.1, p0.1.2)), p0.2.1, (List.set p0.2.2 (Int.toNat p1) p2))) (at' p0.2.1 p1) (wI .i64 ((1 : Int) - p2))) fun r34 => (__labels_coverer__spread_k2 fuel p0 p1 p2 rc (((!r34.1)), r34.2))) else (__labels_coverer__spread_k2 fuel p0 p1 p2 rc (false, (List.set p0.2.2 (Int.toNat p1) p2)))))
def __labels_coverer__spread_b (rc : ((List (Int) × (List (List (Int × Int)))) × List (Int) × List (Int)) → Int → Int → Option (Bool × List (Int))) (fuel : Nat) (p0 : (List (Int) × (List (List (Int × Int)))) × List (Int) × List (Int)) (p1 : Int) (p2 : Int) : Option (Bool × List (Int)) :=
  ck (0 ≤ p1 ∧ p1 < (List.length p0.2.2 : Int)) (if (at' p0.2.2 p1) ≠ (-1 : Int) then (ck (0 ≤ p1 ∧ p1 < (List.length p0.2.2 : Int)) (some ((decide ((at' p0.2.2 p1) = p2)), p0.2.2))) else (ck (0 ≤ p1 ∧ p1 < (List.length p0.2.1 : Int)) (if (at' p0.2.1 p1) < (0 : Int) then (__labels_coverer__spread_k1 fuel p0 p1 p2 rc (decide (p2 = (1 : Int)))) else (__labels_coverer__spread_k1 fuel p0 p1 p2 rc (false)))))
def m___labels_coverer__spread : Nat → ((List (Int) × (List (List (Int × Int)))) × List (Int) × List (Int)) → Int → Int → Option (Bool × List (Int))
  | 0, _, _, _ => none
  | fuel + 1, p0, p1, p2 => __labels_coverer__spread_b (m___labels_coverer__spread fuel) fuel p0 p1 p2

theorem body77 : HasBody Try.prog 77 := Try.call77

set_option maxHeartbeats 4000000 in
set_option maxRecDepth 20000 in
theorem t___labels_coverer__spread_b (rc : ((List (Int) × (List (List (Int × Int)))) × List (Int) × List (Int)) → Int → Int → Option (Bool × List (Int))) (fuel : Nat) (hrc : ∀ {p0 : (List (Int) × (List (List (Int × Int)))) × List (Int) × List (Int)} {p1 : Int} {p2 : Int} (bx0 : Nat)  (v1 : Value)  (v2 : Value)  (z3 : List (Value × List (Int × Int)))  (v4 : Value)  (v5 : Value) (r : Bool × List (Int)), rc p0 p1 p2 = some r → MeetsM Try.prog 77 #[Value.pointer (some ⟨bx0, 0, none⟩), Value.int .i64 (p1), Value.int .i64 (p2)] [Ar EI64 v5 p0.2.2] [Blk bx0 [v1, v2, v4, v5] 75, Sl RI64 v1 p0.1.1, S2 RI64I64p v2 z3 p0.1.2, Sl RI64 v4 p0.2.1] (fun x : Unit => Value.bool (r.1)) (fun x l => Ar EI64 v5 r.2 :: l)) {p0 : (List (Int) × (List (List (Int × Int)))) × List (Int) × List (Int)} {p1 : Int} {p2 : Int} (bx0 : Nat)  (v1 : Value)  (v2 : Value)  (z3 : List (Value × List (Int × Int)))  (v4 : Value)  (v5 : Value) (r : Bool × List (Int)) (h : __labels_coverer__spread_b rc fuel p0 p1 p2 = some r) :
    MeetsM Try.prog 77 #[Value.pointer (some ⟨bx0, 0, none⟩), Value.int .i64 (p1), Value.int .i64 (p2)] [Ar EI64 v5 p0.2.2] [Blk bx0 [v1, v2, v4, v5] 75, Sl RI64 v1 p0.1.1, S2 RI64I64p v2 z3 p0.1.2, Sl RI64 v4 p0.2.1] (fun x : Unit => Value.bool (r.1)) (fun x l => Ar EI64 v5 r.2 :: l) := by
  refine MeetsM.of (vs := [Value.pointer (some ⟨bx0, 0, none⟩), Value.int .i64 (p1), Value.int .i64 (p2)]) Try.func77 rfl Try.ntmps77 rfl fun c => ?_
  unfold __labels_coverer__spread_b at h
  refine J.seq ?_
  refine J.region ?_
  refine J.quiet (Y.assign rfl) rfl ?_
  refine J.done ?_
  refine J.thenN ?_
  refine J.seq ?_
  refine J.seq ?_
  refine J.region ?_
  refine J.quiet (Y.move rfl) rfl ?_
  refine J.quiet (Y.nilCheckB rfl) rfl ?_
  refine J.quiet (Y.fieldB rfl rfl rfl rfl rfl) rfl ?_
  refine J.quiet (Y.loadBS rfl (Lent.fact 0 rfl) rfl rfl rfl) rfl ?_
  refine J.quiet (Y.move rfl) rfl ?_
  replace h := ck_some h; obtain ⟨hc1, h⟩ := h
  refine J.quiet (Y.indexS rfl rfl (Lent.ar (Lent.res 0 rfl) FI64) rfl rfl hc1) rfl ?_
  refine J.quiet (Y.loadS0 rfl (Lent.ar (Lent.res 0 rfl) FI64) rfl rfl rfl RI64c0 hc1) rfl ?_
  refine J.quiet (Y.neq rfl rfl) rfl ?_
  refine J.done ?_
  refine J.thenN ?_
  refine J.condD (by exact rfl) (fun hp2 => ?_) (fun hp2 => ?_)
  · replace h := ifP hp2 h
    refine J.seq ?_
    refine J.region ?_
    refine J.quiet (Y.move rfl) rfl ?_
    refine J.quiet (Y.nilCheckB rfl) rfl ?_
    refine J.quiet (Y.fieldB rfl rfl rfl rfl rfl) rfl ?_
    refine J.quiet (Y.loadBS rfl (Lent.fact 0 rfl) rfl rfl rfl) rfl ?_
    refine J.quiet (Y.move rfl) rfl ?_
    replace h := ck_some h; obtain ⟨hc3, h⟩ := h
    refine J.quiet (Y.indexS rfl rfl (Lent.ar (Lent.res 0 rfl) FI64) rfl rfl hc3) rfl ?_
    refine J.quiet (Y.loadS0 rfl (Lent.ar (Lent.res 0 rfl) FI64) rfl rfl rfl RI64c0 hc3) rfl ?_
    refine J.quiet (Y.move rfl) rfl ?_
    refine J.quiet (Y.eql rfl rfl) rfl ?_
    refine J.quiet (Y.assign rfl) rfl ?_
    refine J.done ?_
    refine J.thenN ?_
    refine J.ret ?_
    refine J.thenR ?_
    obtain rfl := Option.some.inj h
    exact J.retG1 (()) rfl rfl (RV.tmp rfl) (SubM.refl _) LentAll.nil
  · replace h := ifN hp2 h
    refine J.skip ?_
    refine J.thenN ?_
    refine J.seq ?_
    refine J.region ?_
    refine J.quiet (Y.move rfl) rfl ?_
    refine J.quiet (Y.nilCheckB rfl) rfl ?_
    refine J.quiet (Y.fieldB rfl rfl rfl rfl rfl) rfl ?_
    refine J.quiet (Y.loadBS rfl (Lent.fact 0 rfl) rfl rfl rfl) rfl ?_
    refine J.quiet (Y.move rfl) rfl ?_
    replace h := ck_some h; obtain ⟨hc4, h⟩ := h
    refine J.quiet (Y.indexS rfl rfl (Lent.fact 3 rfl) rfl rfl hc4) rfl ?_
    refine J.quiet (Y.loadS0 rfl (Lent.fact 3 rfl) rfl rfl rfl RI64c0 hc4) rfl ?_
    refine J.quiet (Y.assign rfl) rfl ?_
    refine J.done ?_
    refine J.thenN ?_
    refine J.seq ?_
    refine J.seq ?_
    refine J.midI (A := Bool) (B := Unit) (fun a6 => __labels_coverer__spread_k1 fuel p0 p1 p2 rc a6 = some r) (fun a6 b7 => [(0, Value.pointer (some ⟨bx0, 0, none⟩)), (1, Value.int .i64 (p1)), (2, Value.int .i64 (p2)), (7, Value.int .i64 (at' p0.2.1 p1)), (39, Value.bool (a6))]) (fun a6 b7 => [Ar EI64 v5 p0.2.2]) (fun a6 b7 => [Blk bx0 [v1, v2, v4, v5] 75, Sl RI64 v1 p0.1.1, S2 RI64I64p v2 z3 p0.1.2, Sl RI64 v4 p0.2.1]) ?_ ?_
    · refine J.region ?_
      refine J.quiet (Y.move rfl) rfl ?_
      refine J.quiet (Y.lss rfl rfl) rfl ?_
      refine J.quiet (Y.move rfl) rfl ?_
      refine J.guardD (by exact rfl) (by exact rfl) (fun hp37 => ?_) (fun hp37 => ?_)
      · replace h := ifP hp37 h
        refine J.guardY rfl (Y.move rfl) rfl ?_
        refine J.guardY rfl (Y.eql rfl rfl) rfl ?_
        refine J.quiet (Y.pickT rfl rfl) rfl ?_
        refine J.done ?_
        refine J.thenN ?_
        exact J.meetI (decide (p2 = (1 : Int))) (()) h (by repeat (first | exact SubF.nil | refine SubF.cons rfl ?_)) (SubM.refl _) (LentAll.refl _ _)
      · replace h := ifN hp37 h
        refine J.guardN rfl rfl rfl ?_
        refine J.guardN rfl rfl rfl ?_
        refine J.quiet (Y.pickF rfl rfl) rfl ?_
        refine J.done ?_
        refine J.thenN ?_
        exact J.meetI (false) (()) h (by repeat (first | exact SubF.nil | refine SubF.cons rfl ?_)) (SubM.refl _) (LentAll.refl _ _)
    · clear h
      intro a6 b7 h
      unfold __labels_coverer__spread_k1 at h
      refine J.cond (by exact rfl) (fun hp8 => ?_) (fun hp8 => ?_)
      · replace h := ifP hp8 h
        refine J.seq ?_
        refine J.region ?_
        refine J.quiet (Y.assign rfl) rfl ?_
        refine J.done ?_
        refine J.thenN ?_
        refine J.ret ?_
        refine J.thenR ?_
        obtain rfl := Option.some.inj h
        exact J.retG1 (()) rfl rfl (RV.tmp rfl) (SubM.refl _) LentAll.nil
      · replace h := ifBN hp8 h
        refine J.skip ?_
        refine J.thenN ?_
        refine J.seq ?_
        refine J.region ?_
        refine J.quiet (Y.move rfl) rfl ?_
        refine J.quiet (Y.nilCheckB rfl) rfl ?_
        refine J.quiet (Y.fieldB rfl rfl rfl rfl rfl) rfl ?_
        refine J.quiet (Y.loadBS rfl (Lent.fact 0 rfl) rfl rfl rfl) rfl ?_
        refine J.quiet (Y.move rfl) rfl ?_
        refine J.quiet (Y.move rfl) rfl ?_
        replace h := ck_some h; obtain ⟨hc9, h⟩ := h
        refine J.quiet (Y.indexS rfl rfl (Lent.ar (Lent.res 0 rfl) FI64) rfl rfl hc9) rfl ?_
        refine J.storeS 0 p2 hc9 rfl rfl rfl rfl rfl rfl rfl ?_
        refine J.done ?_
        refine J.thenN ?_
        refine J.seq ?_
        refine J.seq ?_
        refine J.midI (A := Bool × List (Int)) (B := Unit) (fun a12 => __labels_coverer__spread_k2 fuel p0 p1 p2 rc a12 = some r) (fun a12 b13 => [(0, Value.pointer (some ⟨bx0, 0, none⟩)), (1, Value.int .i64 (p1)), (2, Value.int .i64 (p2)), (56, Value.bool (a12.1))]) (fun a12 b13 => [Ar EI64 v5 a12.2]) (fun a12 b13 => [Blk bx0 [v1, v2, v4, v5] 75, Sl RI64 v1 p0.1.1, S2 RI64I64p v2 z3 p0.1.2, Sl RI64 v4 p0.2.1]) ?_ ?_
        · refine J.region ?_
          refine J.quiet (Y.move rfl) rfl ?_
          refine J.quiet (Y.geq rfl rfl) rfl ?_
          refine J.quiet (Y.move rfl) rfl ?_
          refine J.guardD (by exact rfl) (by exact rfl) (fun hp33 => ?_) (fun hp33 => ?_)
          · replace h := ifP hp33 h
            refine J.guardY rfl (Y.move rfl) rfl ?_
            refine J.guardY rfl (Y.move rfl) rfl ?_
            refine J.guardY rfl (Y.move rfl) rfl ?_
            refine J.guardY rfl (Y.subW rfl rfl) rfl ?_
            replace h := bnd h; obtain ⟨r34, hr35, h⟩ := h
            refine J.loudG rfl (Loud.callM (Min := [Ar EI64 v5 (List.set p0.2.2 (Int.toNat p1) p2)]) (Mr := []) body77 (hrc bx0 v1 v2 z3 v4 v5 r34 hr35) rfl (SubM.refl _) (LentAll.cons (Lent.fact 0 rfl) (LentAll.cons (Lent.fact 1 rfl) (LentAll.cons (Lent.fact 2 rfl) (LentAll.cons (Lent.fact 3 rfl) (LentAll.nil))))) (fun _ _ => rfl)) rfl fun x36 => ?_
            refine J.guardY rfl (Y.not rfl) rfl ?_
            refine J.quiet (Y.pickT rfl rfl) rfl ?_
            refine J.done ?_
            refine J.thenN ?_
            exact J.meetI (((!r34.1)), r34.2) (()) h (by repeat (first | exact SubF.nil | refine SubF.cons rfl ?_)) (SubM.refl _) (LentAll.refl _ _)
          · replace h := ifN hp33 h
            refine J.guardN rfl rfl rfl ?_
            refine J.guardN rfl rfl rfl ?_
            refine J.guardN rfl rfl rfl ?_
            refine J.guardN rfl rfl rfl ?_
            refine J.guardN rfl rfl rfl ?_
            refine J.guardN rfl rfl rfl ?_
            refine J.quiet (Y.pickF rfl rfl) rfl ?_
            refine J.done ?_
            refine J.thenN ?_
            exact J.meetI (false, (List.set p0.2.2 (Int.toNat p1) p2)) (()) h (by repeat (first | exact SubF.nil | refine SubF.cons rfl ?_)) (SubM.refl _) (LentAll.refl _ _)
        · clear h
          intro a12 b13 h
          unfold __labels_coverer__spread_k2 at h
          refine J.cond (by exact rfl) (fun hp14 => ?_) (fun hp14 => ?_)
          · replace h := ifP hp14 h
            refine J.seq ?_
            refine J.region ?_
            refine J.quiet (Y.assign rfl) rfl ?_
            refine J.done ?_
            refine J.thenN ?_
            refine J.ret ?_
            refine J.thenR ?_
            obtain rfl := Option.some.inj h
            exact J.retG1 (()) rfl rfl (RV.tmp rfl) (SubM.refl _) LentAll.nil
          · replace h := ifBN hp14 h
            refine J.skip ?_
            refine J.thenN ?_
            refine J.seq ?_
            refine J.seq ?_
            refine J.region ?_
            refine J.quiet (Y.move rfl) rfl ?_
            refine J.quiet (Y.eql rfl rfl) rfl ?_
            refine J.done ?_
            refine J.thenN ?_
            refine J.condD (by exact rfl) (fun hp15 => ?_) (fun hp15 => ?_)
            · replace h := ifP hp15 h
              refine J.seq ?_
              refine J.region ?_
              refine J.quiet (Y.assign rfl) rfl ?_
              refine J.done ?_
              refine J.thenN ?_
              refine J.ret ?_
              refine J.thenR ?_
              obtain rfl := Option.some.inj h
              exact J.retG1 (()) rfl rfl (RV.tmp rfl) (SubM.refl _) LentAll.nil
            · replace h := ifN hp15 h
              refine J.skip ?_
              refine J.thenN ?_
              refine J.seq ?_
              refine J.midI (A := List (Int)) (B := Unit) (fun a17 => __labels_coverer__spread_k3  a17 = some r) (fun a17 b18 => []) (fun a17 b18 => [Ar EI64 v5 a17]) (fun a17 b18 => [Blk bx0 [v1, v2, v4, v5] 75, Sl RI64 v1 p0.1.1, S2 RI64I64p v2 z3 p0.1.2, Sl RI64 v4 p0.2.1]) ?_ ?_
              · refine J.seq ?_
                refine J.region ?_
                refine J.quiet (Y.move rfl) rfl ?_
                refine J.quiet (Y.nilCheckB rfl) rfl ?_
                refine J.quiet (Y.fieldB rfl rfl rfl rfl rfl) rfl ?_
                refine J.quiet (Y.fieldB rfl rfl rfl rfl rfl) rfl ?_
                refine J.quiet (Y.loadBS rfl (Lent.fact 0 rfl) rfl rfl rfl) rfl ?_
                refine J.quiet (Y.move rfl) rfl ?_
                replace h := ck_some h; obtain ⟨hc19, h⟩ := h
                refine J.quiet (Y.indexN rfl rfl (Lent.fact 2 rfl) rfl rfl hc19) rfl ?_
                refine J.quiet (Y.loadRow rfl (Lent.fact 2 rfl) rfl rfl hc19) rfl ?_
                refine J.quiet (Y.lenS rfl (Lent.el (Lent.fact 2 rfl) hc19.1 hc19.2) rfl) rfl ?_
                refine J.quiet (Y.move rfl) rfl ?_
                refine J.done ?_
                refine J.thenN ?_
                refine J.block ?_
                refine J.loopI (A := Int × List (Int)) (B := Unit) (__labels_coverer__spread_s1 p0 p1 rc) (fun a23 b24 => [(0, Value.pointer (some ⟨bx0, 0, none⟩)), (66, (at' z3 p1).1), (67, Value.int .i64 (List.length (at' p0.1.2 p1) : Int)), (68, Value.int .i64 (a23.1))]) (fun a23 b24 => [Ar EI64 v5 a23.2]) (fun a23 b24 => [Blk bx0 [v1, v2, v4, v5] 75, Sl RI64 v1 p0.1.1, S2 RI64I64p v2 z3 p0.1.2, Sl RI64 v4 p0.2.1]) ((0 : Int), a12.2) (()) h (by repeat (first | exact SubF.nil | refine SubF.cons rfl ?_)) (SubM.refl _) (LentAll.refl _ _) ?_
                clear h
                intro k25 a23 b24 h
                unfold __labels_coverer__spread_s1 at h
                refine J.seq ?_
                refine J.region ?_
                refine J.quiet (Y.lss rfl rfl) rfl ?_
                refine J.done ?_
                refine J.thenN ?_
                refine J.seq ?_
                refine J.condD (by exact rfl) (fun hp26 => ?_) (fun hp26 => ?_)
                · replace h := ifP hp26 h
                  refine J.skip ?_
                  refine J.thenN ?_
                  refine J.seq ?_
                  refine J.block ?_
                  refine J.seq ?_
                  refine J.region ?_
                  replace h := ck_some h; obtain ⟨hc27, h⟩ := h
                  refine J.quiet (Y.indexS rfl rfl (Lent.el (Lent.fact 2 rfl) hc19.1 hc19.2) rfl rfl hc27) rfl ?_
                  refine J.quiet (Y.loadAggS (cs := [Value.int .i64 ((at' (at' p0.1.2 p1) a23.1).1), Value.int .i64 ((at' (at' p0.1.2 p1) a23.1).2)]) rfl (Lent.el (Lent.fact 2 rfl) hc19.1 hc19.2) FI64I64p rfl rfl rfl rfl hc27) rfl ?_
                  refine J.loud (Loud.alloc (cs := [Value.int .i64 (0 : Int), Value.int .i64 (0 : Int)]) rfl rfl) rfl fun b28 => ?_
                  refine J.storeAll 0 (vs := [Value.int .i64 ((at' (at' p0.1.2 p1) a23.1).1), Value.int .i64 ((at' (at' p0.1.2 p1) a23.1).2)]) rfl rfl rfl rfl rfl rfl ?_
                  refine J.done ?_
                  refine J.thenN ?_
                  refine J.seq ?_
                  refine J.region ?_
                  refine J.quiet (Y.move rfl) rfl ?_
                  refine J.quiet (Y.fieldB rfl rfl rfl rfl rfl) rfl ?_
                  refine J.quiet (Y.loadB 0 rfl rfl rfl rfl rfl) rfl ?_
                  replace h := bnd h; obtain ⟨r29, hr30, h⟩ := h
                  refine J.loud (Loud.callM (Min := [Ar EI64 v5 a23.2]) (Mr := [Blk b28 [Value.int .i64 ((at' (at' p0.1.2 p1) a23.1).1), Value.int .i64 ((at' (at' p0.1.2 p1) a23.1).2)] 40]) body77 (hrc bx0 v1 v2 z3 v4 v5 r29 hr30) rfl (SubM.cons 1 rfl (SubM.cons 0 rfl (SubM.nil))) (LentAll.cons (Lent.fact 0 rfl) (LentAll.cons (Lent.fact 1 rfl) (LentAll.cons (Lent.fact 2 rfl) (LentAll.cons (Lent.fact 3 rfl) (LentAll.nil))))) (fun _ _ => rfl)) rfl fun x31 => ?_
                  refine J.quiet (Y.not rfl) rfl ?_
                  refine J.done ?_
                  refine J.thenN ?_
                  refine J.cond (by exact rfl) (fun hp32 => ?_) (fun hp32 => ?_)
                  · replace h := ifP hp32 h
                    refine J.seq ?_
                    refine J.region ?_
                    refine J.quiet (Y.assign rfl) rfl ?_
                    refine J.done ?_
                    refine J.thenN ?_
                    refine J.ret ?_
                    refine J.inR ?_
                    refine J.thenR ?_
                    refine J.thenR ?_
                    refine J.inR ?_
                    refine J.thenR ?_
                    obtain rfl := Option.some.inj h
                    exact J.retG1 (()) rfl rfl (RV.tmp rfl) (SubM.cons 0 rfl (SubM.nil)) LentAll.nil
                  · replace h := ifBN hp32 h
                    refine J.skip ?_
                    refine J.inN ?_
                    refine J.thenN ?_
                    refine J.region ?_
                    refine J.quiet (Y.addW rfl rfl) rfl ?_
                    refine J.quiet (Y.move rfl) rfl ?_
                    refine J.done ?_
                    refine J.thenN ?_
                    exact J.againI ((wI .i64 (a23.1 + (1 : Int))), r29.2) (()) h (by repeat (first | exact SubF.nil | refine SubF.cons rfl ?_)) (SubM.cons 0 rfl (SubM.nil)) (LentAll.refl _ _)
                · replace h := ifN hp26 h
                  refine J.exit ?_
                  refine J.thenX ?_
                  refine J.thenX ?_
                  refine J.inX ?_
                  refine J.thenN ?_
                  exact J.meetI (a23.2) (()) h (by repeat (first | exact SubF.nil | refine SubF.cons rfl ?_)) (SubM.refl _) (LentAll.refl _ _)
              · clear h
                intro a17 b18 h
                unfold __labels_coverer__spread_k3 at h
                refine J.seq ?_
                refine J.region ?_
                refine J.quiet (Y.assign rfl) rfl ?_
                refine J.done ?_
                refine J.thenN ?_
                refine J.ret ?_
                obtain rfl := Option.some.inj h
                exact J.retG1 (()) rfl rfl (RV.tmp rfl) (SubM.refl _) LentAll.nil

theorem t___labels_coverer__spread (fuel : Nat) : ∀ {p0 : (List (Int) × (List (List (Int × Int)))) × List (Int) × List (Int)} {p1 : Int} {p2 : Int} (bx0 : Nat)  (v1 : Value)  (v2 : Value)  (z3 : List (Value × List (Int × Int)))  (v4 : Value)  (v5 : Value) (r : Bool × List (Int)), m___labels_coverer__spread fuel p0 p1 p2 = some r →
    MeetsM Try.prog 77 #[Value.pointer (some ⟨bx0, 0, none⟩), Value.int .i64 (p1), Value.int .i64 (p2)] [Ar EI64 v5 p0.2.2] [Blk bx0 [v1, v2, v4, v5] 75, Sl RI64 v1 p0.1.1, S2 RI64I64p v2 z3 p0.1.2, Sl RI64 v4 p0.2.1] (fun x : Unit => Value.bool (r.1)) (fun x l => Ar EI64 v5 r.2 :: l) := by
  induction fuel with
  | zero => intros; rename_i h; cases h
  | succ fuel ih => exact fun bx0 v1 v2 z3 v4 v5 r h => t___labels_coverer__spread_b (m___labels_coverer__spread fuel) fuel ih bx0 v1 v2 z3 v4 v5 r h

end Go.Proofs.Ytmajgimhmfeliaa
end
section
set_option linter.unusedVariables false
set_option linter.unusedSimpArgs false
namespace Go.Proofs.Ytmajgimhmfeliaa
open Go.Sx
set_option linter.unusedVariables false
set_option linter.unusedSimpArgs false
def m___labels_coverer__set (fuel : Nat) (p0 : (List (Int) × (List (List (Int × Int)))) × List (Int) × List (Int)) (p1 : Int) (p2 : Int) : Option (Bool × List (Int)) :=
  ck ((List.length ([] : List Int) : Int) + (List.length p0.2.2 : Int) ≤ 1099511627) (Option.bind (m___labels_coverer__spread fuel ((((p0.1.1, p0.1.2)), p0.2.1, p0.2.2)) p1 p2) fun r3 => (if r3.1 = true then (some (true, r3.2)) else (some (false, (([] : List Int) ++ p0.2.2)))))

theorem body57 : HasBody Try.prog 57 := Try.call57

set_option maxHeartbeats 4000000 in
set_option maxRecDepth 20000 in
theorem t___labels_coverer__set (fuel : Nat) {p0 : (List (Int) × (List (List (Int × Int)))) × List (Int) × List (Int)} {p1 : Int} {p2 : Int} (bx0 : Nat)  (v1 : Value)  (v2 : Value)  (z3 : List (Value × List (Int × Int)))  (v4 : Value)  (v5 : Value) (r : Bool × List (Int)) (h : m___labels_coverer__set fuel p0 p1 p2 = some r) :
    MeetsM Try.prog 57 #[Value.pointer (some ⟨bx0, 0, none⟩), Value.int .i64 (p1), Value.int .i64 (p2)] [Blk bx0 [v1, v2, v4, v5] 75, Ar EI64 v5 p0.2.2] [Sl RI64 v1 p0.1.1, S2 RI64I64p v2 z3 p0.1.2, Sl RI64 v4 p0.2.1] (fun x : Value => Value.bool (r.1)) (fun x l => Blk bx0 [v1, v2, v4, x] 75 :: Ar EI64 x r.2 :: l) := by
  refine MeetsM.of (vs := [Value.pointer (some ⟨bx0, 0, none⟩), Value.int .i64 (p1), Value.int .i64 (p2)]) Try.func57 rfl Try.ntmps57 rfl fun c => ?_
  unfold m___labels_coverer__set at h
  refine J.seq ?_
  refine J.region ?_
  refine J.quiet (Y.assign rfl) rfl ?_
  refine J.done ?_
  refine J.thenN ?_
  refine J.seq ?_
  refine J.region ?_
  refine J.quiet (Y.move rfl) rfl ?_
  refine J.quiet (Y.nilCheckB rfl) rfl ?_
  refine J.quiet (Y.fieldB rfl rfl rfl rfl rfl) rfl ?_
  refine J.quiet (Y.loadB 0 rfl rfl rfl rfl rfl) rfl ?_
  refine J.stp (Stp.nilAr EI64) ?_
  replace h := ck_some h; obtain ⟨hc2, h⟩ := h
  refine J.loud (Loud.appendL 0 FI64 rfl rfl rfl (Lent.ar (Lent.res 2 rfl) FI64) rfl rfl rfl rfl hc2 rfl) rfl fun u1 => ?_
  refine J.quiet (Y.assign rfl) rfl ?_
  refine J.done ?_
  refine J.thenN ?_
  refine J.seq ?_
  refine J.seq ?_
  refine J.region ?_
  refine J.quiet (Y.move rfl) rfl ?_
  refine J.quiet (Y.move rfl) rfl ?_
  refine J.quiet (Y.move rfl) rfl ?_
  replace h := bnd h; obtain ⟨r3, hr4, h⟩ := h
  refine J.loud (Loud.callM (Min := [Ar EI64 v5 p0.2.2]) (Mr := [Ar EI64 u1 (([] : List Int) ++ p0.2.2), Blk bx0 [v1, v2, v4, v5] 75]) body77 (t___labels_coverer__spread fuel bx0 v1 v2 z3 v4 v5 r3 hr4) rfl (SubM.cons 2 rfl (SubM.cons 0 rfl (SubM.cons 0 rfl (SubM.nil)))) (LentAll.cons (Lent.res 1 rfl) (LentAll.cons (Lent.fact 0 rfl) (LentAll.cons (Lent.fact 1 rfl) (LentAll.cons (Lent.fact 2 rfl) (LentAll.nil))))) (fun _ _ => rfl)) rfl fun x5 => ?_
  refine J.done ?_
  refine J.thenN ?_
  refine J.cond (by exact rfl) (fun hp6 => ?_) (fun hp6 => ?_)
  · replace h := ifP hp6 h
    refine J.seq ?_
    refine J.region ?_
    refine J.quiet (Y.assign rfl) rfl ?_
    refine J.done ?_
    refine J.thenN ?_
    refine J.ret ?_
    refine J.thenR ?_
    obtain rfl := Option.some.inj h
    exact J.retG1 (v5) rfl rfl (RV.tmp rfl) (SubM.cons 2 rfl (SubM.cons 0 rfl (SubM.nil))) LentAll.nil
  · replace h := ifBN hp6 h
    refine J.skip ?_
    refine J.thenN ?_
    refine J.seq ?_
    refine J.region ?_
    refine J.quiet (Y.move rfl) rfl ?_
    refine J.quiet (Y.move rfl) rfl ?_
    refine J.quiet (Y.nilCheckB rfl) rfl ?_
    refine J.quiet (Y.fieldB rfl rfl rfl rfl rfl) rfl ?_
    refine J.know (Know.one ((Lent.ar (Lent.res 1 rfl) FI64))) fun ho7 => ?_
    refine J.store1 2 rfl rfl ho7 rfl rfl rfl ?_
    refine J.done ?_
    refine J.thenN ?_
    refine J.seq ?_
    refine J.region ?_
    refine J.quiet (Y.assign rfl) rfl ?_
    refine J.done ?_
    refine J.thenN ?_
    refine J.ret ?_
    obtain rfl := Option.some.inj h
    exact J.retG1 (u1) rfl rfl (RV.tmp rfl) (SubM.cons 2 rfl (SubM.cons 1 rfl (SubM.nil))) LentAll.nil

end Go.Proofs.Ytmajgimhmfeliaa
end
section
set_option linter.unusedVariables false
set_option linter.unusedSimpArgs false
namespace Go.Proofs.Ytmajgimhmfeliaa
open Go.Sx
set_option linter.unusedVariables false
set_option linter.unusedSimpArgs false
def labels_cover_k6  (a24 : (List (Int × Int))) : Option ((List (Int × Int)) × Bool) :=
  some (a24, true)
def labels_cover_s1 (a19 : List (Int)) (a29 : Int × (List (Int × Int))) (ag28 : (Int × (List (Int × Int))) → Option ((List (Int × Int)) × Bool)) : Option ((List (Int × Int)) × Bool) :=
  if a29.1 < (List.length a19 : Int) then (ck (0 ≤ a29.1 ∧ a29.1 < (List.length a19 : Int)) (ck (0 ≤ a29.1 ∧ a29.1 < (List.length a29.2 : Int)) (ag28 ((wI .i64 (a29.1 + (1 : Int))), (List.set a29.2 (Int.toNat a29.1) ((at' a19 a29.1), ((at' a29.2 a29.1).2))))))) else (labels_cover_k6  (a29.2))
def labels_cover_k5 (fuel : Nat) (p1 : List (Int)) (a19 : List (Int)) : Option ((List (Int × Int)) × Bool) :=
  ck (0 ≤ (List.length p1 : Int) ∧ (List.length p1 : Int) ≤ 1099511627) (iter (labels_cover_s1 a19) fuel ((0 : Int), (List.replicate (Int.toNat (List.length p1 : Int)) ((0 : Int), (0 : Int)))))
def labels_cover_k7 (a40 : Int × List (Int)) (ag39 : (Int × List (Int)) → Option ((List (Int × Int)) × Bool)) (a47 : Bool × List (Int)) : Option ((List (Int × Int)) × Bool) :=
  if a47.1 = true then (some (([] : List (Int × Int)), false)) else (ag39 ((wI .i64 (a40.1 + (1 : Int))), a47.2))
def labels_cover_s2 (fuel : Nat) (p0 : List (Int) × (List (List (Int × Int)))) (p1 : List (Int)) (a9 : List (Int) × List (Int)) (a40 : Int × List (Int)) (ag39 : (Int × List (Int)) → Option ((List (Int × Int)) × Bool)) : Option ((List (Int × Int)) × Bool) :=
  if a40.1 < (List.length p1 : Int) then (ck (0 ≤ a40.1 ∧ a40.1 < (List.length a40.2 : Int)) (if (at' a40.2 a40.1) = (-1 : Int) then (Option.bind (m___labels_coverer__set fuel ((((p0.1, p0.2)), a9.2, a40.2)) a40.1 (0 : Int)) fun r52 => (if (!r52.1) = true then (Option.bind (m___labels_coverer__set fuel ((((p0.1, p0.2)), a9.2, r52.2)) a40.1 (1 : Int)) fun r56 => (labels_cover_k7 a40 ag39 (((!r56.1)), r56.2))) else (labels_cover_k7 a40 ag39 (false, r52.2)))) else (labels_cover_k7 a40 ag39 (false, a40.2)))) else (labels_cover_k5 fuel p1 (a40.2))
def labels_cover_k4 (fuel : Nat) (p0 : List (Int) × (List (List (Int × Int)))) (p1 : List (Int)) (a9 : List (Int) × List (Int)) (a15 : List (Int)) : Option ((List (Int × Int)) × Bool) :=
  iter (labels_cover_s2 fuel p0 p1 a9) fuel ((0 : Int), a15)
def labels_cover_k8 (a63 : Int × List (Int)) (ag62 : (Int × List (Int)) → Option ((List (Int × Int)) × Bool)) (a71 : Bool × List (Int)) : Option ((List (Int × Int)) × Bool) :=
  if a71.1 = true then (some (([] : List (Int × Int)), false)) else (ag62 ((wI .i64 (a63.1 + (1 : Int))), a71.2))
def labels_cover_s3 (fuel : Nat) (p0 : List (Int) × (List (List (Int × Int)))) (p1 : List (Int)) (a9 : List (Int) × List (Int)) (a63 : Int × List (Int)) (ag62 : (Int × List (Int)) → Option ((List (Int × Int)) × Bool)) : Option ((List (Int × Int)) × Bool) :=
  if a63.1 < (List.length a9.2 : Int) then (ck (0 ≤ a63.1 ∧ a63.1 < (List.length a9.2 : Int)) (if (at' a9.2 a63.1) < (0 : Int) then (Option.bind (m___labels_coverer__set fuel ((((p0.1, p0.2)), a9.2, a63.2)) a63.1 (0 : Int)) fun r75 => (labels_cover_k8 a63 ag62 (((!r75.1)), r75.2))) else (labels_cover_k8 a63 ag62 (false, a63.2)))) else (labels_cover_k4 fuel p0 p1 a9 (a63.2))
def labels_cover_k3 (fuel : Nat) (p0 : List (Int) × (List (List (Int × Int)))) (p1 : List (Int)) (a9 : List (Int) × List (Int)) (a11 : Unit) : Option ((List (Int × Int)) × Bool) :=
  iter (labels_cover_s3 fuel p0 p1 a9) fuel ((0 : Int), a9.1)
def labels_cover_k9 (a80 : Int) (ag79 : (Int) → Option ((List (Int × Int)) × Bool)) (a86 : Bool) : Option ((List (Int × Int)) × Bool) :=
  if a86 = true then (some (([] : List (Int × Int)), false)) else (ag79 (wI .i64 (a80 + (1 : Int))))
def labels_cover_s4 (fuel : Nat) (p0 : List (Int) × (List (List (Int × Int)))) (p1 : List (Int)) (a9 : List (Int) × List (Int)) (a80 : Int) (ag79 : (Int) → Option ((List (Int × Int)) × Bool)) : Option ((List (Int × Int)) × Bool) :=
  if a80 < (List.length a9.2 : Int) then (ck (0 ≤ a80 ∧ a80 < (List.length a9.2 : Int)) (if (0 : Int) ≤ (at' a9.2 a80) then (ck (0 ≤ (at' a9.2 a80) ∧ (at' a9.2 a80) < (List.length a9.2 : Int)) (labels_cover_k9 a80 ag79 (decide ((at' a9.2 (at' a9.2 a80)) ≠ a80)))) else (labels_cover_k9 a80 ag79 (false)))) else (labels_cover_k3 fuel p0 p1 a9 (()))
def labels_cover_k2 (fuel : Nat) (p0 : List (Int) × (List (List (Int × Int)))) (p1 : List (Int)) (a9 : List (Int) × List (Int)) : Option ((List (Int × Int)) × Bool) :=
  iter (labels_cover_s4 fuel p0 p1 a9) fuel (0 : Int)
def labels_cover_k10 (a95 : Int × List (Int) × List (Int)) (ag94 : (Int × List (Int) × List (Int)) → Option ((List (Int × Int)) × Bool)) (a100 : List (Int)) : Option ((List (Int × Int)) × Bool) :=
  ag94 ((wI .i64 (a95.1 + (1 : Int))), (List.set a95.2.1 (Int.toNat a95.1) (-1 : Int)), a100)
def labels_cover_s5 (fuel : Nat) (p0 : List (Int) × (List (List (Int × Int)))) (p1 : List (Int)) (a95 : Int × List (Int) × List (Int)) (ag94 : (Int × List (Int) × List (Int)) → Option ((List (Int × Int)) × Bool)) : Option ((List (Int × Int)) × Bool) :=
  if a95.1 < (List.length p1 : Int) then (ck (0 ≤ a95.1 ∧ a95.1 < (List.length p1 : Int)) (ck (0 ≤ a95.1 ∧ a95.1 < (List.length a95.2.1 : Int)) (ck (0 ≤ a95.1 ∧ a95.1 < (List.length a95.2.2 : Int)) (if (0 : Int) ≤ (at' p1 a95.1) then (ck (0 ≤ a95.1 ∧ a95.1 < (List.length p0.2 : Int)) (ck (0 ≤ (at' p1 a95.1) ∧ (at' p1 a95.1) < (List.length (at' p0.2 a95.1) : Int)) (ck (0 ≤ a95.1 ∧ a95.1 < (List.length (List.set a95.2.2 (Int.toNat a95.1) (-1 : Int)) : Int)) (labels_cover_k10 a95 ag94 (List.set (List.set a95.2.2 (Int.toNat a95.1) (-1 : Int)) (Int.toNat a95.1) ((at' (at' p0.2 a95.1) (at' p1 a95.1)).1)))))) else (labels_cover_k10 a95 ag94 (List.set a95.2.2 (Int.toNat a95.1) (-1 : Int))))))) else (labels_cover_k2 fuel p0 p1 (a95.2.1, a95.2.2))
def labels_cover_k1 (fuel : Nat) (p0 : List (Int) × (List (List (Int × Int)))) (p1 : List (Int)) (a5 : Unit) : Option ((List (Int × Int)) × Bool) :=
  iter (labels_cover_s5 fuel p0 p1) fuel ((0 : Int), (List.replicate (Int.toNat (List.length p1 : Int)) (0 : Int)), (List.replicate (Int.toNat (List.length p1 : Int)) (0 : Int)))
def m_labels_cover (fuel : Nat) (p0 : List (Int) × (List (List (Int × Int)))) (p1 : List (Int)) : Option ((List (Int × Int)) × Bool) :=
  ck (0 ≤ (List.length p1 : Int) ∧ (List.length p1 : Int) ≤ 1099511627) (ck (0 ≤ (List.length p1 : Int) ∧ (List.length p1 : Int) ≤ 1099511627) (labels_cover_k1 fuel p0 p1 (())))

theorem body35 : HasBody Try.prog 35 := Try.call35

set_option maxHeartbeats 4000000 in
set_option maxRecDepth 20000 in
theorem t_labels_cover (fuel : Nat) {p0 : List (Int) × (List (List (Int × Int)))} {p1 : List (Int)} (v0 : Value)  (v1 : Value)  (z2 : List (Value × List (Int × Int)))  (v3 : Value) (r : (List (Int × Int)) × Bool) (h : m_labels_cover fuel p0 p1 = some r) :
    Meets Try.prog 35 #[Value.agg #[v0, v1], v3] [Sl RI64 v0 p0.1, S2 RI64I64p v1 z2 p0.2, Sl RI64 v3 p1] (fun x : Value => Value.tuple #[x, Value.bool (r.2)]) (fun x l => Ar EI64I64p x r.1 :: l) (fun _ l => l) := by
  refine Meets.of (vs := [Value.agg #[v0, v1], v3]) Try.func35 rfl Try.ntmps35 rfl fun c => ?_
  unfold m_labels_cover at h
  refine J.seq ?_
  refine J.region ?_
  refine J.loud (Loud.box (cs := [v0, v1]) rfl rfl) rfl fun b1 => ?_
  refine J.quiet (Y.assign rfl) rfl ?_
  refine J.quiet (Y.assign rfl) rfl ?_
  refine J.done ?_
  refine J.thenN ?_
  refine J.seq ?_
  refine J.region ?_
  refine J.quiet (Y.move rfl) rfl ?_
  refine J.quiet (Y.lenS rfl (Lent.fact 2 rfl) rfl) rfl ?_
  refine J.quiet (Y.assign rfl) rfl ?_
  refine J.done ?_
  refine J.thenN ?_
  refine J.seq ?_
  refine J.midI (A := Unit) (B := Nat × Value × Value) (fun a5 => labels_cover_k1 fuel p0 p1 a5 = some r) (fun a5 b6 => [(1, v3), (2, Value.pointer (some ⟨b1, 0, none⟩)), (6, Value.int .i64 (List.length p1 : Int)), (7, Value.pointer (some ⟨b6.1, 0, none⟩))]) (fun a5 b6 => [Blk b6.1 [v0, v1, b6.2.1, b6.2.2] 75, Ar EI64 b6.2.2 (List.replicate (Int.toNat (List.length p1 : Int)) (0 : Int)), Ar EI64 b6.2.1 (List.replicate (Int.toNat (List.length p1 : Int)) (0 : Int)), Blk b1 [v0, v1] 29]) (fun a5 b6 => [Sl RI64 v0 p0.1, S2 RI64I64p v1 z2 p0.2, Sl RI64 v3 p1]) ?_ ?_
  · replace h := ck_some h; obtain ⟨hc109, h⟩ := h
    replace h := ck_some h; obtain ⟨hc111, h⟩ := h
    refine JR.orders [0, 0, 2, 0, 8, 31, 0, 127] 7 [[0, 1, 3, 2, 4, 5, 6, 7], [0, 1, 3, 2, 6, 4, 5, 7], [0, 1, 3, 4, 2, 5, 6, 7], [0, 1, 3, 4, 6, 2, 5, 7], [0, 1, 3, 6, 2, 4, 5, 7], [0, 1, 3, 6, 4, 2, 5, 7]] mixedOrders (by decide +kernel) (by decide +kernel) ?_
    intro o ho
    simp only [List.mem_cons, List.not_mem_nil, or_false] at ho
    rcases ho with rfl | rfl | rfl | rfl | rfl | rfl
    · refine JR.qt rfl (SubM.refl _) (SubL.nil) (Y.loadBAll 0 rfl rfl rfl rfl) HistOk.z ?_
      refine JR.qt rfl (SubM.nil) (SubL.nil) (Y.move rfl) HistOk.z ?_
      refine JR.qt rfl (SubM.nil) (SubL.nil) (Y.move rfl) HistOk.z ?_
      refine JR.loud rfl rfl rfl (Loud.makeS (e := EI64) (0 : Int) rfl rfl rfl rfl hc109 rfl rfl rfl) rfl (fun u120 => (BsOk.h (SubM.nil) (SubL.nil) (BsOk.b rfl (BsOk.h (SubM.cons 1 rfl (SubM.nil)) (SubL.nil) BsOk.z)))) fun u120 => ?_
      refine JR.loud rfl rfl rfl (Loud.makeS (e := EI64) (0 : Int) rfl rfl rfl rfl hc111 rfl rfl rfl) rfl (fun u121 => (BsOk.b rfl (BsOk.h (SubM.nil) (SubL.nil) (BsOk.h (SubM.cons 2 rfl (SubM.nil)) (SubL.nil) BsOk.z)))) fun u121 => ?_
      refine JR.know (Know.one ((Lent.ar (Lent.res 1 rfl) FI64))) fun ho122 => ?_
      refine JR.know (Know.one ((Lent.ar (Lent.res 0 rfl) FI64))) fun ho123 => ?_
      refine JR.qt rfl (SubM.nil) (SubL.nil) (Y.bld3 (r := Value.agg #[v0, v1, u120, u121]) rfl rfl rfl (by intro w; simp [Instr.build, Instr.fill, cells_intV, cells_boolV, cells_sliceV, cells_ptrV, cells_strV, cells_funcV, cells_agg, one_cells ho122, one_cells ho123])) (HistOk.b rfl (HistOk.b rfl HistOk.z)) ?_
      refine JR.loud rfl rfl rfl (Loud.alloc (cs := [Value.slice none 0 0, Value.slice none 0 0, Value.slice none 0 0, Value.slice none 0 0]) rfl rfl) rfl (fun b124 => (BsOk.h (SubM.nil) (SubL.nil) (BsOk.h (SubM.nil) (SubL.nil) (BsOk.h (SubM.nil) (SubL.nil) (BsOk.h (SubM.cons 3 rfl (SubM.nil)) (SubL.nil) BsOk.z))))) fun b124 => ?_
      refine JR.tailD 7 rfl rfl ?_
      refine J.know (Know.one ((Lent.fact 0 rfl))) fun ho125 => ?_
      refine J.know (Know.one (Lent.sl (Lent.fact 1 rfl))) fun ho126 => ?_
      refine J.know (Know.one ((Lent.ar (Lent.res 2 rfl) FI64))) fun ho127 => ?_
      refine J.know (Know.one ((Lent.ar (Lent.res 1 rfl) FI64))) fun ho128 => ?_
      refine J.storeAll 0 (vs := [v0, v1, u120, u121]) rfl rfl (all1 ho125 (all1 ho126 (all1 ho127 (all1 ho128 rfl)))) rfl rfl rfl ?_
      refine J.done ?_
      refine J.thenN ?_
      exact J.meetI (()) (b124, u120, u121) h (by repeat (first | exact SubF.nil | refine SubF.cons rfl ?_)) (SubM.refl _) (LentAll.refl _ _)
    · refine JR.qt rfl (SubM.refl _) (SubL.nil) (Y.loadBAll 0 rfl rfl rfl rfl) HistOk.z ?_
      refine JR.qt rfl (SubM.nil) (SubL.nil) (Y.move rfl) HistOk.z ?_
      refine JR.qt rfl (SubM.nil) (SubL.nil) (Y.move rfl) HistOk.z ?_
      refine JR.loud rfl rfl rfl (Loud.makeS (e := EI64) (0 : Int) rfl rfl rfl rfl hc109 rfl rfl rfl) rfl (fun u129 => (BsOk.h (SubM.nil) (SubL.nil) (BsOk.b rfl (BsOk.h (SubM.cons 1 rfl (SubM.nil)) (SubL.nil) BsOk.z)))) fun u129 => ?_
      refine JR.loud rfl rfl rfl (Loud.alloc (cs := [Value.slice none 0 0, Value.slice none 0 0, Value.slice none 0 0, Value.slice none 0 0]) rfl rfl) rfl (fun b130 => (BsOk.h (SubM.nil) (SubL.nil) (BsOk.h (SubM.nil) (SubL.nil) (BsOk.h (SubM.cons 2 rfl (SubM.nil)) (SubL.nil) BsOk.z)))) fun b130 => ?_
      refine JR.loud rfl rfl rfl (Loud.makeS (e := EI64) (0 : Int) rfl rfl rfl rfl hc111 rfl rfl rfl) rfl (fun u131 => (BsOk.b rfl (BsOk.h (SubM.nil) (SubL.nil) (BsOk.h (SubM.cons 3 rfl (SubM.nil)) (SubL.nil) BsOk.z)))) fun u131 => ?_
      refine JR.know (Know.one ((Lent.ar (Lent.res 2 rfl) FI64))) fun ho132 => ?_
      refine JR.know (Know.one ((Lent.ar (Lent.res 0 rfl) FI64))) fun ho133 => ?_
      refine JR.qt rfl (SubM.nil) (SubL.nil) (Y.bld3 (r := Value.agg #[v0, v1, u129, u131]) rfl rfl rfl (by intro w; simp [Instr.build, Instr.fill, cells_intV, cells_boolV, cells_sliceV, cells_ptrV, cells_strV, cells_funcV, cells_agg, one_cells ho132, one_cells ho133])) (HistOk.b rfl (HistOk.h (SubM.nil) (SubL.nil) (HistOk.b rfl HistOk.z))) ?_
      refine JR.tailD 7 rfl rfl ?_
      refine J.know (Know.one ((Lent.fact 0 rfl))) fun ho134 => ?_
      refine J.know (Know.one (Lent.sl (Lent.fact 1 rfl))) fun ho135 => ?_
      refine J.know (Know.one ((Lent.ar (Lent.res 2 rfl) FI64))) fun ho136 => ?_
      refine J.know (Know.one ((Lent.ar (Lent.res 0 rfl) FI64))) fun ho137 => ?_
      refine J.storeAll 1 (vs := [v0, v1, u129, u131]) rfl rfl (all1 ho134 (all1 ho135 (all1 ho136 (all1 ho137 rfl)))) rfl rfl rfl ?_
      refine J.done ?_
      refine J.thenN ?_
      exact J.meetI (()) (b130, u129, u131) h (by repeat (first | exact SubF.nil | refine SubF.cons rfl ?_)) (SubM.cons 1 rfl (SubM.cons 0 rfl (SubM.cons 0 rfl (SubM.cons 0 rfl (SubM.nil))))) (LentAll.refl _ _)
    · refine JR.qt rfl (SubM.refl _) (SubL.nil) (Y.loadBAll 0 rfl rfl rfl rfl) HistOk.z ?_
      refine JR.qt rfl (SubM.nil) (SubL.nil) (Y.move rfl) HistOk.z ?_
      refine JR.qt rfl (SubM.nil) (SubL.nil) (Y.move rfl) HistOk.z ?_
      refine JR.loud rfl rfl rfl (Loud.makeS (e := EI64) (0 : Int) rfl rfl rfl rfl hc111 rfl rfl rfl) rfl (fun u138 => (BsOk.b rfl (BsOk.h (SubM.nil) (SubL.nil) (BsOk.h (SubM.cons 1 rfl (SubM.nil)) (SubL.nil) BsOk.z)))) fun u138 => ?_
      refine JR.loud rfl rfl rfl (Loud.makeS (e := EI64) (0 : Int) rfl rfl rfl rfl hc109 rfl rfl rfl) rfl (fun u139 => (BsOk.h (SubM.nil) (SubL.nil) (BsOk.b rfl (BsOk.h (SubM.cons 2 rfl (SubM.nil)) (SubL.nil) BsOk.z)))) fun u139 => ?_
      refine JR.know (Know.one ((Lent.ar (Lent.res 0 rfl) FI64))) fun ho140 => ?_
      refine JR.know (Know.one ((Lent.ar (Lent.res 1 rfl) FI64))) fun ho141 => ?_
      refine JR.qt rfl (SubM.nil) (SubL.nil) (Y.bld3 (r := Value.agg #[v0, v1, u139, u138]) rfl rfl rfl (by intro w; simp [Instr.build, Instr.fill, cells_intV, cells_boolV, cells_sliceV, cells_ptrV, cells_strV, cells_funcV, cells_agg, one_cells ho140, one_cells ho141])) (HistOk.b rfl (HistOk.b rfl HistOk.z)) ?_
      refine JR.loud rfl rfl rfl (Loud.alloc (cs := [Value.slice none 0 0, Value.slice none 0 0, Value.slice none 0 0, Value.slice none 0 0]) rfl rfl) rfl (fun b142 => (BsOk.h (SubM.nil) (SubL.nil) (BsOk.h (SubM.nil) (SubL.nil) (BsOk.h (SubM.nil) (SubL.nil) (BsOk.h (SubM.cons 3 rfl (SubM.nil)) (SubL.nil) BsOk.z))))) fun b142 => ?_
      refine JR.tailD 7 rfl rfl ?_
      refine J.know (Know.one ((Lent.fact 0 rfl))) fun ho143 => ?_
      refine J.know (Know.one (Lent.sl (Lent.fact 1 rfl))) fun ho144 => ?_
      refine J.know (Know.one ((Lent.ar (Lent.res 1 rfl) FI64))) fun ho145 => ?_
      refine J.know (Know.one ((Lent.ar (Lent.res 2 rfl) FI64))) fun ho146 => ?_
      refine J.storeAll 0 (vs := [v0, v1, u139, u138]) rfl rfl (all1 ho143 (all1 ho144 (all1 ho145 (all1 ho146 rfl)))) rfl rfl rfl ?_
      refine J.done ?_
      refine J.thenN ?_
      exact J.meetI (()) (b142, u139, u138) h (by repeat (first | exact SubF.nil | refine SubF.cons rfl ?_)) (SubM.cons 0 rfl (SubM.cons 1 rfl (SubM.cons 0 rfl (SubM.cons 0 rfl (SubM.nil))))) (LentAll.refl _ _)
    · refine JR.qt rfl (SubM.refl _) (SubL.nil) (Y.loadBAll 0 rfl rfl rfl rfl) HistOk.z ?_
      refine JR.qt rfl (SubM.nil) (SubL.nil) (Y.move rfl) HistOk.z ?_
      refine JR.qt rfl (SubM.nil) (SubL.nil) (Y.move rfl) HistOk.z ?_
      refine JR.loud rfl rfl rfl (Loud.makeS (e := EI64) (0 : Int) rfl rfl rfl rfl hc111 rfl rfl rfl) rfl (fun u147 => (BsOk.b rfl (BsOk.h (SubM.nil) (SubL.nil) (BsOk.h (SubM.cons 1 rfl (SubM.nil)) (SubL.nil) BsOk.z)))) fun u147 => ?_
      refine JR.loud rfl rfl rfl (Loud.alloc (cs := [Value.slice none 0 0, Value.slice none 0 0, Value.slice none 0 0, Value.slice none 0 0]) rfl rfl) rfl (fun b148 => (BsOk.h (SubM.nil) (SubL.nil) (BsOk.h (SubM.nil) (SubL.nil) (BsOk.h (SubM.cons 2 rfl (SubM.nil)) (SubL.nil) BsOk.z)))) fun b148 => ?_
      refine JR.loud rfl rfl rfl (Loud.makeS (e := EI64) (0 : Int) rfl rfl rfl rfl hc109 rfl rfl rfl) rfl (fun u149 => (BsOk.h (SubM.nil) (SubL.nil) (BsOk.b rfl (BsOk.h (SubM.cons 3 rfl (SubM.nil)) (SubL.nil) BsOk.z)))) fun u149 => ?_
      refine JR.know (Know.one ((Lent.ar (Lent.res 0 rfl) FI64))) fun ho150 => ?_
      refine JR.know (Know.one ((Lent.ar (Lent.res 2 rfl) FI64))) fun ho151 => ?_
      refine JR.qt rfl (SubM.nil) (SubL.nil) (Y.bld3 (r := Value.agg #[v0, v1, u149, u147]) rfl rfl rfl (by intro w; simp [Instr.build, Instr.fill, cells_intV, cells_boolV, cells_sliceV, cells_ptrV, cells_strV, cells_funcV, cells_agg, one_cells ho150, one_cells ho151])) (HistOk.b rfl (HistOk.h (SubM.nil) (SubL.nil) (HistOk.b rfl HistOk.z))) ?_
      refine JR.tailD 7 rfl rfl ?_
      refine J.know (Know.one ((Lent.fact 0 rfl))) fun ho152 => ?_
      refine J.know (Know.one (Lent.sl (Lent.fact 1 rfl))) fun ho153 => ?_
      refine J.know (Know.one ((Lent.ar (Lent.res 0 rfl) FI64))) fun ho154 => ?_
      refine J.know (Know.one ((Lent.ar (Lent.res 2 rfl) FI64))) fun ho155 => ?_
      refine J.storeAll 1 (vs := [v0, v1, u149, u147]) rfl rfl (all1 ho152 (all1 ho153 (all1 ho154 (all1 ho155 rfl)))) rfl rfl rfl ?_
      refine J.done ?_
      refine J.thenN ?_
      exact J.meetI (()) (b148, u149, u147) h (by repeat (first | exact SubF.nil | refine SubF.cons rfl ?_)) (SubM.cons 1 rfl (SubM.cons 1 rfl (SubM.cons 0 rfl (SubM.cons 0 rfl (SubM.nil))))) (LentAll.refl _ _)
    · refine JR.qt rfl (SubM.refl _) (SubL.nil) (Y.loadBAll 0 rfl rfl rfl rfl) HistOk.z ?_
      refine JR.qt rfl (SubM.nil) (SubL.nil) (Y.move rfl) HistOk.z ?_
      refine JR.qt rfl (SubM.nil) (SubL.nil) (Y.move rfl) HistOk.z ?_
      refine JR.loud rfl rfl rfl (Loud.alloc (cs := [Value.slice none 0 0, Value.slice none 0 0, Value.slice none 0 0, Value.slice none 0 0]) rfl rfl) rfl (fun b156 => (BsOk.h (SubM.nil) (SubL.nil) (BsOk.h (SubM.nil) (SubL.nil) (BsOk.h (SubM.cons 1 rfl (SubM.nil)) (SubL.nil) BsOk.z)))) fun b156 => ?_
      refine JR.loud rfl rfl rfl (Loud.makeS (e := EI64) (0 : Int) rfl rfl rfl rfl hc109 rfl rfl rfl) rfl (fun u157 => (BsOk.h (SubM.nil) (SubL.nil) (BsOk.b rfl (BsOk.h (SubM.cons 2 rfl (SubM.nil)) (SubL.nil) BsOk.z)))) fun u157 => ?_
      refine JR.loud rfl rfl rfl (Loud.makeS (e := EI64) (0 : Int) rfl rfl rfl rfl hc111 rfl rfl rfl) rfl (fun u158 => (BsOk.b rfl (BsOk.h (SubM.nil) (SubL.nil) (BsOk.h (SubM.cons 3 rfl (SubM.nil)) (SubL.nil) BsOk.z)))) fun u158 => ?_
      refine JR.know (Know.one ((Lent.ar (Lent.res 1 rfl) FI64))) fun ho159 => ?_
      refine JR.know (Know.one ((Lent.ar (Lent.res 0 rfl) FI64))) fun ho160 => ?_
      refine JR.qt rfl (SubM.nil) (SubL.nil) (Y.bld3 (r := Value.agg #[v0, v1, u157, u158]) rfl rfl rfl (by intro w; simp [Instr.build, Instr.fill, cells_intV, cells_boolV, cells_sliceV, cells_ptrV, cells_strV, cells_funcV, cells_agg, one_cells ho159, one_cells ho160])) (HistOk.b rfl (HistOk.b rfl (HistOk.h (SubM.nil) (SubL.nil) HistOk.z))) ?_
      refine JR.tailD 7 rfl rfl ?_
      refine J.know (Know.one ((Lent.fact 0 rfl))) fun ho161 => ?_
      refine J.know (Know.one (Lent.sl (Lent.fact 1 rfl))) fun ho162 => ?_
      refine J.know (Know.one ((Lent.ar (Lent.res 1 rfl) FI64))) fun ho163 => ?_
      refine J.know (Know.one ((Lent.ar (Lent.res 0 rfl) FI64))) fun ho164 => ?_
      refine J.storeAll 2 (vs := [v0, v1, u157, u158]) rfl rfl (all1 ho161 (all1 ho162 (all1 ho163 (all1 ho164 rfl)))) rfl rfl rfl ?_
      refine J.done ?_
      refine J.thenN ?_
      exact J.meetI (()) (b156, u157, u158) h (by repeat (first | exact SubF.nil | refine SubF.cons rfl ?_)) (SubM.cons 2 rfl (SubM.cons 0 rfl (SubM.cons 0 rfl (SubM.cons 0 rfl (SubM.nil))))) (LentAll.refl _ _)
    · refine JR.qt rfl (SubM.refl _) (SubL.nil) (Y.loadBAll 0 rfl rfl rfl rfl) HistOk.z ?_
      refine JR.qt rfl (SubM.nil) (SubL.nil) (Y.move rfl) HistOk.z ?_
      refine JR.qt rfl (SubM.nil) (SubL.nil) (Y.move rfl) HistOk.z ?_
      refine JR.loud rfl rfl rfl (Loud.alloc (cs := [Value.slice none 0 0, Value.slice none 0 0, Value.slice none 0 0, Value.slice none 0 0]) rfl rfl) rfl (fun b165 => (BsOk.h (SubM.nil) (SubL.nil) (BsOk.h (SubM.nil) (SubL.nil) (BsOk.h (SubM.cons 1 rfl (SubM.nil)) (SubL.nil) BsOk.z)))) fun b165 => ?_
      refine JR.loud rfl rfl rfl (Loud.makeS (e := EI64) (0 : Int) rfl rfl rfl rfl hc111 rfl rfl rfl) rfl (fun u166 => (BsOk.b rfl (BsOk.h (SubM.nil) (SubL.nil) (BsOk.h (SubM.cons 2 rfl (SubM.nil)) (SubL.nil) BsOk.z)))) fun u166 => ?_
      refine JR.loud rfl rfl rfl (Loud.makeS (e := EI64) (0 : Int) rfl rfl rfl rfl hc109 rfl rfl rfl) rfl (fun u167 => (BsOk.h (SubM.nil) (SubL.nil) (BsOk.b rfl (BsOk.h (SubM.cons 3 rfl (SubM.nil)) (SubL.nil) BsOk.z)))) fun u167 => ?_
      refine JR.know (Know.one ((Lent.ar (Lent.res 0 rfl) FI64))) fun ho168 => ?_
      refine JR.know (Know.one ((Lent.ar (Lent.res 1 rfl) FI64))) fun ho169 => ?_
      refine JR.qt rfl (SubM.nil) (SubL.nil) (Y.bld3 (r := Value.agg #[v0, v1, u167, u166]) rfl rfl rfl (by intro w; simp [Instr.build, Instr.fill, cells_intV, cells_boolV, cells_sliceV, cells_ptrV, cells_strV, cells_funcV, cells_agg, one_cells ho168, one_cells ho169])) (HistOk.b rfl (HistOk.b rfl (HistOk.h (SubM.nil) (SubL.nil) HistOk.z))) ?_
      refine JR.tailD 7 rfl rfl ?_
      refine J.know (Know.one ((Lent.fact 0 rfl))) fun ho170 => ?_
      refine J.know (Know.one (Lent.sl (Lent.fact 1 rfl))) fun ho171 => ?_
      refine J.know (Know.one ((Lent.ar (Lent.res 0 rfl) FI64))) fun ho172 => ?_
      refine J.know (Know.one ((Lent.ar (Lent.res 1 rfl) FI64))) fun ho173 => ?_
      refine J.storeAll 2 (vs := [v0, v1, u167, u166]) rfl rfl (all1 ho170 (all1 ho171 (all1 ho172 (all1 ho173 rfl)))) rfl rfl rfl ?_
      refine J.done ?_
      refine J.thenN ?_
      exact J.meetI (()) (b165, u167, u166) h (by repeat (first | exact SubF.nil | refine SubF.cons rfl ?_)) (SubM.cons 2 rfl (SubM.cons 1 rfl (SubM.cons 0 rfl (SubM.cons 0 rfl (SubM.nil))))) (LentAll.refl _ _)
  · clear h
    intro a5 b6 h
    unfold labels_cover_k1 at h
    refine J.seq ?_
    refine J.midI (A := List (Int) × List (Int)) (B := Unit) (fun a9 => labels_cover_k2 fuel p0 p1 a9 = some r) (fun a9 b10 => [(6, Value.int .i64 (List.length p1 : Int)), (7, Value.pointer (some ⟨b6.1, 0, none⟩))]) (fun a9 b10 => [Blk b6.1 [v0, v1, b6.2.1, b6.2.2] 75, Ar EI64 b6.2.2 a9.1, Ar EI64 b6.2.1 a9.2]) (fun a9 b10 => [Sl RI64 v0 p0.1, S2 RI64I64p v1 z2 p0.2, Sl RI64 v3 p1]) ?_ ?_
    · refine J.seq ?_
      refine J.region ?_
      refine J.quiet (Y.move rfl) rfl ?_
      refine J.quiet (Y.lenS rfl (Lent.fact 2 rfl) rfl) rfl ?_
      refine J.quiet (Y.move rfl) rfl ?_
      refine J.done ?_
      refine J.thenN ?_
      refine J.block ?_
      refine J.loopI (A := Int × List (Int) × List (Int)) (B := Unit) (labels_cover_s5 fuel p0 p1) (fun a95 b96 => [(2, Value.pointer (some ⟨b1, 0, none⟩)), (6, Value.int .i64 (List.length p1 : Int)), (7, Value.pointer (some ⟨b6.1, 0, none⟩)), (26, v3), (27, Value.int .i64 (List.length p1 : Int)), (28, Value.int .i64 (a95.1))]) (fun a95 b96 => [Blk b6.1 [v0, v1, b6.2.1, b6.2.2] 75, Ar EI64 b6.2.2 a95.2.1, Ar EI64 b6.2.1 a95.2.2, Blk b1 [v0, v1] 29]) (fun a95 b96 => [Sl RI64 v0 p0.1, S2 RI64I64p v1 z2 p0.2, Sl RI64 v3 p1]) ((0 : Int), (List.replicate (Int.toNat (List.length p1 : Int)) (0 : Int)), (List.replicate (Int.toNat (List.length p1 : Int)) (0 : Int))) (()) h (by repeat (first | exact SubF.nil | refine SubF.cons rfl ?_)) (SubM.refl _) (LentAll.refl _ _) ?_
      clear h
      intro k97 a95 b96 h
      unfold labels_cover_s5 at h
      refine J.seq ?_
      refine J.region ?_
      refine J.quiet (Y.lss rfl rfl) rfl ?_
      refine J.done ?_
      refine J.thenN ?_
      refine J.seq ?_
      refine J.condD (by exact rfl) (fun hp98 => ?_) (fun hp98 => ?_)
      · replace h := ifP hp98 h
        refine J.skip ?_
        refine J.thenN ?_
        refine J.seq ?_
        refine J.midI (A := List (Int)) (B := Unit) (fun a100 => labels_cover_k10 a95 (iter (labels_cover_s5 fuel p0 p1) k97) a100 = some r) (fun a100 b101 => [(2, Value.pointer (some ⟨b1, 0, none⟩)), (6, Value.int .i64 (List.length p1 : Int)), (7, Value.pointer (some ⟨b6.1, 0, none⟩)), (26, v3), (27, Value.int .i64 (List.length p1 : Int)), (28, Value.int .i64 (a95.1))]) (fun a100 b101 => [Blk b6.1 [v0, v1, b6.2.1, b6.2.2] 75, Ar EI64 b6.2.2 (List.set a95.2.1 (Int.toNat a95.1) (-1 : Int)), Ar EI64 b6.2.1 a100, Blk b1 [v0, v1] 29]) (fun a100 b101 => [Sl RI64 v0 p0.1, S2 RI64I64p v1 z2 p0.2, Sl RI64 v3 p1]) ?_ ?_
        · refine J.block ?_
          refine J.seq ?_
          refine J.region ?_
          refine J.quiet (Y.move rfl) rfl ?_
          replace h := ck_some h; obtain ⟨hc102, h⟩ := h
          refine J.quiet (Y.indexS rfl rfl (Lent.fact 2 rfl) rfl rfl hc102) rfl ?_
          refine J.quiet (Y.loadS0 rfl (Lent.fact 2 rfl) rfl rfl rfl RI64c0 hc102) rfl ?_
          refine J.quiet (Y.assign rfl) rfl ?_
          refine J.quiet (Y.assign rfl) rfl ?_
          refine J.done ?_
          refine J.thenN ?_
          refine J.seq ?_
          refine J.region ?_
          refine J.quiet (Y.fieldB rfl rfl rfl rfl rfl) rfl ?_
          refine J.quiet (Y.loadB 0 rfl rfl rfl rfl rfl) rfl ?_
          refine J.quiet (Y.move rfl) rfl ?_
          replace h := ck_some h; obtain ⟨hc103, h⟩ := h
          refine J.quiet (Y.indexS rfl rfl (Lent.ar (Lent.res 1 rfl) FI64) rfl rfl hc103) rfl ?_
          refine J.storeS 1 (-1 : Int) hc103 rfl rfl rfl rfl rfl rfl rfl ?_
          refine J.done ?_
          refine J.thenN ?_
          refine J.seq ?_
          refine J.region ?_
          refine J.quiet (Y.fieldB rfl rfl rfl rfl rfl) rfl ?_
          refine J.quiet (Y.loadB 0 rfl rfl rfl rfl rfl) rfl ?_
          refine J.quiet (Y.move rfl) rfl ?_
          replace h := ck_some h; obtain ⟨hc104, h⟩ := h
          refine J.quiet (Y.indexS rfl rfl (Lent.ar (Lent.res 2 rfl) FI64) rfl rfl hc104) rfl ?_
          refine J.storeS 2 (-1 : Int) hc104 rfl rfl rfl rfl rfl rfl rfl ?_
          refine J.done ?_
          refine J.thenN ?_
          refine J.seq ?_
          refine J.region ?_
          refine J.quiet (Y.move rfl) rfl ?_
          refine J.quiet (Y.geq rfl rfl) rfl ?_
          refine J.done ?_
          refine J.thenN ?_
          refine J.condD (by exact rfl) (fun hp105 => ?_) (fun hp105 => ?_)
          · replace h := ifP hp105 h
            refine JR.start [0, 1, 0, 0, 8, 0, 56, 120, 0, 504, 1016, 2040, 4095, 8191] 12 mixedOrders (by decide +kernel) ?_
            refine JR.open (by exact rfl) ?_
            refine JR.qt rfl (SubM.nil) (SubL.nil) (Y.fieldB rfl rfl rfl rfl rfl) HistOk.z ?_
            refine JR.qt rfl (SubM.cons 0 rfl (SubM.nil)) (SubL.nil) (Y.loadB 0 rfl rfl rfl rfl rfl) HistOk.z ?_
            refine JR.qt rfl (SubM.nil) (SubL.nil) (Y.move rfl) HistOk.z ?_
            refine JR.qt rfl (SubM.nil) (SubL.nil) (Y.fieldB rfl rfl rfl rfl rfl) HistOk.z ?_
            refine JR.qt rfl (SubM.cons 3 rfl (SubM.nil)) (SubL.nil) (Y.loadB 0 rfl rfl rfl rfl rfl) HistOk.z ?_
            refine JR.qt rfl (SubM.nil) (SubL.nil) (Y.move rfl) HistOk.z ?_
            replace h := ck_some h; obtain ⟨hc106, h⟩ := h
            refine JR.qt rfl (SubM.nil) (SubL.cons (List.mem_of_getElem? (i := 1) rfl) (SubL.nil)) (Y.indexN rfl rfl (Lent.fact 0 rfl) rfl rfl hc106) HistOk.z ?_
            refine JR.qt rfl (SubM.nil) (SubL.cons (List.mem_of_getElem? (i := 1) rfl) (SubL.nil)) (Y.loadRow rfl (Lent.fact 0 rfl) rfl rfl hc106) HistOk.z ?_
            refine JR.qt rfl (SubM.nil) (SubL.nil) (Y.move rfl) HistOk.z ?_
            replace h := ck_some h; obtain ⟨hc107, h⟩ := h
            refine JR.qt rfl (SubM.nil) (SubL.cons (List.mem_of_getElem? (i := 1) rfl) (SubL.nil)) (Y.indexS rfl rfl (Lent.el (Lent.fact 0 rfl) hc106.1 hc106.2) rfl rfl hc107) HistOk.z ?_
            refine JR.qt rfl (SubM.nil) (SubL.nil) (Y.fieldEl rfl rfl rfl rfl rfl) HistOk.z ?_
            refine JR.qt rfl (SubM.nil) (SubL.cons (List.mem_of_getElem? (i := 1) rfl) (SubL.nil)) (Y.loadS rfl (Lent.el (Lent.fact 0 rfl) hc106.1 hc106.2) rfl rfl rfl RI64I64pc0 hc107) HistOk.z ?_
            refine JR.tailD 12 rfl rfl ?_
            replace h := ck_some h; obtain ⟨hc108, h⟩ := h
            refine J.quiet (Y.indexS rfl rfl (Lent.ar (Lent.res 2 rfl) FI64) rfl rfl hc108) rfl ?_
            refine J.storeS 2 ((at' (at' p0.2 a95.1) (at' p1 a95.1)).1) hc108 rfl rfl rfl rfl rfl rfl rfl ?_
            refine J.done ?_
            refine J.inN ?_
            refine J.thenN ?_
            exact J.meetI (List.set (List.set a95.2.2 (Int.toNat a95.1) (-1 : Int)) (Int.toNat a95.1) ((at' (at' p0.2 a95.1) (at' p1 a95.1)).1)) (()) h (by repeat (first | exact SubF.nil | refine SubF.cons rfl ?_)) (SubM.refl _) (LentAll.refl _ _)
          · replace h := ifN hp105 h
            refine J.skip ?_
            refine J.inN ?_
            refine J.thenN ?_
            exact J.meetI (List.set a95.2.2 (Int.toNat a95.1) (-1 : Int)) (()) h (by repeat (first | exact SubF.nil | refine SubF.cons rfl ?_)) (SubM.refl _) (LentAll.refl _ _)
        · clear h
          intro a100 b101 h
          unfold labels_cover_k10 at h
          refine J.region ?_
          refine J.quiet (Y.addW rfl rfl) rfl ?_
          refine J.quiet (Y.move rfl) rfl ?_
          refine J.done ?_
          refine J.thenN ?_
          exact J.againI ((wI .i64 (a95.1 + (1 : Int))), (List.set a95.2.1 (Int.toNat a95.1) (-1 : Int)), a100) (()) h (by repeat (first | exact SubF.nil | refine SubF.cons rfl ?_)) (SubM.refl _) (LentAll.refl _ _)
      · replace h := ifN hp98 h
        refine J.exit ?_
        refine J.thenX ?_
        refine J.thenX ?_
        refine J.inX ?_
        refine J.thenN ?_
        exact J.meetI (a95.2.1, a95.2.2) (()) h (by repeat (first | exact SubF.nil | refine SubF.cons rfl ?_)) (SubM.cons 0 rfl (SubM.cons 0 rfl (SubM.cons 0 rfl (SubM.nil)))) (LentAll.refl _ _)
    · clear h
      intro a9 b10 h
      unfold labels_cover_k2 at h
      refine J.seq ?_
      refine J.midI (A := Unit) (B := Unit) (fun a11 => labels_cover_k3 fuel p0 p1 a9 a11 = some r) (fun a11 b12 => [(6, Value.int .i64 (List.length p1 : Int)), (7, Value.pointer (some ⟨b6.1, 0, none⟩))]) (fun a11 b12 => [Blk b6.1 [v0, v1, b6.2.1, b6.2.2] 75, Ar EI64 b6.2.2 a9.1, Ar EI64 b6.2.1 a9.2]) (fun a11 b12 => [Sl RI64 v0 p0.1, S2 RI64I64p v1 z2 p0.2, Sl RI64 v3 p1]) ?_ ?_
      · refine J.seq ?_
        refine J.region ?_
        refine J.quiet (Y.fieldB rfl rfl rfl rfl rfl) rfl ?_
        refine J.quiet (Y.loadB 0 rfl rfl rfl rfl rfl) rfl ?_
        refine J.quiet (Y.lenS rfl (Lent.ar (Lent.res 2 rfl) FI64) rfl) rfl ?_
        refine J.quiet (Y.move rfl) rfl ?_
        refine J.done ?_
        refine J.thenN ?_
        refine J.block ?_
        refine J.loopI (A := Int) (B := Unit) (labels_cover_s4 fuel p0 p1 a9) (fun a80 b81 => [(6, Value.int .i64 (List.length p1 : Int)), (7, Value.pointer (some ⟨b6.1, 0, none⟩)), (58, b6.2.1), (59, Value.int .i64 (List.length a9.2 : Int)), (60, Value.int .i64 (a80))]) (fun a80 b81 => [Blk b6.1 [v0, v1, b6.2.1, b6.2.2] 75, Ar EI64 b6.2.2 a9.1, Ar EI64 b6.2.1 a9.2]) (fun a80 b81 => [Sl RI64 v0 p0.1, S2 RI64I64p v1 z2 p0.2, Sl RI64 v3 p1]) (0 : Int) (()) h (by repeat (first | exact SubF.nil | refine SubF.cons rfl ?_)) (SubM.refl _) (LentAll.refl _ _) ?_
        clear h
        intro k82 a80 b81 h
        unfold labels_cover_s4 at h
        refine J.seq ?_
        refine J.region ?_
        refine J.quiet (Y.lss rfl rfl) rfl ?_
        refine J.done ?_
        refine J.thenN ?_
        refine J.seq ?_
        refine J.condD (by exact rfl) (fun hp83 => ?_) (fun hp83 => ?_)
        · replace h := ifP hp83 h
          refine J.skip ?_
          refine J.thenN ?_
          refine J.seq ?_
          refine J.block ?_
          refine J.seq ?_
          refine J.region ?_
          refine J.quiet (Y.move rfl) rfl ?_
          replace h := ck_some h; obtain ⟨hc84, h⟩ := h
          refine J.quiet (Y.indexS rfl rfl (Lent.ar (Lent.res 2 rfl) FI64) rfl rfl hc84) rfl ?_
          refine J.quiet (Y.loadS0 rfl (Lent.ar (Lent.res 2 rfl) FI64) rfl rfl rfl RI64c0 hc84) rfl ?_
          refine J.quiet (Y.assign rfl) rfl ?_
          refine J.quiet (Y.assign rfl) rfl ?_
          refine J.done ?_
          refine J.thenN ?_
          refine J.seq ?_
          refine J.midI (A := Bool) (B := Unit) (fun a86 => labels_cover_k9 a80 (iter (labels_cover_s4 fuel p0 p1 a9) k82) a86 = some r) (fun a86 b87 => [(6, Value.int .i64 (List.length p1 : Int)), (7, Value.pointer (some ⟨b6.1, 0, none⟩)), (58, b6.2.1), (59, Value.int .i64 (List.length a9.2 : Int)), (60, Value.int .i64 (a80)), (75, Value.bool (a86))]) (fun a86 b87 => [Blk b6.1 [v0, v1, b6.2.1, b6.2.2] 75, Ar EI64 b6.2.2 a9.1, Ar EI64 b6.2.1 a9.2]) (fun a86 b87 => [Sl RI64 v0 p0.1, S2 RI64I64p v1 z2 p0.2, Sl RI64 v3 p1]) ?_ ?_
          · refine J.region ?_
            refine J.quiet (Y.move rfl) rfl ?_
            refine J.quiet (Y.geq rfl rfl) rfl ?_
            refine J.quiet (Y.move rfl) rfl ?_
            refine J.guardD (by exact rfl) (by exact rfl) (fun hp89 => ?_) (fun hp89 => ?_)
            · replace h := ifP hp89 h
              refine J.guardY rfl (Y.fieldB rfl rfl rfl rfl rfl) rfl ?_
              refine J.guardY rfl (Y.loadB 0 rfl rfl rfl rfl rfl) rfl ?_
              refine J.guardY rfl (Y.move rfl) rfl ?_
              replace h := ck_some h; obtain ⟨hc90, h⟩ := h
              refine J.guardY rfl (Y.indexS rfl rfl (Lent.ar (Lent.res 2 rfl) FI64) rfl rfl hc90) rfl ?_
              refine J.guardY rfl (Y.loadS0 rfl (Lent.ar (Lent.res 2 rfl) FI64) rfl rfl rfl RI64c0 hc90) rfl ?_
              refine J.guardY rfl (Y.move rfl) rfl ?_
              refine J.guardY rfl (Y.neq rfl rfl) rfl ?_
              refine J.quiet (Y.pickT rfl rfl) rfl ?_
              refine J.done ?_
              refine J.thenN ?_
              exact J.meetI (decide ((at' a9.2 (at' a9.2 a80)) ≠ a80)) (()) h (by repeat (first | exact SubF.nil | refine SubF.cons rfl ?_)) (SubM.refl _) (LentAll.refl _ _)
            · replace h := ifN hp89 h
              refine J.guardN rfl rfl rfl ?_
              refine J.guardN rfl rfl rfl ?_
              refine J.guardN rfl rfl rfl ?_
              refine J.guardN rfl rfl rfl ?_
              refine J.guardN rfl rfl rfl ?_
              refine J.guardN rfl rfl rfl ?_
              refine J.guardN rfl rfl rfl ?_
              refine J.quiet (Y.pickF rfl rfl) rfl ?_
              refine J.done ?_
              refine J.thenN ?_
              exact J.meetI (false) (()) h (by repeat (first | exact SubF.nil | refine SubF.cons rfl ?_)) (SubM.refl _) (LentAll.refl _ _)
          · clear h
            intro a86 b87 h
            unfold labels_cover_k9 at h
            refine J.cond (by exact rfl) (fun hp88 => ?_) (fun hp88 => ?_)
            · replace h := ifP hp88 h
              refine J.seq ?_
              refine J.region ?_
              refine J.quiet (Y.assign rfl) rfl ?_
              refine J.quiet (Y.assign rfl) rfl ?_
              refine J.done ?_
              refine J.thenN ?_
              refine J.ret ?_
              refine J.inR ?_
              refine J.thenR ?_
              refine J.thenR ?_
              refine J.inR ?_
              refine J.thenR ?_
              refine J.stp (Stp.nilAr EI64I64p) ?_
              obtain rfl := Option.some.inj h
              exact J.retG2 (Value.slice none 0 0) rfl rfl (RV.tmp rfl) (RV.tmp rfl) (SubM.cons 0 rfl (SubM.nil)) LentAll.nil
            · replace h := ifBN hp88 h
              refine J.skip ?_
              refine J.inN ?_
              refine J.thenN ?_
              refine J.region ?_
              refine J.quiet (Y.addW rfl rfl) rfl ?_
              refine J.quiet (Y.move rfl) rfl ?_
              refine J.done ?_
              refine J.thenN ?_
              exact J.againI (wI .i64 (a80 + (1 : Int))) (()) h (by repeat (first | exact SubF.nil | refine SubF.cons rfl ?_)) (SubM.refl _) (LentAll.refl _ _)
        · replace h := ifN hp83 h
          refine J.exit ?_
          refine J.thenX ?_
          refine J.thenX ?_
          refine J.inX ?_
          refine J.thenN ?_
          exact J.meetI (()) (()) h (by repeat (first | exact SubF.nil | refine SubF.cons rfl ?_)) (SubM.refl _) (LentAll.refl _ _)
      · clear h
        intro a11 b12 h
        unfold labels_cover_k3 at h
        refine J.seq ?_
        refine J.midI (A := List (Int)) (B := Value) (fun a15 => labels_cover_k4 fuel p0 p1 a9 a15 = some r) (fun a15 b16 => [(6, Value.int .i64 (List.length p1 : Int)), (7, Value.pointer (some ⟨b6.1, 0, none⟩))]) (fun a15 b16 => [Blk b6.1 [v0, v1, b6.2.1, b16] 75, Ar EI64 b16 a15, Ar EI64 b6.2.1 a9.2]) (fun a15 b16 => [Sl RI64 v0 p0.1, S2 RI64I64p v1 z2 p0.2, Sl RI64 v3 p1]) ?_ ?_
        · refine J.seq ?_
          refine J.region ?_
          refine J.quiet (Y.fieldB rfl rfl rfl rfl rfl) rfl ?_
          refine J.quiet (Y.loadB 0 rfl rfl rfl rfl rfl) rfl ?_
          refine J.quiet (Y.lenS rfl (Lent.ar (Lent.res 2 rfl) FI64) rfl) rfl ?_
          refine J.quiet (Y.move rfl) rfl ?_
          refine J.done ?_
          refine J.thenN ?_
          refine J.block ?_
          refine J.loopI (A := Int × List (Int)) (B := Value) (labels_cover_s3 fuel p0 p1 a9) (fun a63 b64 => [(6, Value.int .i64 (List.length p1 : Int)), (7, Value.pointer (some ⟨b6.1, 0, none⟩)), (78, b6.2.1), (79, Value.int .i64 (List.length a9.2 : Int)), (80, Value.int .i64 (a63.1))]) (fun a63 b64 => [Blk b6.1 [v0, v1, b6.2.1, b64] 75, Ar EI64 b64 a63.2, Ar EI64 b6.2.1 a9.2]) (fun a63 b64 => [Sl RI64 v0 p0.1, S2 RI64I64p v1 z2 p0.2, Sl RI64 v3 p1]) ((0 : Int), a9.1) (b6.2.2) h (by repeat (first | exact SubF.nil | refine SubF.cons rfl ?_)) (SubM.refl _) (LentAll.refl _ _) ?_
          clear h
          intro k65 a63 b64 h
          unfold labels_cover_s3 at h
          refine J.seq ?_
          refine J.region ?_
          refine J.quiet (Y.lss rfl rfl) rfl ?_
          refine J.done ?_
          refine J.thenN ?_
          refine J.seq ?_
          refine J.condD (by exact rfl) (fun hp66 => ?_) (fun hp66 => ?_)
          · replace h := ifP hp66 h
            refine J.skip ?_
            refine J.thenN ?_
            refine J.seq ?_
            refine J.block ?_
            refine J.seq ?_
            refine J.region ?_
            refine J.quiet (Y.move rfl) rfl ?_
            replace h := ck_some h; obtain ⟨hc67, h⟩ := h
            refine J.quiet (Y.indexS rfl rfl (Lent.ar (Lent.res 2 rfl) FI64) rfl rfl hc67) rfl ?_
            refine J.quiet (Y.loadS0 rfl (Lent.ar (Lent.res 2 rfl) FI64) rfl rfl rfl RI64c0 hc67) rfl ?_
            refine J.quiet (Y.assign rfl) rfl ?_
            refine J.quiet (Y.assign rfl) rfl ?_
            refine J.done ?_
            refine J.thenN ?_
            refine J.seq ?_
            refine J.midI (A := Bool × List (Int)) (B := Value) (fun a71 => labels_cover_k8 a63 (iter (labels_cover_s3 fuel p0 p1 a9) k65) a71 = some r) (fun a71 b72 => [(6, Value.int .i64 (List.length p1 : Int)), (7, Value.pointer (some ⟨b6.1, 0, none⟩)), (78, b6.2.1), (79, Value.int .i64 (List.length a9.2 : Int)), (80, Value.int .i64 (a63.1)), (91, Value.bool (a71.1))]) (fun a71 b72 => [Blk b6.1 [v0, v1, b6.2.1, b72] 75, Ar EI64 b72 a71.2, Ar EI64 b6.2.1 a9.2]) (fun a71 b72 => [Sl RI64 v0 p0.1, S2 RI64I64p v1 z2 p0.2, Sl RI64 v3 p1]) ?_ ?_
            · refine J.region ?_
              refine J.quiet (Y.move rfl) rfl ?_
              refine J.quiet (Y.lss rfl rfl) rfl ?_
              refine J.quiet (Y.move rfl) rfl ?_
              refine J.guardD (by exact rfl) (by exact rfl) (fun hp74 => ?_) (fun hp74 => ?_)
              · replace h := ifP hp74 h
                refine J.guardY rfl (Y.move rfl) rfl ?_
                replace h := bnd h; obtain ⟨r75, hr76, h⟩ := h
                refine J.loudG rfl (Loud.callM (Min := [Blk b6.1 [v0, v1, b6.2.1, b64] 75, Ar EI64 b64 a63.2]) (Mr := [Ar EI64 b6.2.1 a9.2]) body57 (t___labels_coverer__set fuel b6.1 v0 v1 z2 b6.2.1 b64 r75 hr76) rfl (SubM.refl _) (LentAll.cons (Lent.fact 0 rfl) (LentAll.cons (Lent.fact 1 rfl) (LentAll.cons (Lent.ar (Lent.res 0 rfl) FI64) (LentAll.nil)))) (fun _ _ => rfl)) rfl fun x77 => ?_
                refine J.guardY rfl (Y.not rfl) rfl ?_
                refine J.quiet (Y.pickT rfl rfl) rfl ?_
                refine J.done ?_
                refine J.thenN ?_
                exact J.meetI (((!r75.1)), r75.2) (x77) h (by repeat (first | exact SubF.nil | refine SubF.cons rfl ?_)) (SubM.refl _) (LentAll.refl _ _)
              · replace h := ifN hp74 h
                refine J.guardN rfl rfl rfl ?_
                refine J.guardN rfl rfl rfl ?_
                refine J.guardN rfl rfl rfl ?_
                refine J.quiet (Y.pickF rfl rfl) rfl ?_
                refine J.done ?_
                refine J.thenN ?_
                exact J.meetI (false, a63.2) (b64) h (by repeat (first | exact SubF.nil | refine SubF.cons rfl ?_)) (SubM.refl _) (LentAll.refl _ _)
            · clear h
              intro a71 b72 h
              unfold labels_cover_k8 at h
              refine J.cond (by exact rfl) (fun hp73 => ?_) (fun hp73 => ?_)
              · replace h := ifP hp73 h
                refine J.seq ?_
                refine J.region ?_
                refine J.quiet (Y.assign rfl) rfl ?_
                refine J.quiet (Y.assign rfl) rfl ?_
                refine J.done ?_
                refine J.thenN ?_
                refine J.ret ?_
                refine J.inR ?_
                refine J.thenR ?_
                refine J.thenR ?_
                refine J.inR ?_
                refine J.thenR ?_
                refine J.stp (Stp.nilAr EI64I64p) ?_
                obtain rfl := Option.some.inj h
                exact J.retG2 (Value.slice none 0 0) rfl rfl (RV.tmp rfl) (RV.tmp rfl) (SubM.cons 0 rfl (SubM.nil)) LentAll.nil
              · replace h := ifBN hp73 h
                refine J.skip ?_
                refine J.inN ?_
                refine J.thenN ?_
                refine J.region ?_
                refine J.quiet (Y.addW rfl rfl) rfl ?_
                refine J.quiet (Y.move rfl) rfl ?_
                refine J.done ?_
                refine J.thenN ?_
                exact J.againI ((wI .i64 (a63.1 + (1 : Int))), a71.2) (b72) h (by repeat (first | exact SubF.nil | refine SubF.cons rfl ?_)) (SubM.refl _) (LentAll.refl _ _)
          · replace h := ifN hp66 h
            refine J.exit ?_
            refine J.thenX ?_
            refine J.thenX ?_
            refine J.inX ?_
            refine J.thenN ?_
            exact J.meetI (a63.2) (b64) h (by repeat (first | exact SubF.nil | refine SubF.cons rfl ?_)) (SubM.refl _) (LentAll.refl _ _)
        · clear h
          intro a15 b16 h
          unfold labels_cover_k4 at h
          refine J.seq ?_
          refine J.midI (A := List (Int)) (B := Value) (fun a19 => labels_cover_k5 fuel p1 a19 = some r) (fun a19 b20 => [(6, Value.int .i64 (List.length p1 : Int)), (7, Value.pointer (some ⟨b6.1, 0, none⟩))]) (fun a19 b20 => [Blk b6.1 [v0, v1, b6.2.1, b20] 75, Ar EI64 b20 a19, Ar EI64 b6.2.1 a9.2]) (fun a19 b20 => [Sl RI64 v0 p0.1, S2 RI64I64p v1 z2 p0.2, Sl RI64 v3 p1]) ?_ ?_
          · refine J.seq ?_
            refine J.region ?_
            refine J.quiet (Y.move rfl) rfl ?_
            refine J.quiet (Y.move rfl) rfl ?_
            refine J.done ?_
            refine J.thenN ?_
            refine J.block ?_
            refine J.loopI (A := Int × List (Int)) (B := Value) (labels_cover_s2 fuel p0 p1 a9) (fun a40 b41 => [(6, Value.int .i64 (List.length p1 : Int)), (7, Value.pointer (some ⟨b6.1, 0, none⟩)), (93, Value.int .i64 (List.length p1 : Int)), (94, Value.int .i64 (a40.1))]) (fun a40 b41 => [Blk b6.1 [v0, v1, b6.2.1, b41] 75, Ar EI64 b41 a40.2, Ar EI64 b6.2.1 a9.2]) (fun a40 b41 => [Sl RI64 v0 p0.1, S2 RI64I64p v1 z2 p0.2, Sl RI64 v3 p1]) ((0 : Int), a15) (b16) h (by repeat (first | exact SubF.nil | refine SubF.cons rfl ?_)) (SubM.refl _) (LentAll.refl _ _) ?_
            clear h
            intro k42 a40 b41 h
            unfold labels_cover_s2 at h
            refine J.seq ?_
            refine J.region ?_
            refine J.quiet (Y.lss rfl rfl) rfl ?_
            refine J.done ?_
            refine J.thenN ?_
            refine J.seq ?_
            refine J.condD (by exact rfl) (fun hp43 => ?_) (fun hp43 => ?_)
            · replace h := ifP hp43 h
              refine J.skip ?_
              refine J.thenN ?_
              refine J.seq ?_
              refine J.block ?_
              refine J.seq ?_
              refine J.region ?_
              refine J.quiet (Y.move rfl) rfl ?_
              refine J.quiet (Y.assign rfl) rfl ?_
              refine J.done ?_
              refine J.thenN ?_
              refine J.seq ?_
              refine J.midI (A := Bool × List (Int)) (B := Value) (fun a47 => labels_cover_k7 a40 (iter (labels_cover_s2 fuel p0 p1 a9) k42) a47 = some r) (fun a47 b48 => [(6, Value.int .i64 (List.length p1 : Int)), (7, Value.pointer (some ⟨b6.1, 0, none⟩)), (93, Value.int .i64 (List.length p1 : Int)), (94, Value.int .i64 (a40.1)), (112, Value.bool (a47.1))]) (fun a47 b48 => [Blk b6.1 [v0, v1, b6.2.1, b48] 75, Ar EI64 b48 a47.2, Ar EI64 b6.2.1 a9.2]) (fun a47 b48 => [Sl RI64 v0 p0.1, S2 RI64I64p v1 z2 p0.2, Sl RI64 v3 p1]) ?_ ?_
              · refine J.region ?_
                refine J.quiet (Y.fieldB rfl rfl rfl rfl rfl) rfl ?_
                refine J.quiet (Y.loadB 0 rfl rfl rfl rfl rfl) rfl ?_
                refine J.quiet (Y.move rfl) rfl ?_
                replace h := ck_some h; obtain ⟨hc50, h⟩ := h
                refine J.quiet (Y.indexS rfl rfl (Lent.ar (Lent.res 1 rfl) FI64) rfl rfl hc50) rfl ?_
                refine J.quiet (Y.loadS0 rfl (Lent.ar (Lent.res 1 rfl) FI64) rfl rfl rfl RI64c0 hc50) rfl ?_
                refine J.quiet (Y.eql rfl rfl) rfl ?_
                refine J.quiet (Y.move rfl) rfl ?_
                refine J.guardD (by exact rfl) (by exact rfl) (fun hp51 => ?_) (fun hp51 => ?_)
                · replace h := ifP hp51 h
                  refine J.guardY rfl (Y.move rfl) rfl ?_
                  replace h := bnd h; obtain ⟨r52, hr53, h⟩ := h
                  refine J.loudG rfl (Loud.callM (Min := [Blk b6.1 [v0, v1, b6.2.1, b41] 75, Ar EI64 b41 a40.2]) (Mr := [Ar EI64 b6.2.1 a9.2]) body57 (t___labels_coverer__set fuel b6.1 v0 v1 z2 b6.2.1 b41 r52 hr53) rfl (SubM.refl _) (LentAll.cons (Lent.fact 0 rfl) (LentAll.cons (Lent.fact 1 rfl) (LentAll.cons (Lent.ar (Lent.res 0 rfl) FI64) (LentAll.nil)))) (fun _ _ => rfl)) rfl fun x54 => ?_
                  refine J.guardY rfl (Y.not rfl) rfl ?_
                  refine J.quiet (Y.pickT rfl rfl) rfl ?_
                  refine J.quiet (Y.move rfl) rfl ?_
                  refine J.guard (by exact rfl) (by exact rfl) (fun hp55 => ?_) (fun hp55 => ?_)
                  · replace h := ifP hp55 h
                    refine J.guardY rfl (Y.move rfl) rfl ?_
                    replace h := bnd h; obtain ⟨r56, hr57, h⟩ := h
                    refine J.loudG rfl (Loud.callM (Min := [Blk b6.1 [v0, v1, b6.2.1, x54] 75, Ar EI64 x54 r52.2]) (Mr := [Ar EI64 b6.2.1 a9.2]) body57 (t___labels_coverer__set fuel b6.1 v0 v1 z2 b6.2.1 x54 r56 hr57) rfl (SubM.refl _) (LentAll.cons (Lent.fact 0 rfl) (LentAll.cons (Lent.fact 1 rfl) (LentAll.cons (Lent.ar (Lent.res 0 rfl) FI64) (LentAll.nil)))) (fun _ _ => rfl)) rfl fun x58 => ?_
                    refine J.guardY rfl (Y.not rfl) rfl ?_
                    refine J.quiet (Y.pickT rfl rfl) rfl ?_
                    refine J.done ?_
                    refine J.thenN ?_
                    exact J.meetI (((!r56.1)), r56.2) (x58) h (by repeat (first | exact SubF.nil | refine SubF.cons rfl ?_)) (SubM.refl _) (LentAll.refl _ _)
                  · replace h := ifBN hp55 h
                    refine J.guardN rfl rfl rfl ?_
                    refine J.guardN rfl rfl rfl ?_
                    refine J.guardN rfl rfl rfl ?_
                    refine J.quiet (Y.pickF rfl rfl) rfl ?_
                    refine J.done ?_
                    refine J.thenN ?_
                    exact J.meetI (false, r52.2) (x54) h (by repeat (first | exact SubF.nil | refine SubF.cons rfl ?_)) (SubM.refl _) (LentAll.refl _ _)
                · replace h := ifN hp51 h
                  refine J.guardN rfl rfl rfl ?_
                  refine J.guardN rfl rfl rfl ?_
                  refine J.guardN rfl rfl rfl ?_
                  refine J.quiet (Y.pickF rfl rfl) rfl ?_
                  refine J.quiet (Y.move rfl) rfl ?_
                  refine J.guardN rfl rfl rfl ?_
                  refine J.guardN rfl rfl rfl ?_
                  refine J.guardN rfl rfl rfl ?_
                  refine J.quiet (Y.pickF rfl rfl) rfl ?_
                  refine J.done ?_
                  refine J.thenN ?_
                  exact J.meetI (false, a40.2) (b41) h (by repeat (first | exact SubF.nil | refine SubF.cons rfl ?_)) (SubM.refl _) (LentAll.refl _ _)
              · clear h
                intro a47 b48 h
                unfold labels_cover_k7 at h
                refine J.cond (by exact rfl) (fun hp49 => ?_) (fun hp49 => ?_)
                · replace h := ifP hp49 h
                  refine J.seq ?_
                  refine J.region ?_
                  refine J.quiet (Y.assign rfl) rfl ?_
                  refine J.quiet (Y.assign rfl) rfl ?_
                  refine J.done ?_
                  refine J.thenN ?_
                  refine J.ret ?_
                  refine J.inR ?_
                  refine J.thenR ?_
                  refine J.thenR ?_
                  refine J.inR ?_
                  refine J.thenR ?_
                  refine J.stp (Stp.nilAr EI64I64p) ?_
                  obtain rfl := Option.some.inj h
                  exact J.retG2 (Value.slice none 0 0) rfl rfl (RV.tmp rfl) (RV.tmp rfl) (SubM.cons 0 rfl (SubM.nil)) LentAll.nil
                · replace h := ifBN hp49 h
                  refine J.skip ?_
                  refine J.inN ?_
                  refine J.thenN ?_
                  refine J.region ?_
                  refine J.quiet (Y.addW rfl rfl) rfl ?_
                  refine J.quiet (Y.move rfl) rfl ?_
                  refine J.done ?_
                  refine J.thenN ?_
                  exact J.againI ((wI .i64 (a40.1 + (1 : Int))), a47.2) (b48) h (by repeat (first | exact SubF.nil | refine SubF.cons rfl ?_)) (SubM.refl _) (LentAll.refl _ _)
            · replace h := ifN hp43 h
              refine J.exit ?_
              refine J.thenX ?_
              refine J.thenX ?_
              refine J.inX ?_
              refine J.thenN ?_
              exact J.meetI (a40.2) (b41) h (by repeat (first | exact SubF.nil | refine SubF.cons rfl ?_)) (SubM.refl _) (LentAll.refl _ _)
          · clear h
            intro a19 b20 h
            unfold labels_cover_k5 at h
            refine J.seq ?_
            refine J.region ?_
            refine J.quiet (Y.move rfl) rfl ?_
            replace h := ck_some h; obtain ⟨hc21, h⟩ := h
            refine J.loud (Loud.makeS (e := EI64I64p) (((0 : Int), (0 : Int))) rfl rfl rfl rfl hc21 rfl rfl rfl) rfl fun u22 => ?_
            refine J.quiet (Y.assign rfl) rfl ?_
            refine J.done ?_
            refine J.thenN ?_
            refine J.seq ?_
            refine J.midI (A := (List (Int × Int))) (B := Unit) (fun a24 => labels_cover_k6  a24 = some r) (fun a24 b25 => [(15, u22)]) (fun a24 b25 => [Ar EI64I64p u22 a24]) (fun a24 b25 => [Sl RI64 v0 p0.1, S2 RI64I64p v1 z2 p0.2, Sl RI64 v3 p1]) ?_ ?_
            · refine J.seq ?_
              refine J.region ?_
              refine J.quiet (Y.fieldB rfl rfl rfl rfl rfl) rfl ?_
              refine J.quiet (Y.loadB 1 rfl rfl rfl rfl rfl) rfl ?_
              refine J.quiet (Y.lenS rfl (Lent.ar (Lent.res 2 rfl) FI64) rfl) rfl ?_
              refine J.quiet (Y.move rfl) rfl ?_
              refine J.done ?_
              refine J.thenN ?_
              refine J.block ?_
              refine J.loopI (A := Int × (List (Int × Int))) (B := Unit) (labels_cover_s1 a19) (fun a29 b30 => [(15, u22), (117, b20), (118, Value.int .i64 (List.length a19 : Int)), (119, Value.int .i64 (a29.1))]) (fun a29 b30 => [Ar EI64I64p u22 a29.2, Ar EI64 b20 a19]) (fun a29 b30 => [Sl RI64 v0 p0.1, S2 RI64I64p v1 z2 p0.2, Sl RI64 v3 p1]) ((0 : Int), (List.replicate (Int.toNat (List.length p1 : Int)) ((0 : Int), (0 : Int)))) (()) h (by repeat (first | exact SubF.nil | refine SubF.cons rfl ?_)) (SubM.cons 0 rfl (SubM.cons 1 rfl (SubM.nil))) (LentAll.refl _ _) ?_
              clear h
              intro k31 a29 b30 h
              unfold labels_cover_s1 at h
              refine J.seq ?_
              refine J.region ?_
              refine J.quiet (Y.lss rfl rfl) rfl ?_
              refine J.done ?_
              refine J.thenN ?_
              refine J.seq ?_
              refine J.condD (by exact rfl) (fun hp32 => ?_) (fun hp32 => ?_)
              · replace h := ifP hp32 h
                refine J.skip ?_
                refine J.thenN ?_
                refine J.seq ?_
                refine J.block ?_
                refine J.seq ?_
                refine J.region ?_
                refine J.quiet (Y.move rfl) rfl ?_
                replace h := ck_some h; obtain ⟨hc33, h⟩ := h
                refine J.quiet (Y.indexS rfl rfl (Lent.ar (Lent.res 1 rfl) FI64) rfl rfl hc33) rfl ?_
                refine J.quiet (Y.loadS0 rfl (Lent.ar (Lent.res 1 rfl) FI64) rfl rfl rfl RI64c0 hc33) rfl ?_
                refine J.quiet (Y.assign rfl) rfl ?_
                refine J.quiet (Y.assign rfl) rfl ?_
                refine J.done ?_
                refine J.thenN ?_
                refine J.region ?_
                refine J.quiet (Y.move rfl) rfl ?_
                refine J.quiet (Y.move rfl) rfl ?_
                refine J.quiet (Y.move rfl) rfl ?_
                replace h := ck_some h; obtain ⟨hc34, h⟩ := h
                refine J.quiet (Y.indexS rfl rfl (Lent.ar (Lent.res 0 rfl) FI64I64p) rfl rfl hc34) rfl ?_
                refine J.quiet (Y.indexEl (i := 0) rfl rfl rfl rfl rfl (by decide)) rfl ?_
                refine J.loud0 (Loud.storeE (us := [Value.int .i64 (at' a19 a29.1)]) (o := 0) 0 (((at' a19 a29.1), ((at' a29.2 a29.1).2))) hc34 rfl rfl rfl rfl rfl rfl rfl rfl rfl rfl) fun x35 => ?_
                refine J.done ?_
                refine J.inN ?_
                refine J.thenN ?_
                refine J.region ?_
                refine J.quiet (Y.addW rfl rfl) rfl ?_
                refine J.quiet (Y.move rfl) rfl ?_
                refine J.done ?_
                refine J.thenN ?_
                exact J.againI ((wI .i64 (a29.1 + (1 : Int))), (List.set a29.2 (Int.toNat a29.1) ((at' a19 a29.1), ((at' a29.2 a29.1).2)))) (()) h (by repeat (first | exact SubF.nil | refine SubF.cons rfl ?_)) (SubM.refl _) (LentAll.refl _ _)
              · replace h := ifN hp32 h
                refine J.exit ?_
                refine J.thenX ?_
                refine J.thenX ?_
                refine J.inX ?_
                refine J.thenN ?_
                exact J.meetI (a29.2) (()) h (by repeat (first | exact SubF.nil | refine SubF.cons rfl ?_)) (SubM.cons 0 rfl (SubM.nil)) (LentAll.refl _ _)
            · clear h
              intro a24 b25 h
              unfold labels_cover_k6 at h
              refine J.seq ?_
              refine J.region ?_
              refine J.quiet (Y.move rfl) rfl ?_
              refine J.quiet (Y.assign rfl) rfl ?_
              refine J.quiet (Y.assign rfl) rfl ?_
              refine J.done ?_
              refine J.thenN ?_
              refine J.ret ?_
              obtain rfl := Option.some.inj h
              exact J.retG2 (u22) rfl rfl (RV.tmp rfl) (RV.tmp rfl) (SubM.refl _) LentAll.nil

end Go.Proofs.Ytmajgimhmfeliaa
end
section
set_option linter.unusedVariables false
set_option linter.unusedSimpArgs false
namespace Go.Proofs.Ytmajgimhmfeliaa
open Go.Sx
set_option linter.unusedVariables false
set_option linter.unusedSimpArgs false
def m_labels_Prove (fuel : Nat) (p0 : Int) (p1 : List (Int) × (List (List (Int × Int)))) (p2 : List (Int)) : Option ((List (Int × Int)) × Int) :=
  Option.bind (m_graph_Connected fuel ((p1.1, p1.2))) fun r2 => (if (!r2) = true then (some (([] : List (Int × Int)), (1 : Int))) else (Option.bind (m_labels_known fuel p0) fun r6 => (if (!r6) = true then (some (([] : List (Int × Int)), (2 : Int))) else (Option.bind (m_labels_fits fuel p0 ((p1.1, p1.2)) p2) fun r10 => (if (!r10) = true then (some (([] : List (Int × Int)), (7 : Int))) else (ck (0 ≤ (wI .i64 (p0 - (1 : Int))) ∧ (wI .i64 (p0 - (1 : Int))) < ((4 : Nat) : Int)) (if wI .i64 (p0 - (1 : Int)) = (0 : Int) then (Option.bind (m_labels_tree fuel ((p1.1, p1.2)) p2) fun r17 => (if (!r17.2) = true then (some (([] : List (Int × Int)), (7 : Int))) else (some (r17.1, (0 : Int))))) else (if wI .i64 (p0 - (1 : Int)) = (1 : Int) then (Option.bind (m_labels_leader fuel ((p1.1, p1.2)) p2) fun r22 => (if (!r22.2) = true then (some (([] : List (Int × Int)), (7 : Int))) else (some (r22.1, (0 : Int))))) else (if wI .i64 (p0 - (1 : Int)) = (2 : Int) then (Option.bind (m_labels_bipartite fuel ((p1.1, p1.2)) p2) fun r27 => (if (!r27.2) = true then (some (([] : List (Int × Int)), (7 : Int))) else (some (r27.1, (0 : Int))))) else (Option.bind (m_labels_cover fuel ((p1.1, p1.2)) p2) fun r31 => (if (!r31.2) = true then (some (([] : List (Int × Int)), (7 : Int))) else (some (r31.1, (0 : Int))))))))))))))

theorem body12 : HasBody Try.prog 12 := Try.call12

set_option maxHeartbeats 4000000 in
set_option maxRecDepth 20000 in
theorem t_labels_Prove (fuel : Nat) {p0 : Int} {p1 : List (Int) × (List (List (Int × Int)))} {p2 : List (Int)} (v0 : Value)  (v1 : Value)  (z2 : List (Value × List (Int × Int)))  (v3 : Value) (r : (List (Int × Int)) × Int) (h : m_labels_Prove fuel p0 p1 p2 = some r) :
    Meets Try.prog 12 #[Value.int .i64 (p0), Value.agg #[v0, v1], v3] [Sl RI64 v0 p1.1, S2 RI64I64p v1 z2 p1.2, Sl RI64 v3 p2] (fun x : Value => Value.tuple #[x, Value.int .i64 (r.2)]) (fun x l => Ar EI64I64p x r.1 :: l) (fun _ l => l) := by
  refine Meets.of (vs := [Value.int .i64 (p0), Value.agg #[v0, v1], v3]) Try.func12 rfl Try.ntmps12 rfl fun c => ?_
  unfold m_labels_Prove at h
  refine J.seq ?_
  refine J.region ?_
  refine J.loud (Loud.box (cs := [v0, v1]) rfl rfl) rfl fun b1 => ?_
  refine J.quiet (Y.assign rfl) rfl ?_
  refine J.quiet (Y.assign rfl) rfl ?_
  refine J.done ?_
  refine J.thenN ?_
  refine J.seq ?_
  refine J.seq ?_
  refine J.region ?_
  refine J.quiet (Y.loadBAll 0 rfl rfl rfl rfl) rfl ?_
  replace h := bnd h; obtain ⟨r2, hr3, h⟩ := h
  refine J.loud (Loud.callL body29 (t_graph_Connected fuel v0 v1 z2 r2 hr3) rfl (LentAll.cons (Lent.fact 0 rfl) (LentAll.cons (Lent.fact 1 rfl) (LentAll.nil))) (fun _ _ => rfl)) rfl fun x4 => ?_
  refine J.quiet (Y.not rfl) rfl ?_
  refine J.done ?_
  refine J.thenN ?_
  refine J.cond (by exact rfl) (fun hp5 => ?_) (fun hp5 => ?_)
  · replace h := ifP hp5 h
    refine J.seq ?_
    refine J.region ?_
    refine J.quiet (Y.assign rfl) rfl ?_
    refine J.quiet (Y.assign rfl) rfl ?_
    refine J.done ?_
    refine J.thenN ?_
    refine J.ret ?_
    refine J.thenR ?_
    refine J.stp (Stp.nilAr EI64I64p) ?_
    obtain rfl := Option.some.inj h
    exact J.retG2 (Value.slice none 0 0) rfl rfl (RV.tmp rfl) (RV.tmp rfl) (SubM.cons 0 rfl (SubM.nil)) LentAll.nil
  · replace h := ifBN hp5 h
    refine J.skip ?_
    refine J.thenN ?_
    refine J.seq ?_
    refine J.seq ?_
    refine J.region ?_
    refine J.quiet (Y.move rfl) rfl ?_
    replace h := bnd h; obtain ⟨r6, hr7, h⟩ := h
    refine J.loud (Loud.callL body30 (t_labels_known fuel  r6 hr7) rfl (LentAll.nil) (fun _ _ => rfl)) rfl fun x8 => ?_
    refine J.quiet (Y.not rfl) rfl ?_
    refine J.done ?_
    refine J.thenN ?_
    refine J.cond (by exact rfl) (fun hp9 => ?_) (fun hp9 => ?_)
    · replace h := ifP hp9 h
      refine J.seq ?_
      refine J.region ?_
      refine J.quiet (Y.assign rfl) rfl ?_
      refine J.quiet (Y.assign rfl) rfl ?_
      refine J.done ?_
      refine J.thenN ?_
      refine J.ret ?_
      refine J.thenR ?_
      refine J.stp (Stp.nilAr EI64I64p) ?_
      obtain rfl := Option.some.inj h
      exact J.retG2 (Value.slice none 0 0) rfl rfl (RV.tmp rfl) (RV.tmp rfl) (SubM.cons 0 rfl (SubM.nil)) LentAll.nil
    · replace h := ifBN hp9 h
      refine J.skip ?_
      refine J.thenN ?_
      refine J.seq ?_
      refine J.seq ?_
      refine J.region ?_
      refine J.quiet (Y.move rfl) rfl ?_
      refine J.quiet (Y.loadBAll 0 rfl rfl rfl rfl) rfl ?_
      refine J.quiet (Y.move rfl) rfl ?_
      replace h := bnd h; obtain ⟨r10, hr11, h⟩ := h
      refine J.loud (Loud.callL body31 (t_labels_fits fuel v0 v1 z2 v3 r10 hr11) rfl (LentAll.cons (Lent.fact 0 rfl) (LentAll.cons (Lent.fact 1 rfl) (LentAll.cons (Lent.fact 2 rfl) (LentAll.nil)))) (fun _ _ => rfl)) rfl fun x12 => ?_
      refine J.quiet (Y.not rfl) rfl ?_
      refine J.done ?_
      refine J.thenN ?_
      refine J.cond (by exact rfl) (fun hp13 => ?_) (fun hp13 => ?_)
      · replace h := ifP hp13 h
        refine J.seq ?_
        refine J.region ?_
        refine J.quiet (Y.assign rfl) rfl ?_
        refine J.quiet (Y.assign rfl) rfl ?_
        refine J.done ?_
        refine J.thenN ?_
        refine J.ret ?_
        refine J.thenR ?_
        refine J.stp (Stp.nilAr EI64I64p) ?_
        obtain rfl := Option.some.inj h
        exact J.retG2 (Value.slice none 0 0) rfl rfl (RV.tmp rfl) (RV.tmp rfl) (SubM.cons 0 rfl (SubM.nil)) LentAll.nil
      · replace h := ifBN hp13 h
        refine J.skip ?_
        refine J.thenN ?_
        refine J.seq ?_
        refine J.region ?_
        refine J.quiet (Y.bld4 (r := Value.agg #[Value.func (.func 32) #[] #[], Value.func (.func 33) #[] #[], Value.func (.func 34) #[] #[], Value.func (.func 35) #[] #[]]) rfl rfl rfl rfl (by intro w; simp [Instr.build, Instr.fill, cells_intV, cells_boolV, cells_sliceV, cells_ptrV, cells_strV, cells_funcV, cells_agg])) rfl ?_
        refine J.loud (Loud.alloc (cs := [Value.nilFunc, Value.nilFunc, Value.nilFunc, Value.nilFunc]) rfl rfl) rfl fun b14 => ?_
        refine J.storeAll 0 (vs := [Value.func (.func 32) #[] #[], Value.func (.func 33) #[] #[], Value.func (.func 34) #[] #[], Value.func (.func 35) #[] #[]]) rfl rfl rfl rfl rfl rfl ?_
        refine J.done ?_
        refine J.thenN ?_
        refine J.seq ?_
        refine JR.start [0, 1, 3, 7, 0, 0, 63, 127, 255, 255, 511, 2047] 11 mixedOrders (by decide +kernel) ?_
        refine JR.open (by exact rfl) ?_
        refine JR.qt rfl (SubM.nil) (SubL.nil) (Y.move rfl) HistOk.z ?_
        refine JR.qt rfl (SubM.nil) (SubL.nil) (Y.subW rfl rfl) HistOk.z ?_
        replace h := ck_some h; obtain ⟨hc15, h⟩ := h
        by_cases hq16 : wI .i64 (p0 - (1 : Int)) = (0 : Int)
        · replace h := ifP hq16 h
          refine JR.qt rfl (SubM.nil) (SubL.nil) (Y.indexArrC 0 rfl rfl rfl rfl rfl hq16 rfl) HistOk.z ?_
          refine JR.qt rfl (SubM.cons 0 rfl (SubM.nil)) (SubL.nil) (Y.loadB 0 rfl rfl rfl rfl rfl) HistOk.z ?_
          refine JR.qt rfl (SubM.cons 1 rfl (SubM.nil)) (SubL.nil) (Y.loadBAll 0 rfl rfl rfl rfl) HistOk.z ?_
          refine JR.qt rfl (SubM.nil) (SubL.nil) (Y.move rfl) HistOk.z ?_
          replace h := bnd h; obtain ⟨r17, hr18, h⟩ := h
          refine JR.loud rfl rfl rfl (Loud.callVL (vs := [Value.agg #[v0, v1], v3]) (cs := []) body32 rfl (t_labels_tree fuel v0 v1 z2 v3 r17 hr18) rfl (LentAll.cons (Lent.fact 0 rfl) (LentAll.cons (Lent.fact 1 rfl) (LentAll.cons (Lent.fact 2 rfl) (LentAll.nil)))) (fun _ _ => rfl)) rfl (fun x19 => (BsOk.b rfl (BsOk.b rfl (BsOk.b rfl (BsOk.b rfl (BsOk.b rfl (BsOk.b rfl BsOk.z))))))) fun x19 => ?_
          refine JR.qt rfl (SubM.nil) (SubL.nil) (Y.move rfl) (HistOk.b rfl HistOk.z) ?_
          refine JR.qt rfl (SubM.nil) (SubL.nil) (Y.extract rfl rfl) (HistOk.b rfl HistOk.z) ?_
          refine JR.qt rfl (SubM.nil) (SubL.nil) (Y.extract rfl rfl) (HistOk.b rfl HistOk.z) ?_
          refine JR.qt rfl (SubM.nil) (SubL.nil) (Y.assign rfl) (HistOk.b rfl HistOk.z) ?_
          refine JR.tailD 11 rfl rfl ?_
          refine J.quiet (Y.assign rfl) rfl ?_
          refine J.done ?_
          refine J.thenN ?_
          refine J.seq ?_
          refine J.seq ?_
          refine J.region ?_
          refine J.quiet (Y.move rfl) rfl ?_
          refine J.quiet (Y.not rfl) rfl ?_
          refine J.done ?_
          refine J.thenN ?_
          refine J.cond (by exact rfl) (fun hp20 => ?_) (fun hp20 => ?_)
          · replace h := ifP hp20 h
            refine J.seq ?_
            refine J.region ?_
            refine J.quiet (Y.assign rfl) rfl ?_
            refine J.quiet (Y.assign rfl) rfl ?_
            refine J.done ?_
            refine J.thenN ?_
            refine J.ret ?_
            refine J.thenR ?_
            refine J.stp (Stp.nilAr EI64I64p) ?_
            obtain rfl := Option.some.inj h
            exact J.retG2 (Value.slice none 0 0) rfl rfl (RV.tmp rfl) (RV.tmp rfl) (SubM.cons 0 rfl (SubM.nil)) LentAll.nil
          · replace h := ifBN hp20 h
            refine J.skip ?_
            refine J.thenN ?_
            refine J.seq ?_
            refine J.region ?_
            refine J.quiet (Y.move rfl) rfl ?_
            refine J.quiet (Y.assign rfl) rfl ?_
            refine J.quiet (Y.assign rfl) rfl ?_
            refine J.done ?_
            refine J.thenN ?_
            refine J.ret ?_
            obtain rfl := Option.some.inj h
            exact J.retG2 (x19) rfl rfl (RV.tmp rfl) (RV.tmp rfl) (SubM.cons 0 rfl (SubM.nil)) LentAll.nil
        · replace h := ifN hq16 h
          by_cases hq21 : wI .i64 (p0 - (1 : Int)) = (1 : Int)
          · replace h := ifP hq21 h
            refine JR.qt rfl (SubM.nil) (SubL.nil) (Y.indexArrC 1 rfl rfl rfl rfl rfl hq21 rfl) HistOk.z ?_
            refine JR.qt rfl (SubM.cons 0 rfl (SubM.nil)) (SubL.nil) (Y.loadB 0 rfl rfl rfl rfl rfl) HistOk.z ?_
            refine JR.qt rfl (SubM.cons 1 rfl (SubM.nil)) (SubL.nil) (Y.loadBAll 0 rfl rfl rfl rfl) HistOk.z ?_
            refine JR.qt rfl (SubM.nil) (SubL.nil) (Y.move rfl) HistOk.z ?_
            replace h := bnd h; obtain ⟨r22, hr23, h⟩ := h
            refine JR.loud rfl rfl rfl (Loud.callVL (vs := [Value.agg #[v0, v1], v3]) (cs := []) body33 rfl (t_labels_leader fuel v0 v1 z2 v3 r22 hr23) rfl (LentAll.cons (Lent.fact 0 rfl) (LentAll.cons (Lent.fact 1 rfl) (LentAll.cons (Lent.fact 2 rfl) (LentAll.nil)))) (fun _ _ => rfl)) rfl (fun x24 => (BsOk.b rfl (BsOk.b rfl (BsOk.b rfl (BsOk.b rfl (BsOk.b rfl (BsOk.b rfl BsOk.z))))))) fun x24 => ?_
            refine JR.qt rfl (SubM.nil) (SubL.nil) (Y.move rfl) (HistOk.b rfl HistOk.z) ?_
            refine JR.qt rfl (SubM.nil) (SubL.nil) (Y.extract rfl rfl) (HistOk.b rfl HistOk.z) ?_
            refine JR.qt rfl (SubM.nil) (SubL.nil) (Y.extract rfl rfl) (HistOk.b rfl HistOk.z) ?_
            refine JR.qt rfl (SubM.nil) (SubL.nil) (Y.assign rfl) (HistOk.b rfl HistOk.z) ?_
            refine JR.tailD 11 rfl rfl ?_
            refine J.quiet (Y.assign rfl) rfl ?_
            refine J.done ?_
            refine J.thenN ?_
            refine J.seq ?_
            refine J.seq ?_
            refine J.region ?_
            refine J.quiet (Y.move rfl) rfl ?_
            refine J.quiet (Y.not rfl) rfl ?_
            refine J.done ?_
            refine J.thenN ?_
            refine J.cond (by exact rfl) (fun hp25 => ?_) (fun hp25 => ?_)
            · replace h := ifP hp25 h
              refine J.seq ?_
              refine J.region ?_
              refine J.quiet (Y.assign rfl) rfl ?_
              refine J.quiet (Y.assign rfl) rfl ?_
              refine J.done ?_
              refine J.thenN ?_
              refine J.ret ?_
              refine J.thenR ?_
              refine J.stp (Stp.nilAr EI64I64p) ?_
              obtain rfl := Option.some.inj h
              exact J.retG2 (Value.slice none 0 0) rfl rfl (RV.tmp rfl) (RV.tmp rfl) (SubM.cons 0 rfl (SubM.nil)) LentAll.nil
            · replace h := ifBN hp25 h
              refine J.skip ?_
              refine J.thenN ?_
              refine J.seq ?_
              refine J.region ?_
              refine J.quiet (Y.move rfl) rfl ?_
              refine J.quiet (Y.assign rfl) rfl ?_
              refine J.quiet (Y.assign rfl) rfl ?_
              refine J.done ?_
              refine J.thenN ?_
              refine J.ret ?_
              obtain rfl := Option.some.inj h
              exact J.retG2 (x24) rfl rfl (RV.tmp rfl) (RV.tmp rfl) (SubM.cons 0 rfl (SubM.nil)) LentAll.nil
          · replace h := ifN hq21 h
            by_cases hq26 : wI .i64 (p0 - (1 : Int)) = (2 : Int)
            · replace h := ifP hq26 h
              refine JR.qt rfl (SubM.nil) (SubL.nil) (Y.indexArrC 2 rfl rfl rfl rfl rfl hq26 rfl) HistOk.z ?_
              refine JR.qt rfl (SubM.cons 0 rfl (SubM.nil)) (SubL.nil) (Y.loadB 0 rfl rfl rfl rfl rfl) HistOk.z ?_
              refine JR.qt rfl (SubM.cons 1 rfl (SubM.nil)) (SubL.nil) (Y.loadBAll 0 rfl rfl rfl rfl) HistOk.z ?_
              refine JR.qt rfl (SubM.nil) (SubL.nil) (Y.move rfl) HistOk.z ?_
              replace h := bnd h; obtain ⟨r27, hr28, h⟩ := h
              refine JR.loud rfl rfl rfl (Loud.callVL (vs := [Value.agg #[v0, v1], v3]) (cs := []) body34 rfl (t_labels_bipartite fuel v0 v1 z2 v3 r27 hr28) rfl (LentAll.cons (Lent.fact 0 rfl) (LentAll.cons (Lent.fact 1 rfl) (LentAll.cons (Lent.fact 2 rfl) (LentAll.nil)))) (fun _ _ => rfl)) rfl (fun x29 => (BsOk.b rfl (BsOk.b rfl (BsOk.b rfl (BsOk.b rfl (BsOk.b rfl (BsOk.b rfl BsOk.z))))))) fun x29 => ?_
              refine JR.qt rfl (SubM.nil) (SubL.nil) (Y.move rfl) (HistOk.b rfl HistOk.z) ?_
              refine JR.qt rfl (SubM.nil) (SubL.nil) (Y.extract rfl rfl) (HistOk.b rfl HistOk.z) ?_
              refine JR.qt rfl (SubM.nil) (SubL.nil) (Y.extract rfl rfl) (HistOk.b rfl HistOk.z) ?_
              refine JR.qt rfl (SubM.nil) (SubL.nil) (Y.assign rfl) (HistOk.b rfl HistOk.z) ?_
              refine JR.tailD 11 rfl rfl ?_
              refine J.quiet (Y.assign rfl) rfl ?_
              refine J.done ?_
              refine J.thenN ?_
              refine J.seq ?_
              refine J.seq ?_
              refine J.region ?_
              refine J.quiet (Y.move rfl) rfl ?_
              refine J.quiet (Y.not rfl) rfl ?_
              refine J.done ?_
              refine J.thenN ?_
              refine J.cond (by exact rfl) (fun hp30 => ?_) (fun hp30 => ?_)
              · replace h := ifP hp30 h
                refine J.seq ?_
                refine J.region ?_
                refine J.quiet (Y.assign rfl) rfl ?_
                refine J.quiet (Y.assign rfl) rfl ?_
                refine J.done ?_
                refine J.thenN ?_
                refine J.ret ?_
                refine J.thenR ?_
                refine J.stp (Stp.nilAr EI64I64p) ?_
                obtain rfl := Option.some.inj h
                exact J.retG2 (Value.slice none 0 0) rfl rfl (RV.tmp rfl) (RV.tmp rfl) (SubM.cons 0 rfl (SubM.nil)) LentAll.nil
              · replace h := ifBN hp30 h
                refine J.skip ?_
                refine J.thenN ?_
                refine J.seq ?_
                refine J.region ?_
                refine J.quiet (Y.move rfl) rfl ?_
                refine J.quiet (Y.assign rfl) rfl ?_
                refine J.quiet (Y.assign rfl) rfl ?_
                refine J.done ?_
                refine J.thenN ?_
                refine J.ret ?_
                obtain rfl := Option.some.inj h
                exact J.retG2 (x29) rfl rfl (RV.tmp rfl) (RV.tmp rfl) (SubM.cons 0 rfl (SubM.nil)) LentAll.nil
            · replace h := ifN hq26 h
              refine JR.qt rfl (SubM.nil) (SubL.nil) (Y.indexArrC 3 rfl rfl rfl rfl rfl (by omega) rfl) HistOk.z ?_
              refine JR.qt rfl (SubM.cons 0 rfl (SubM.nil)) (SubL.nil) (Y.loadB 0 rfl rfl rfl rfl rfl) HistOk.z ?_
              refine JR.qt rfl (SubM.cons 1 rfl (SubM.nil)) (SubL.nil) (Y.loadBAll 0 rfl rfl rfl rfl) HistOk.z ?_
              refine JR.qt rfl (SubM.nil) (SubL.nil) (Y.move rfl) HistOk.z ?_
              replace h := bnd h; obtain ⟨r31, hr32, h⟩ := h
              refine JR.loud rfl rfl rfl (Loud.callVL (vs := [Value.agg #[v0, v1], v3]) (cs := []) body35 rfl (t_labels_cover fuel v0 v1 z2 v3 r31 hr32) rfl (LentAll.cons (Lent.fact 0 rfl) (LentAll.cons (Lent.fact 1 rfl) (LentAll.cons (Lent.fact 2 rfl) (LentAll.nil)))) (fun _ _ => rfl)) rfl (fun x33 => (BsOk.b rfl (BsOk.b rfl (BsOk.b rfl (BsOk.b rfl (BsOk.b rfl (BsOk.b rfl BsOk.z))))))) fun x33 => ?_
              refine JR.qt rfl (SubM.nil) (SubL.nil) (Y.move rfl) (HistOk.b rfl HistOk.z) ?_
              refine JR.qt rfl (SubM.nil) (SubL.nil) (Y.extract rfl rfl) (HistOk.b rfl HistOk.z) ?_
              refine JR.qt rfl (SubM.nil) (SubL.nil) (Y.extract rfl rfl) (HistOk.b rfl HistOk.z) ?_
              refine JR.qt rfl (SubM.nil) (SubL.nil) (Y.assign rfl) (HistOk.b rfl HistOk.z) ?_
              refine JR.tailD 11 rfl rfl ?_
              refine J.quiet (Y.assign rfl) rfl ?_
              refine J.done ?_
              refine J.thenN ?_
              refine J.seq ?_
              refine J.seq ?_
              refine J.region ?_
              refine J.quiet (Y.move rfl) rfl ?_
              refine J.quiet (Y.not rfl) rfl ?_
              refine J.done ?_
              refine J.thenN ?_
              refine J.cond (by exact rfl) (fun hp34 => ?_) (fun hp34 => ?_)
              · replace h := ifP hp34 h
                refine J.seq ?_
                refine J.region ?_
                refine J.quiet (Y.assign rfl) rfl ?_
                refine J.quiet (Y.assign rfl) rfl ?_
                refine J.done ?_
                refine J.thenN ?_
                refine J.ret ?_
                refine J.thenR ?_
                refine J.stp (Stp.nilAr EI64I64p) ?_
                obtain rfl := Option.some.inj h
                exact J.retG2 (Value.slice none 0 0) rfl rfl (RV.tmp rfl) (RV.tmp rfl) (SubM.cons 0 rfl (SubM.nil)) LentAll.nil
              · replace h := ifBN hp34 h
                refine J.skip ?_
                refine J.thenN ?_
                refine J.seq ?_
                refine J.region ?_
                refine J.quiet (Y.move rfl) rfl ?_
                refine J.quiet (Y.assign rfl) rfl ?_
                refine J.quiet (Y.assign rfl) rfl ?_
                refine J.done ?_
                refine J.thenN ?_
                refine J.ret ?_
                obtain rfl := Option.some.inj h
                exact J.retG2 (x33) rfl rfl (RV.tmp rfl) (RV.tmp rfl) (SubM.cons 0 rfl (SubM.nil)) LentAll.nil

end Go.Proofs.Ytmajgimhmfeliaa
end
section
set_option linter.unusedVariables false
set_option linter.unusedSimpArgs false
namespace Go.Proofs.Ytmajgimhmfeliaa
open Go.Sx
set_option linter.unusedVariables false
set_option linter.unusedSimpArgs false
def law39_same_k1  (a2 : Unit) : Option (Bool) :=
  some (true)
def law39_same_s1 (p0 : List (Int × Int)) (p1 : List (Int × Int)) (a6 : Int) (ag5 : (Int) → Option (Bool)) : Option (Bool) :=
  if a6 < (List.length p0 : Int) then (ck (0 ≤ a6 ∧ a6 < (List.length p0 : Int)) (ck (0 ≤ a6 ∧ a6 < (List.length p1 : Int)) (if (((at' p0 a6).1), ((at' p0 a6).2)) ≠ (((at' p1 a6).1), ((at' p1 a6).2)) then (some (false)) else (ag5 (wI .i64 (a6 + (1 : Int))))))) else (law39_same_k1  (()))
def m_law39_same (fuel : Nat) (p0 : List (Int × Int)) (p1 : List (Int × Int)) : Option (Bool) :=
  if (List.length p0 : Int) ≠ (List.length p1 : Int) then (some (false)) else (iter (law39_same_s1 p0 p1) fuel (0 : Int))

theorem body21 : HasBody Try.prog 21 := Try.call21

set_option maxHeartbeats 4000000 in
set_option maxRecDepth 20000 in
theorem t_law39_same (fuel : Nat) {p0 : List (Int × Int)} {p1 : List (Int × Int)} (v0 : Value)  (v1 : Value) (r : Bool) (h : m_law39_same fuel p0 p1 = some r) :
    Meets Try.prog 21 #[v0, v1] [Sl RI64I64p v0 p0, Sl RI64I64p v1 p1] (fun x : Unit => Value.bool (r)) (fun x l => l) (fun _ l => l) := by
  refine Meets.of (vs := [v0, v1]) Try.func21 rfl Try.ntmps21 rfl fun c => ?_
  unfold m_law39_same at h
  refine J.seq ?_
  refine J.region ?_
  refine J.quiet (Y.assign rfl) rfl ?_
  refine J.done ?_
  refine J.thenN ?_
  refine J.seq ?_
  refine J.seq ?_
  refine J.region ?_
  refine J.quiet (Y.move rfl) rfl ?_
  refine J.quiet (Y.lenS rfl (Lent.fact 0 rfl) rfl) rfl ?_
  refine J.quiet (Y.move rfl) rfl ?_
  refine J.quiet (Y.lenS rfl (Lent.fact 1 rfl) rfl) rfl ?_
  refine J.quiet (Y.neq rfl rfl) rfl ?_
  refine J.done ?_
  refine J.thenN ?_
  refine J.condD (by exact rfl) (fun hp1 => ?_) (fun hp1 => ?_)
  · replace h := ifP hp1 h
    refine J.seq ?_
    refine J.region ?_
    refine J.quiet (Y.assign rfl) rfl ?_
    refine J.done ?_
    refine J.thenN ?_
    refine J.ret ?_
    refine J.thenR ?_
    obtain rfl := Option.some.inj h
    exact J.retG1 (()) rfl rfl (RV.tmp rfl) (SubM.refl _) LentAll.nil
  · replace h := ifN hp1 h
    refine J.skip ?_
    refine J.thenN ?_
    refine J.seq ?_
    refine J.midI (A := Unit) (B := Unit) (fun a2 => law39_same_k1  a2 = some r) (fun a2 b3 => []) (fun a2 b3 => []) (fun a2 b3 => [Sl RI64I64p v0 p0, Sl RI64I64p v1 p1]) ?_ ?_
    · refine J.seq ?_
      refine J.region ?_
      refine J.quiet (Y.assign rfl) rfl ?_
      refine J.done ?_
      refine J.thenN ?_
      refine J.block ?_
      refine J.loopI (A := Int) (B := Unit) (law39_same_s1 p0 p1) (fun a6 b7 => [(0, v0), (1, v1), (5, Value.int .i64 (a6))]) (fun a6 b7 => []) (fun a6 b7 => [Sl RI64I64p v0 p0, Sl RI64I64p v1 p1]) (0 : Int) (()) h (by repeat (first | exact SubF.nil | refine SubF.cons rfl ?_)) (SubM.refl _) (LentAll.refl _ _) ?_
      clear h
      intro k8 a6 b7 h
      unfold law39_same_s1 at h
      refine J.seq ?_
      refine J.seq ?_
      refine J.region ?_
      refine J.quiet (Y.move rfl) rfl ?_
      refine J.quiet (Y.move rfl) rfl ?_
      refine J.quiet (Y.lenS rfl (Lent.fact 0 rfl) rfl) rfl ?_
      refine J.quiet (Y.lss rfl rfl) rfl ?_
      refine J.done ?_
      refine J.thenN ?_
      refine J.condD (by exact rfl) (fun hp9 => ?_) (fun hp9 => ?_)
      · replace h := ifP hp9 h
        refine J.skip ?_
        refine J.thenN ?_
        refine J.seq ?_
        refine J.block ?_
        refine J.seq ?_
        refine JR.start [0, 0, 3, 7, 0, 0, 48, 112, 255] 8 mixedOrders (by decide +kernel) ?_
        refine JR.open (by exact rfl) ?_
        refine JR.qt rfl (SubM.refl _) (SubL.nil) (Y.move rfl) HistOk.z ?_
        refine JR.qt rfl (SubM.refl _) (SubL.nil) (Y.move rfl) HistOk.z ?_
        replace h := ck_some h; obtain ⟨hc10, h⟩ := h
        refine JR.qt rfl (SubM.refl _) (SubL.cons (List.mem_of_getElem? (i := 0) rfl) (SubL.nil)) (Y.indexS rfl rfl (Lent.fact 0 rfl) rfl rfl hc10) HistOk.z ?_
        refine JR.qt rfl (SubM.refl _) (SubL.cons (List.mem_of_getElem? (i := 0) rfl) (SubL.nil)) (Y.loadAggS (cs := [Value.int .i64 ((at' p0 a6).1), Value.int .i64 ((at' p0 a6).2)]) rfl (Lent.fact 0 rfl) FI64I64p rfl rfl rfl rfl hc10) HistOk.z ?_
        refine JR.qt rfl (SubM.refl _) (SubL.nil) (Y.move rfl) HistOk.z ?_
        refine JR.qt rfl (SubM.refl _) (SubL.nil) (Y.move rfl) HistOk.z ?_
        replace h := ck_some h; obtain ⟨hc11, h⟩ := h
        refine JR.qt rfl (SubM.refl _) (SubL.cons (List.mem_of_getElem? (i := 1) rfl) (SubL.nil)) (Y.indexS rfl rfl (Lent.fact 0 rfl) rfl rfl hc11) HistOk.z ?_
        refine JR.qt rfl (SubM.refl _) (SubL.cons (List.mem_of_getElem? (i := 1) rfl) (SubL.nil)) (Y.loadAggS (cs := [Value.int .i64 ((at' p1 a6).1), Value.int .i64 ((at' p1 a6).2)]) rfl (Lent.fact 0 rfl) FI64I64p rfl rfl rfl rfl hc11) HistOk.z ?_
        refine JR.tailD 8 rfl rfl ?_
        refine J.quiet (Y.eqAN rfl rfl (eq_T42N (((at' p0 a6).1), ((at' p0 a6).2)) (((at' p1 a6).1), ((at' p1 a6).2)) _ _)) rfl ?_
        refine J.done ?_
        refine J.thenN ?_
        refine J.condD (by exact rfl) (fun hp12 => ?_) (fun hp12 => ?_)
        · replace h := ifP hp12 h
          refine J.seq ?_
          refine J.region ?_
          refine J.quiet (Y.assign rfl) rfl ?_
          refine J.done ?_
          refine J.thenN ?_
          refine J.ret ?_
          refine J.inR ?_
          refine J.thenR ?_
          refine J.thenR ?_
          refine J.inR ?_
          refine J.thenR ?_
          obtain rfl := Option.some.inj h
          exact J.retG1 (()) rfl rfl (RV.tmp rfl) (SubM.refl _) LentAll.nil
        · replace h := ifN hp12 h
          refine J.skip ?_
          refine J.inN ?_
          refine J.thenN ?_
          refine J.region ?_
          refine J.quiet (Y.move rfl) rfl ?_
          refine J.quiet (Y.addW rfl rfl) rfl ?_
          refine J.quiet (Y.assign rfl) rfl ?_
          refine J.done ?_
          refine J.thenN ?_
          exact J.againI (wI .i64 (a6 + (1 : Int))) (()) h (by repeat (first | exact SubF.nil | refine SubF.cons rfl ?_)) (SubM.refl _) (LentAll.refl _ _)
      · replace h := ifN hp9 h
        refine J.exit ?_
        refine J.thenX ?_
        refine J.thenX ?_
        refine J.inX ?_
        refine J.thenN ?_
        exact J.meetI (()) (()) h (by repeat (first | exact SubF.nil | refine SubF.cons rfl ?_)) (SubM.refl _) (LentAll.refl _ _)
    · clear h
      intro a2 b3 h
      unfold law39_same_k1 at h
      refine J.seq ?_
      refine J.region ?_
      refine J.quiet (Y.assign rfl) rfl ?_
      refine J.done ?_
      refine J.thenN ?_
      refine J.ret ?_
      obtain rfl := Option.some.inj h
      exact J.retG1 (()) rfl rfl (RV.tmp rfl) (SubM.refl _) LentAll.nil

end Go.Proofs.Ytmajgimhmfeliaa
end
section
set_option linter.unusedVariables false
set_option linter.unusedSimpArgs false
namespace Go.Proofs.Ytmajgimhmfeliaa
open Go.Sx
set_option linter.unusedVariables false
set_option linter.unusedSimpArgs false
def world_Within_k1  (a4 : Int) : Option (Int) :=
  some (a4)
def m_world_Within (fuel : Nat) (p0 : Int) (p1 : Int) : Option (Int) :=
  if p1 < (1 : Int) then (some (0 : Int)) else (ck (p1 ≠ 0) (if (Int.tmod p0 p1) < (0 : Int) then (world_Within_k1  (wI .i64 ((Int.tmod p0 p1) + p1))) else (world_Within_k1  (Int.tmod p0 p1))))

theorem body14 : HasBody Try.prog 14 := Try.call14

set_option maxHeartbeats 4000000 in
set_option maxRecDepth 20000 in
theorem t_world_Within (fuel : Nat) {p0 : Int} {p1 : Int} (r : Int) (h : m_world_Within fuel p0 p1 = some r) :
    Meets Try.prog 14 #[Value.int .i64 (p0), Value.int .i64 (p1)] [] (fun x : Unit => Value.int .i64 (r)) (fun x l => l) (fun _ l => l) := by
  refine Meets.of (vs := [Value.int .i64 (p0), Value.int .i64 (p1)]) Try.func14 rfl Try.ntmps14 rfl fun c => ?_
  unfold m_world_Within at h
  refine J.seq ?_
  refine J.region ?_
  refine J.quiet (Y.assign rfl) rfl ?_
  refine J.done ?_
  refine J.thenN ?_
  refine J.seq ?_
  refine J.seq ?_
  refine J.region ?_
  refine J.quiet (Y.move rfl) rfl ?_
  refine J.quiet (Y.lss rfl rfl) rfl ?_
  refine J.done ?_
  refine J.thenN ?_
  refine J.condD (by exact rfl) (fun hp1 => ?_) (fun hp1 => ?_)
  · replace h := ifP hp1 h
    refine J.seq ?_
    refine J.region ?_
    refine J.quiet (Y.assign rfl) rfl ?_
    refine J.done ?_
    refine J.thenN ?_
    refine J.ret ?_
    refine J.thenR ?_
    obtain rfl := Option.some.inj h
    exact J.retG1 (()) rfl rfl (RV.tmp rfl) (SubM.refl _) LentAll.nil
  · replace h := ifN hp1 h
    refine J.skip ?_
    refine J.thenN ?_
    refine J.seq ?_
    refine J.region ?_
    refine J.quiet (Y.move rfl) rfl ?_
    refine J.quiet (Y.move rfl) rfl ?_
    replace h := ck_some h; obtain ⟨hc2, h⟩ := h
    refine J.quiet (Y.rem rfl rfl hc2) rfl ?_
    refine J.quiet (Y.assign rfl) rfl ?_
    refine J.done ?_
    refine J.thenN ?_
    refine J.seq ?_
    refine J.midI (A := Int) (B := Unit) (fun a4 => world_Within_k1  a4 = some r) (fun a4 b5 => [(0, Value.int .i64 (a4))]) (fun a4 b5 => []) (fun a4 b5 => []) ?_ ?_
    · refine J.seq ?_
      refine J.region ?_
      refine J.quiet (Y.move rfl) rfl ?_
      refine J.quiet (Y.lss rfl rfl) rfl ?_
      refine J.done ?_
      refine J.thenN ?_
      refine J.condD (by exact rfl) (fun hp6 => ?_) (fun hp6 => ?_)
      · replace h := ifP hp6 h
        refine J.region ?_
        refine J.quiet (Y.move rfl) rfl ?_
        refine J.quiet (Y.move rfl) rfl ?_
        refine J.quiet (Y.addW rfl rfl) rfl ?_
        refine J.quiet (Y.assign rfl) rfl ?_
        refine J.done ?_
        refine J.thenN ?_
        exact J.meetI (wI .i64 ((Int.tmod p0 p1) + p1)) (()) h (by repeat (first | exact SubF.nil | refine SubF.cons rfl ?_)) (SubM.refl _) (LentAll.refl _ _)
      · replace h := ifN hp6 h
        refine J.skip ?_
        refine J.thenN ?_
        exact J.meetI (Int.tmod p0 p1) (()) h (by repeat (first | exact SubF.nil | refine SubF.cons rfl ?_)) (SubM.refl _) (LentAll.refl _ _)
    · clear h
      intro a4 b5 h
      unfold world_Within_k1 at h
      refine J.seq ?_
      refine J.region ?_
      refine J.quiet (Y.move rfl) rfl ?_
      refine J.quiet (Y.assign rfl) rfl ?_
      refine J.done ?_
      refine J.thenN ?_
      refine J.ret ?_
      obtain rfl := Option.some.inj h
      exact J.retG1 (()) rfl rfl (RV.tmp rfl) (SubM.refl _) LentAll.nil

end Go.Proofs.Ytmajgimhmfeliaa
end
section
set_option linter.unusedVariables false
set_option linter.unusedSimpArgs false
namespace Go.Proofs.Ytmajgimhmfeliaa
open Go.Sx
set_option linter.unusedVariables false
set_option linter.unusedSimpArgs false
def m_world_at (fuel : Nat) (p0 : List (Int)) (p1 : Int) : Option (Int) :=
  if p1 < (List.length p0 : Int) then (ck (0 ≤ p1 ∧ p1 < (List.length p0 : Int)) (some (at' p0 p1))) else (some (0 : Int))

theorem body52 : HasBody Try.prog 52 := Try.call52

set_option maxHeartbeats 4000000 in
set_option maxRecDepth 20000 in
theorem t_world_at (fuel : Nat) {p0 : List (Int)} {p1 : Int} (v0 : Value) (r : Int) (h : m_world_at fuel p0 p1 = some r) :
    Meets Try.prog 52 #[v0, Value.int .i64 (p1)] [Sl RI64 v0 p0] (fun x : Unit => Value.int .i64 (r)) (fun x l => l) (fun _ l => l) := by
  refine Meets.of (vs := [v0, Value.int .i64 (p1)]) Try.func52 rfl Try.ntmps52 rfl fun c => ?_
  unfold m_world_at at h
  refine J.seq ?_
  refine J.region ?_
  refine J.quiet (Y.assign rfl) rfl ?_
  refine J.done ?_
  refine J.thenN ?_
  refine J.seq ?_
  refine J.seq ?_
  refine J.region ?_
  refine J.quiet (Y.move rfl) rfl ?_
  refine J.quiet (Y.move rfl) rfl ?_
  refine J.quiet (Y.lenS rfl (Lent.fact 0 rfl) rfl) rfl ?_
  refine J.quiet (Y.lss rfl rfl) rfl ?_
  refine J.done ?_
  refine J.thenN ?_
  refine J.condD (by exact rfl) (fun hp1 => ?_) (fun hp1 => ?_)
  · replace h := ifP hp1 h
    refine J.seq ?_
    refine J.region ?_
    refine J.quiet (Y.move rfl) rfl ?_
    refine J.quiet (Y.move rfl) rfl ?_
    replace h := ck_some h; obtain ⟨hc2, h⟩ := h
    refine J.quiet (Y.indexS rfl rfl (Lent.fact 0 rfl) rfl rfl hc2) rfl ?_
    refine J.quiet (Y.loadS0 rfl (Lent.fact 0 rfl) rfl rfl rfl RI64c0 hc2) rfl ?_
    refine J.quiet (Y.assign rfl) rfl ?_
    refine J.done ?_
    refine J.thenN ?_
    refine J.ret ?_
    refine J.thenR ?_
    obtain rfl := Option.some.inj h
    exact J.retG1 (()) rfl rfl (RV.tmp rfl) (SubM.refl _) LentAll.nil
  · replace h := ifN hp1 h
    refine J.skip ?_
    refine J.thenN ?_
    refine J.seq ?_
    refine J.region ?_
    refine J.quiet (Y.assign rfl) rfl ?_
    refine J.done ?_
    refine J.thenN ?_
    refine J.ret ?_
    obtain rfl := Option.some.inj h
    exact J.retG1 (()) rfl rfl (RV.tmp rfl) (SubM.refl _) LentAll.nil

end Go.Proofs.Ytmajgimhmfeliaa
end
section
set_option linter.unusedVariables false
set_option linter.unusedSimpArgs false
namespace Go.Proofs.Ytmajgimhmfeliaa
open Go.Sx
set_option linter.unusedVariables false
set_option linter.unusedSimpArgs false
def _world_Net__nodes_k1 (r3 : Int) (a13 : List (Int)) : Option ((List (Int) × (List (List (Int × Int))))) :=
  some ((a13, (List.replicate (Int.toNat (wI .i64 ((1 : Int) + r3))) ([] : List (Int × Int)))))
def _world_Net__nodes_k2 (a21 : Int × List (Int)) (ag20 : (Int × List (Int)) → Option ((List (Int) × (List (List (Int × Int)))))) (a32 : Int) : Option ((List (Int) × (List (List (Int × Int))))) :=
  ck ((List.length a21.2 : Int) + (List.length ([a32]) : Int) ≤ 1099511627) (ag20 ((wI .i64 (a21.1 + (1 : Int))), (a21.2 ++ [a32])))
def _world_Net__nodes_k3 (ag40 : (Int × Int) → Option ((List (Int) × (List (List (Int × Int)))))) (a47 : Int × Int) : Option ((List (Int) × (List (List (Int × Int))))) :=
  ag40 (a47.1, (wI .i64 (a47.2 + (1 : Int))))
def _world_Net__nodes_s2 (a21 : Int × List (Int)) (ag20 : (Int × List (Int)) → Option ((List (Int) × (List (List (Int × Int)))))) (a41 : Int × Int) (ag40 : (Int × Int) → Option ((List (Int) × (List (List (Int × Int)))))) : Option ((List (Int) × (List (List (Int × Int))))) :=
  if a41.2 < a21.1 then (ck (0 ≤ a41.2 ∧ a41.2 < (List.length a21.2 : Int)) (if (at' a21.2 a41.2) = a41.1 then (ck ((256 : Int) ≠ 0) (_world_Net__nodes_k3 ag40 ((Int.tmod (wI .i64 (a41.1 + (1 : Int))) (256 : Int)), (-1 : Int)))) else (_world_Net__nodes_k3 ag40 (a41.1, a41.2)))) else (_world_Net__nodes_k2 a21 ag20 (a41.1))
def _world_Net__nodes_s1 (fuel : Nat) (p0 : Int × List (Int) × List (Int) × List (Int) × Bool × Bool) (r3 : Int) (a21 : Int × List (Int)) (ag20 : (Int × List (Int)) → Option ((List (Int) × (List (List (Int × Int)))))) : Option ((List (Int) × (List (List (Int × Int))))) :=
  if a21.1 < (wI .i64 ((1 : Int) + r3)) then (Option.bind (m_world_at fuel p0.2.2.2.1 a21.1) fun r25 => (Option.bind (m_world_Within fuel r25 (256 : Int)) fun r28 => (iter (_world_Net__nodes_s2 a21 ag20) fuel (r28, (0 : Int))))) else (_world_Net__nodes_k1 r3 (a21.2))
def m__world_Net__nodes (fuel : Nat) (p0 : Int × List (Int) × List (Int) × List (Int) × Bool × Bool) (p1 : Int) : Option ((List (Int) × (List (List (Int × Int))))) :=
  Option.bind (m_world_Within fuel (wI .i64 (p0.1 - (1 : Int))) p1) fun r3 => (ck (0 ≤ (wI .i64 ((1 : Int) + r3)) ∧ (wI .i64 ((1 : Int) + r3)) ≤ 1099511627) (iter (_world_Net__nodes_s1 fuel p0 r3) fuel ((0 : Int), ([] : List Int))))

theorem body44 : HasBody Try.prog 44 := Try.call44

set_option maxHeartbeats 4000000 in
set_option maxRecDepth 20000 in
theorem t__world_Net__nodes (fuel : Nat) {p0 : Int × List (Int) × List (Int) × List (Int) × Bool × Bool} {p1 : Int} (v0 : Value)  (v1 : Value)  (v2 : Value) (r : (List (Int) × (List (List (Int × Int))))) (h : m__world_Net__nodes fuel p0 p1 = some r) :
    Meets Try.prog 44 #[Value.agg #[Value.int .i64 (p0.1), v0, v1, v2, Value.bool (p0.2.2.2.2.1), Value.bool (p0.2.2.2.2.2)], Value.int .i64 (p1)] [Sl RI64 v0 p0.2.1, Sl RI64 v1 p0.2.2.1, Sl RI64 v2 p0.2.2.2.1] (fun x : Value × Value × List Value => Value.agg #[x.1, x.2.1]) (fun x l => Ar EI64 x.1 r.1 :: Ar Enc.raw x.2.1 x.2.2 :: Rws EI64I64p x.2.2 r.2 :: l) (fun _ l => l) := by
  refine Meets.of (vs := [Value.agg #[Value.int .i64 (p0.1), v0, v1, v2, Value.bool (p0.2.2.2.2.1), Value.bool (p0.2.2.2.2.2)], Value.int .i64 (p1)]) Try.func44 rfl Try.ntmps44 rfl fun c => ?_
  unfold m__world_Net__nodes at h
  refine J.seq ?_
  refine J.region ?_
  refine J.loud (Loud.box (cs := [Value.int .i64 (p0.1), v0, v1, v2, Value.bool (p0.2.2.2.2.1), Value.bool (p0.2.2.2.2.2)]) rfl rfl) rfl fun b1 => ?_
  refine J.loud (Loud.alloc (cs := [Value.slice none 0 0, Value.slice none 0 0]) rfl rfl) rfl fun b2 => ?_
  refine J.done ?_
  refine J.thenN ?_
  refine J.seq ?_
  refine J.region ?_
  refine J.quiet (Y.fieldB rfl rfl rfl rfl rfl) rfl ?_
  refine J.quiet (Y.loadB 1 rfl rfl rfl rfl rfl) rfl ?_
  refine J.quiet (Y.subW rfl rfl) rfl ?_
  refine J.quiet (Y.move rfl) rfl ?_
  replace h := bnd h; obtain ⟨r3, hr4, h⟩ := h
  refine J.loud (Loud.callL body14 (t_world_Within fuel  r3 hr4) rfl (LentAll.nil) (fun _ _ => rfl)) rfl fun x5 => ?_
  refine J.quiet (Y.addW rfl rfl) rfl ?_
  refine J.quiet (Y.assign rfl) rfl ?_
  refine J.done ?_
  refine J.thenN ?_
  refine J.seq ?_
  refine J.region ?_
  refine J.quiet (Y.move rfl) rfl ?_
  replace h := ck_some h; obtain ⟨hc6, h⟩ := h
  refine J.stp (Stp.rowsNew EI64I64p (Int.toNat (wI .i64 ((1 : Int) + r3)))) ?_
  refine J.loud (Loud.makeS (e := Enc.raw) (Value.slice none 0 0) rfl rfl rfl rfl hc6 rfl rfl rfl) rfl fun u7 => ?_
  refine J.know (Know.one (Lent.sl (Lent.rows (i := 0) (j := 1) rfl rfl FI64I64p))) fun ho8 => ?_
  refine J.quiet (Y.bld1 (r := Value.agg #[Value.slice none 0 0, u7]) rfl (by intro w; simp [Instr.build, Instr.fill, cells_intV, cells_boolV, cells_sliceV, cells_ptrV, cells_strV, cells_funcV, cells_agg, one_cells ho8])) rfl ?_
  refine J.loud (Loud.alloc (cs := [Value.slice none 0 0, Value.slice none 0 0]) rfl rfl) rfl fun b9 => ?_
  refine J.know (Know.one (Lent.sl (Lent.rows (i := 1) (j := 2) rfl rfl FI64I64p))) fun ho10 => ?_
  refine J.storeAll 0 (vs := [Value.slice none 0 0, u7]) rfl rfl (all1 rfl (all1 ho10 rfl)) rfl rfl rfl ?_
  refine J.done ?_
  refine J.thenN ?_
  refine J.seq ?_
  refine J.midI (A := List (Int)) (B := Value) (fun a13 => _world_Net__nodes_k1 r3 a13 = some r) (fun a13 b14 => [(4, Value.pointer (some ⟨b2, 0, none⟩)), (6, Value.pointer (some ⟨b9, 0, none⟩))]) (fun a13 b14 => [Blk b9 [b14, u7] 29, Ar Enc.raw u7 (List.replicate (Int.toNat (wI .i64 ((1 : Int) + r3))) (Value.slice none 0 0)), Rws EI64I64p (List.replicate (Int.toNat (wI .i64 ((1 : Int) + r3))) (Value.slice none 0 0)) (List.replicate (Int.toNat (wI .i64 ((1 : Int) + r3))) ([] : List (Int × Int))), Blk b2 [Value.slice none 0 0, Value.slice none 0 0] 29, Ar EI64 b14 a13]) (fun a13 b14 => [Sl RI64 v0 p0.2.1, Sl RI64 v1 p0.2.2.1, Sl RI64 v2 p0.2.2.2.1]) ?_ ?_
  · refine J.seq ?_
    refine J.region ?_
    refine J.quiet (Y.assign rfl) rfl ?_
    refine J.done ?_
    refine J.thenN ?_
    refine J.block ?_
    refine J.stp (Stp.nilAr EI64) ?_
    refine J.loopI (A := Int × List (Int)) (B := Value) (_world_Net__nodes_s1 fuel p0 r3) (fun a21 b22 => [(2, Value.pointer (some ⟨b1, 0, none⟩)), (4, Value.pointer (some ⟨b2, 0, none⟩)), (5, Value.int .i64 (wI .i64 ((1 : Int) + r3))), (6, Value.pointer (some ⟨b9, 0, none⟩)), (7, Value.int .i64 (a21.1))]) (fun a21 b22 => [Blk b9 [b22, u7] 29, Ar Enc.raw u7 (List.replicate (Int.toNat (wI .i64 ((1 : Int) + r3))) (Value.slice none 0 0)), Rws EI64I64p (List.replicate (Int.toNat (wI .i64 ((1 : Int) + r3))) (Value.slice none 0 0)) (List.replicate (Int.toNat (wI .i64 ((1 : Int) + r3))) ([] : List (Int × Int))), Blk b2 [Value.slice none 0 0, Value.slice none 0 0] 29, Blk b1 [Value.int .i64 (p0.1), v0, v1, v2, Value.bool (p0.2.2.2.2.1), Value.bool (p0.2.2.2.2.2)] 24, Ar EI64 b22 a21.2]) (fun a21 b22 => [Sl RI64 v0 p0.2.1, Sl RI64 v1 p0.2.2.1, Sl RI64 v2 p0.2.2.2.1]) ((0 : Int), ([] : List Int)) (Value.slice none 0 0) h (by repeat (first | exact SubF.nil | refine SubF.cons rfl ?_)) (SubM.cons 1 rfl (SubM.cons 1 rfl (SubM.cons 1 rfl (SubM.cons 1 rfl (SubM.cons 1 rfl (SubM.cons 0 rfl (SubM.nil))))))) (LentAll.refl _ _) ?_
    clear h
    intro k23 a21 b22 h
    unfold _world_Net__nodes_s1 at h
    refine J.seq ?_
    refine J.seq ?_
    refine J.region ?_
    refine J.quiet (Y.move rfl) rfl ?_
    refine J.quiet (Y.move rfl) rfl ?_
    refine J.quiet (Y.lss rfl rfl) rfl ?_
    refine J.done ?_
    refine J.thenN ?_
    refine J.condD (by exact rfl) (fun hp24 => ?_) (fun hp24 => ?_)
    · replace h := ifP hp24 h
      refine J.skip ?_
      refine J.thenN ?_
      refine J.seq ?_
      refine J.block ?_
      refine J.seq ?_
      refine J.region ?_
      refine J.quiet (Y.fieldB rfl rfl rfl rfl rfl) rfl ?_
      refine J.quiet (Y.loadB 4 rfl rfl rfl rfl rfl) rfl ?_
      refine J.quiet (Y.move rfl) rfl ?_
      replace h := bnd h; obtain ⟨r25, hr26, h⟩ := h
      refine J.loud (Loud.callL body52 (t_world_at fuel v2 r25 hr26) rfl (LentAll.cons (Lent.fact 2 rfl) (LentAll.nil)) (fun _ _ => rfl)) rfl fun x27 => ?_
      replace h := bnd h; obtain ⟨r28, hr29, h⟩ := h
      refine J.loud (Loud.callL body14 (t_world_Within fuel  r28 hr29) rfl (LentAll.nil) (fun _ _ => rfl)) rfl fun x30 => ?_
      refine J.quiet (Y.assign rfl) rfl ?_
      refine J.done ?_
      refine J.thenN ?_
      refine J.seq ?_
      refine J.midI (A := Int) (B := Unit) (fun a32 => _world_Net__nodes_k2 a21 (iter (_world_Net__nodes_s1 fuel p0 r3) k23) a32 = some r) (fun a32 b33 => [(2, Value.pointer (some ⟨b1, 0, none⟩)), (4, Value.pointer (some ⟨b2, 0, none⟩)), (5, Value.int .i64 (wI .i64 ((1 : Int) + r3))), (6, Value.pointer (some ⟨b9, 0, none⟩)), (7, Value.int .i64 (a21.1)), (8, Value.int .i64 (a32))]) (fun a32 b33 => [Blk b9 [b22, u7] 29, Ar Enc.raw u7 (List.replicate (Int.toNat (wI .i64 ((1 : Int) + r3))) (Value.slice none 0 0)), Rws EI64I64p (List.replicate (Int.toNat (wI .i64 ((1 : Int) + r3))) (Value.slice none 0 0)) (List.replicate (Int.toNat (wI .i64 ((1 : Int) + r3))) ([] : List (Int × Int))), Blk b2 [Value.slice none 0 0, Value.slice none 0 0] 29, Blk b1 [Value.int .i64 (p0.1), v0, v1, v2, Value.bool (p0.2.2.2.2.1), Value.bool (p0.2.2.2.2.2)] 24, Ar EI64 b22 a21.2]) (fun a32 b33 => [Sl RI64 v0 p0.2.1, Sl RI64 v1 p0.2.2.1, Sl RI64 v2 p0.2.2.2.1]) ?_ ?_
      · refine J.seq ?_
        refine J.region ?_
        refine J.quiet (Y.assign rfl) rfl ?_
        refine J.done ?_
        refine J.thenN ?_
        refine J.block ?_
        refine J.loopI (A := Int × Int) (B := Unit) (_world_Net__nodes_s2 a21 (iter (_world_Net__nodes_s1 fuel p0 r3) k23)) (fun a41 b42 => [(2, Value.pointer (some ⟨b1, 0, none⟩)), (4, Value.pointer (some ⟨b2, 0, none⟩)), (5, Value.int .i64 (wI .i64 ((1 : Int) + r3))), (6, Value.pointer (some ⟨b9, 0, none⟩)), (7, Value.int .i64 (a21.1)), (8, Value.int .i64 (a41.1)), (9, Value.int .i64 (a41.2))]) (fun a41 b42 => [Blk b9 [b22, u7] 29, Ar Enc.raw u7 (List.replicate (Int.toNat (wI .i64 ((1 : Int) + r3))) (Value.slice none 0 0)), Rws EI64I64p (List.replicate (Int.toNat (wI .i64 ((1 : Int) + r3))) (Value.slice none 0 0)) (List.replicate (Int.toNat (wI .i64 ((1 : Int) + r3))) ([] : List (Int × Int))), Blk b2 [Value.slice none 0 0, Value.slice none 0 0] 29, Blk b1 [Value.int .i64 (p0.1), v0, v1, v2, Value.bool (p0.2.2.2.2.1), Value.bool (p0.2.2.2.2.2)] 24, Ar EI64 b22 a21.2]) (fun a41 b42 => [Sl RI64 v0 p0.2.1, Sl RI64 v1 p0.2.2.1, Sl RI64 v2 p0.2.2.2.1]) (r28, (0 : Int)) (()) h (by repeat (first | exact SubF.nil | refine SubF.cons rfl ?_)) (SubM.refl _) (LentAll.refl _ _) ?_
        clear h
        intro k43 a41 b42 h
        unfold _world_Net__nodes_s2 at h
        refine J.seq ?_
        refine J.seq ?_
        refine J.region ?_
        refine J.quiet (Y.move rfl) rfl ?_
        refine J.quiet (Y.move rfl) rfl ?_
        refine J.quiet (Y.lss rfl rfl) rfl ?_
        refine J.done ?_
        refine J.thenN ?_
        refine J.condD (by exact rfl) (fun hp44 => ?_) (fun hp44 => ?_)
        · replace h := ifP hp44 h
          refine J.skip ?_
          refine J.thenN ?_
          refine J.seq ?_
          refine J.midI (A := Int × Int) (B := Unit) (fun a47 => _world_Net__nodes_k3 (iter (_world_Net__nodes_s2 a21 (iter (_world_Net__nodes_s1 fuel p0 r3) k23)) k43) a47 = some r) (fun a47 b48 => [(2, Value.pointer (some ⟨b1, 0, none⟩)), (4, Value.pointer (some ⟨b2, 0, none⟩)), (5, Value.int .i64 (wI .i64 ((1 : Int) + r3))), (6, Value.pointer (some ⟨b9, 0, none⟩)), (7, Value.int .i64 (a21.1)), (8, Value.int .i64 (a47.1)), (9, Value.int .i64 (a47.2))]) (fun a47 b48 => [Blk b9 [b22, u7] 29, Ar Enc.raw u7 (List.replicate (Int.toNat (wI .i64 ((1 : Int) + r3))) (Value.slice none 0 0)), Rws EI64I64p (List.replicate (Int.toNat (wI .i64 ((1 : Int) + r3))) (Value.slice none 0 0)) (List.replicate (Int.toNat (wI .i64 ((1 : Int) + r3))) ([] : List (Int × Int))), Blk b2 [Value.slice none 0 0, Value.slice none 0 0] 29, Blk b1 [Value.int .i64 (p0.1), v0, v1, v2, Value.bool (p0.2.2.2.2.1), Value.bool (p0.2.2.2.2.2)] 24, Ar EI64 b22 a21.2]) (fun a47 b48 => [Sl RI64 v0 p0.2.1, Sl RI64 v1 p0.2.2.1, Sl RI64 v2 p0.2.2.2.1]) ?_ ?_
          · refine J.block ?_
            refine J.seq ?_
            refine J.region ?_
            refine J.quiet (Y.fieldB rfl rfl rfl rfl rfl) rfl ?_
            refine J.quiet (Y.loadB 0 rfl rfl rfl rfl rfl) rfl ?_
            refine J.quiet (Y.move rfl) rfl ?_
            replace h := ck_some h; obtain ⟨hc49, h⟩ := h
            refine J.quiet (Y.indexS rfl rfl (Lent.ar (Lent.res 5 rfl) FI64) rfl rfl hc49) rfl ?_
            refine J.quiet (Y.loadS0 rfl (Lent.ar (Lent.res 5 rfl) FI64) rfl rfl rfl RI64c0 hc49) rfl ?_
            refine J.quiet (Y.move rfl) rfl ?_
            refine J.quiet (Y.eql rfl rfl) rfl ?_
            refine J.done ?_
            refine J.thenN ?_
            refine J.condD (by exact rfl) (fun hp50 => ?_) (fun hp50 => ?_)
            · replace h := ifP hp50 h
              refine J.region ?_
              refine J.quiet (Y.move rfl) rfl ?_
              refine J.quiet (Y.addW rfl rfl) rfl ?_
              replace h := ck_some h; obtain ⟨hc51, h⟩ := h
              refine J.quiet (Y.rem rfl rfl hc51) rfl ?_
              refine J.quiet (Y.assign rfl) rfl ?_
              refine J.quiet (Y.assign rfl) rfl ?_
              refine J.done ?_
              refine J.inN ?_
              refine J.thenN ?_
              exact J.meetI ((Int.tmod (wI .i64 (a41.1 + (1 : Int))) (256 : Int)), (-1 : Int)) (()) h (by repeat (first | exact SubF.nil | refine SubF.cons rfl ?_)) (SubM.refl _) (LentAll.refl _ _)
            · replace h := ifN hp50 h
              refine J.skip ?_
              refine J.inN ?_
              refine J.thenN ?_
              exact J.meetI (a41.1, a41.2) (()) h (by repeat (first | exact SubF.nil | refine SubF.cons rfl ?_)) (SubM.refl _) (LentAll.refl _ _)
          · clear h
            intro a47 b48 h
            unfold _world_Net__nodes_k3 at h
            refine J.region ?_
            refine J.quiet (Y.move rfl) rfl ?_
            refine J.quiet (Y.addW rfl rfl) rfl ?_
            refine J.quiet (Y.assign rfl) rfl ?_
            refine J.done ?_
            refine J.thenN ?_
            exact J.againI (a47.1, (wI .i64 (a47.2 + (1 : Int)))) (()) h (by repeat (first | exact SubF.nil | refine SubF.cons rfl ?_)) (SubM.refl _) (LentAll.refl _ _)
        · replace h := ifN hp44 h
          refine J.exit ?_
          refine J.thenX ?_
          refine J.thenX ?_
          refine J.inX ?_
          refine J.thenN ?_
          exact J.meetI (a41.1) (()) h (by repeat (first | exact SubF.nil | refine SubF.cons rfl ?_)) (SubM.refl _) (LentAll.refl _ _)
      · clear h
        intro a32 b33 h
        unfold _world_Net__nodes_k2 at h
        refine J.region ?_
        refine J.quiet (Y.fieldB rfl rfl rfl rfl rfl) rfl ?_
        refine J.quiet (Y.loadB 0 rfl rfl rfl rfl rfl) rfl ?_
        refine J.quiet (Y.move rfl) rfl ?_
        refine J.loud (Loud.buildS (e := EI64) ([a32]) [(0, Value.int .i64 (a32))] rfl rfl rfl rfl (fill_1_1 (Value.int .i64 (a32)) rfl) rfl rfl rfl) rfl fun u34 => ?_
        replace h := ck_some h; obtain ⟨hc36, h⟩ := h
        refine J.loud (Loud.appendL 6 FI64 rfl rfl rfl (Lent.ar (Lent.res 0 rfl) FI64) rfl rfl rfl rfl hc36 rfl) rfl fun u35 => ?_
        refine J.quiet (Y.fieldB rfl rfl rfl rfl rfl) rfl ?_
        refine J.know (Know.one ((Lent.ar (Lent.res 6 rfl) FI64))) fun ho37 => ?_
        refine J.store1 1 rfl rfl ho37 rfl rfl rfl ?_
        refine J.done ?_
        refine J.inN ?_
        refine J.thenN ?_
        refine J.region ?_
        refine J.quiet (Y.move rfl) rfl ?_
        refine J.quiet (Y.addW rfl rfl) rfl ?_
        refine J.quiet (Y.assign rfl) rfl ?_
        refine J.done ?_
        refine J.thenN ?_
        exact J.againI ((wI .i64 (a21.1 + (1 : Int))), (a21.2 ++ [a32])) (u35) h (by repeat (first | exact SubF.nil | refine SubF.cons rfl ?_)) (SubM.cons 1 rfl (SubM.cons 1 rfl (SubM.cons 1 rfl (SubM.cons 1 rfl (SubM.cons 1 rfl (SubM.cons 1 rfl (SubM.nil))))))) (LentAll.refl _ _)
    · replace h := ifN hp24 h
      refine J.exit ?_
      refine J.thenX ?_
      refine J.thenX ?_
      refine J.inX ?_
      refine J.thenN ?_
      exact J.meetI (a21.2) (b22) h (by repeat (first | exact SubF.nil | refine SubF.cons rfl ?_)) (SubM.cons 0 rfl (SubM.cons 0 rfl (SubM.cons 0 rfl (SubM.cons 0 rfl (SubM.cons 1 rfl (SubM.nil)))))) (LentAll.refl _ _)
  · clear h
    intro a13 b14 h
    unfold _world_Net__nodes_k1 at h
    refine J.seq ?_
    refine J.region ?_
    refine J.quiet (Y.loadBAll 0 rfl rfl rfl rfl) rfl ?_
    refine J.know (Know.one ((Lent.ar (Lent.res 4 rfl) FI64))) fun ho15 => ?_
    refine J.know (Know.one (Lent.sl (Lent.rows (i := 1) (j := 2) rfl rfl FI64I64p))) fun ho16 => ?_
    refine J.storeAll 3 (vs := [b14, u7]) rfl rfl (all1 ho15 (all1 ho16 rfl)) rfl rfl rfl ?_
    refine J.done ?_
    refine J.thenN ?_
    refine J.ret ?_
    obtain rfl := Option.some.inj h
    exact J.retG1 (b14, u7, (List.replicate (Int.toNat (wI .i64 ((1 : Int) + r3))) (Value.slice none 0 0))) rfl rfl (RV.cell 3 rfl rfl rfl rfl) (SubM.cons 4 rfl (SubM.cons 1 rfl (SubM.cons 1 rfl (SubM.nil)))) LentAll.nil

end Go.Proofs.Ytmajgimhmfeliaa
end
section
set_option linter.unusedVariables false
set_option linter.unusedSimpArgs false
namespace Go.Proofs.Ytmajgimhmfeliaa
open Go.Sx
set_option linter.unusedVariables false
set_option linter.unusedSimpArgs false
def world_linked_k1  (a2 : Unit) : Option (Bool) :=
  some (false)
def world_linked_s1 (p0 : List (Int) × (List (List (Int × Int)))) (p1 : Int) (p2 : Int) (a6 : Int) (ag5 : (Int) → Option (Bool)) : Option (Bool) :=
  ck (0 ≤ p1 ∧ p1 < (List.length p0.2 : Int)) (if a6 < (List.length (at' p0.2 p1) : Int) then (ck (0 ≤ p1 ∧ p1 < (List.length p0.2 : Int)) (ck (0 ≤ a6 ∧ a6 < (List.length (at' p0.2 p1) : Int)) (if ((at' (at' p0.2 p1) a6).1) = p2 then (some (true)) else (ag5 (wI .i64 (a6 + (1 : Int))))))) else (world_linked_k1  (())))
def m_world_linked (fuel : Nat) (p0 : List (Int) × (List (List (Int × Int)))) (p1 : Int) (p2 : Int) : Option (Bool) :=
  iter (world_linked_s1 p0 p1 p2) fuel (0 : Int)

theorem body75 : HasBody Try.prog 75 := Try.call75

set_option maxHeartbeats 4000000 in
set_option maxRecDepth 20000 in
theorem t_world_linked (fuel : Nat) {p0 : List (Int) × (List (List (Int × Int)))} {p1 : Int} {p2 : Int} (v0 : Value)  (v1 : Value)  (z2 : List (Value × List (Int × Int))) (r : Bool) (h : m_world_linked fuel p0 p1 p2 = some r) :
    Meets Try.prog 75 #[Value.agg #[v0, v1], Value.int .i64 (p1), Value.int .i64 (p2)] [Sl RI64 v0 p0.1, S2 RI64I64p v1 z2 p0.2] (fun x : Unit => Value.bool (r)) (fun x l => l) (fun _ l => l) := by
  refine Meets.of (vs := [Value.agg #[v0, v1], Value.int .i64 (p1), Value.int .i64 (p2)]) Try.func75 rfl Try.ntmps75 rfl fun c => ?_
  unfold m_world_linked at h
  refine J.seq ?_
  refine J.region ?_
  refine J.loud (Loud.box (cs := [v0, v1]) rfl rfl) rfl fun b1 => ?_
  refine J.quiet (Y.assign rfl) rfl ?_
  refine J.done ?_
  refine J.thenN ?_
  refine J.seq ?_
  refine J.midI (A := Unit) (B := Unit) (fun a2 => world_linked_k1  a2 = some r) (fun a2 b3 => []) (fun a2 b3 => []) (fun a2 b3 => [Sl RI64 v0 p0.1, S2 RI64I64p v1 z2 p0.2]) ?_ ?_
  · refine J.seq ?_
    refine J.region ?_
    refine J.quiet (Y.assign rfl) rfl ?_
    refine J.done ?_
    refine J.thenN ?_
    refine J.block ?_
    refine J.loopI (A := Int) (B := Unit) (world_linked_s1 p0 p1 p2) (fun a6 b7 => [(1, Value.int .i64 (p1)), (2, Value.int .i64 (p2)), (3, Value.pointer (some ⟨b1, 0, none⟩)), (7, Value.int .i64 (a6))]) (fun a6 b7 => [Blk b1 [v0, v1] 29]) (fun a6 b7 => [Sl RI64 v0 p0.1, S2 RI64I64p v1 z2 p0.2]) (0 : Int) (()) h (by repeat (first | exact SubF.nil | refine SubF.cons rfl ?_)) (SubM.refl _) (LentAll.refl _ _) ?_
    clear h
    intro k8 a6 b7 h
    unfold world_linked_s1 at h
    refine J.seq ?_
    refine J.seq ?_
    refine J.region ?_
    refine J.quiet (Y.move rfl) rfl ?_
    refine J.quiet (Y.fieldB rfl rfl rfl rfl rfl) rfl ?_
    refine J.quiet (Y.loadB 0 rfl rfl rfl rfl rfl) rfl ?_
    refine J.quiet (Y.move rfl) rfl ?_
    replace h := ck_some h; obtain ⟨hc9, h⟩ := h
    refine J.quiet (Y.indexN rfl rfl (Lent.fact 1 rfl) rfl rfl hc9) rfl ?_
    refine J.quiet (Y.loadRow rfl (Lent.fact 1 rfl) rfl rfl hc9) rfl ?_
    refine J.quiet (Y.lenS rfl (Lent.el (Lent.fact 1 rfl) hc9.1 hc9.2) rfl) rfl ?_
    refine J.quiet (Y.lss rfl rfl) rfl ?_
    refine J.done ?_
    refine J.thenN ?_
    refine J.condD (by exact rfl) (fun hp10 => ?_) (fun hp10 => ?_)
    · replace h := ifP hp10 h
      refine J.skip ?_
      refine J.thenN ?_
      refine J.seq ?_
      refine J.block ?_
      refine J.seq ?_
      refine J.region ?_
      refine J.quiet (Y.fieldB rfl rfl rfl rfl rfl) rfl ?_
      refine J.quiet (Y.loadB 0 rfl rfl rfl rfl rfl) rfl ?_
      refine J.quiet (Y.move rfl) rfl ?_
      replace h := ck_some h; obtain ⟨hc11, h⟩ := h
      refine J.quiet (Y.indexN rfl rfl (Lent.fact 1 rfl) rfl rfl hc11) rfl ?_
      refine J.quiet (Y.loadRow rfl (Lent.fact 1 rfl) rfl rfl hc11) rfl ?_
      refine J.quiet (Y.move rfl) rfl ?_
      replace h := ck_some h; obtain ⟨hc12, h⟩ := h
      refine J.quiet (Y.indexS rfl rfl (Lent.el (Lent.fact 1 rfl) hc11.1 hc11.2) rfl rfl hc12) rfl ?_
      refine J.quiet (Y.fieldEl rfl rfl rfl rfl rfl) rfl ?_
      refine J.quiet (Y.loadS rfl (Lent.el (Lent.fact 1 rfl) hc11.1 hc11.2) rfl rfl rfl RI64I64pc0 hc12) rfl ?_
      refine J.quiet (Y.move rfl) rfl ?_
      refine J.quiet (Y.eql rfl rfl) rfl ?_
      refine J.done ?_
      refine J.thenN ?_
      refine J.condD (by exact rfl) (fun hp13 => ?_) (fun hp13 => ?_)
      · replace h := ifP hp13 h
        refine J.seq ?_
        refine J.region ?_
        refine J.quiet (Y.assign rfl) rfl ?_
        refine J.done ?_
        refine J.thenN ?_
        refine J.ret ?_
        refine J.inR ?_
        refine J.thenR ?_
        refine J.thenR ?_
        refine J.inR ?_
        refine J.thenR ?_
        obtain rfl := Option.some.inj h
        exact J.retG1 (()) rfl rfl (RV.tmp rfl) (SubM.nil) LentAll.nil
      · replace h := ifN hp13 h
        refine J.skip ?_
        refine J.inN ?_
        refine J.thenN ?_
        refine J.region ?_
        refine J.quiet (Y.move rfl) rfl ?_
        refine J.quiet (Y.addW rfl rfl) rfl ?_
        refine J.quiet (Y.assign rfl) rfl ?_
        refine J.done ?_
        refine J.thenN ?_
        exact J.againI (wI .i64 (a6 + (1 : Int))) (()) h (by repeat (first | exact SubF.nil | refine SubF.cons rfl ?_)) (SubM.refl _) (LentAll.refl _ _)
    · replace h := ifN hp10 h
      refine J.exit ?_
      refine J.thenX ?_
      refine J.thenX ?_
      refine J.inX ?_
      refine J.thenN ?_
      exact J.meetI (()) (()) h (by repeat (first | exact SubF.nil | refine SubF.cons rfl ?_)) (SubM.nil) (LentAll.refl _ _)
  · clear h
    intro a2 b3 h
    unfold world_linked_k1 at h
    refine J.seq ?_
    refine J.region ?_
    refine J.quiet (Y.assign rfl) rfl ?_
    refine J.done ?_
    refine J.thenN ?_
    refine J.ret ?_
    obtain rfl := Option.some.inj h
    exact J.retG1 (()) rfl rfl (RV.tmp rfl) (SubM.refl _) LentAll.nil

end Go.Proofs.Ytmajgimhmfeliaa
end
