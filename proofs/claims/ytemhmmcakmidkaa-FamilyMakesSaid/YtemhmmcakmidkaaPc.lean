/- FamilyMakes: FromParents, and the law. Conditions: none. -/
import Derived.Test.YtemhmmcakmidkaaPb
namespace Go.Proofs.Ytemhmmcakmidkaa
open Go.Sx

/-- a list of parents -/
def ParOk (ps : List Int) : Prop := ∀ v : Nat, 1 ≤ v → v < ps.length → 0 ≤ at' ps v ∧ at' ps v < v

def parRel (ps : List Int) (v u : Nat) : Bool := (decide (0 < v) && decide ((u : Int) = at' ps v)) || (decide (0 < u) && decide ((v : Int) = at' ps u))

theorem famParents_tree (ps : List Int) (h2 : ps.length ≤ 24) (h : ParOk ps) : m_family_related 1000 (ps.length : Int) (fun y0 y1 => m_family_FromParents_1 1000 y0 y1 ps) = some (iota ps.length, selP (parRel ps) ps.length) := by
  refine related_eq ps.length h2 (parRel ps) _ (fun v u hv hu hne => ?_) (fun v hv => ?_)
  · unfold m_family_FromParents_1
    have hm : (0 : Int) ≤ max (v : Int) u ∧ max (v : Int) u < ps.length := by omega
    rw [ckT hm]
    congr 1
    unfold parRel
    rcases Nat.lt_or_gt_of_ne hne with hlt | hlt
    · have e1 : max (v : Int) u = u := by omega
      have e2 : min (v : Int) u = v := by omega
      rw [e1, e2]
      by_cases hv0 : 0 < v
      · have := h v (by omega) hv
        rw [Bool.eq_iff_iff]; simp; omega
      · rw [Bool.eq_iff_iff]; simp; omega
    · have e1 : max (v : Int) u = v := by omega
      have e2 : min (v : Int) u = u := by omega
      rw [e1, e2]
      by_cases hu0 : 0 < u
      · have := h u (by omega) hu
        rw [Bool.eq_iff_iff]; simp; omega
      · rw [Bool.eq_iff_iff]; simp; omega
  · unfold parRel
    by_cases hv0 : 0 < v
    · have := h v (by omega) hv
      simp; omega
    · simp; omega

theorem refParents_tree (ps : List Int) (h2 : ps.length ≤ 24) : ref03_FromParents_k2 1000 ps () = some ((iota ps.length, selP (parRel ps) ps.length), 0) := by
  unfold ref03_FromParents_k2
  rw [bindS (plain_eq ps.length h2)]
  generalize hn : ps.length = n at *
  refine iter_eq (fun x => ∃ v : Nat, v ≤ n ∧ x = ((v : Int), rowsK (parRel ps) n v)) (fun x => n - x.1.toNat) ?_ 1000 _ ⟨0, by omega, by rw [rowsK_zero]; rfl⟩ (by simp; omega)
  rintro x ag ⟨v, hv, rfl⟩ hag
  unfold ref03_FromParents_s1
  dsimp only
  rw [hn]
  by_cases hlt : v < n
  · rw [if_pos (by omega), rowsK_start _ hlt]
    refine iter_eq (fun y => ∃ u : Nat, u ≤ n ∧ y = ((u : Int), partP (parRel ps) n v u)) (fun y => n - y.1.toNat) ?_ 1000 _ ⟨0, by omega, rfl⟩ (by simp; omega)
    rintro y ag2 ⟨u, hu, rfl⟩ hag2
    unfold ref03_FromParents_s2
    dsimp only
    rw [hn]
    by_cases hu2 : u < n
    · have hstep : ∀ b, parRel ps v u = b → ref03_FromParents_k6 ((v : Int), partP (parRel ps) n v 0) ((u : Int), partP (parRel ps) n v u) ag2 b = some ((iota n, selP (parRel ps) n), 0) := by
        intro b hf
        unfold ref03_FromParents_k6 ref03_FromParents_k5
        dsimp only
        have hl := part_len (parRel ps) u hlt
        cases b
        · rw [if_neg (by simp), wr (by omega) (by omega)]
          exact hag2 _ ⟨u + 1, by omega, by rw [partP, partP, preRow_no hf]; rfl⟩ (by simp; omega)
        · have hp := preRow_len (parRel ps) v u
          rw [if_pos rfl, part_at, ckT (by omega), ckT (by simp; omega), ckT (by rw [List.length_set]; omega), wr (by omega) (by omega), Int.toNat_natCast, part_set]
          exact hag2 _ ⟨u + 1, by omega, by rw [partP, preRow_yes hf]; rfl⟩ (by simp; omega)
      rw [if_pos (by omega)]
      by_cases hv0 : (0 : Int) < v
      · rw [if_pos hv0, ckT (by omega)]
        by_cases he : (u : Int) = at' ps v
        · rw [if_pos he]
          exact hstep true (by unfold parRel; simp [he]; omega)
        · rw [if_neg he]
          by_cases hu0 : (0 : Int) < u
          · rw [if_pos hu0, ckT (by omega)]
            exact hstep _ (by unfold parRel; rw [Bool.eq_iff_iff]; simp [he]; omega)
          · rw [if_neg hu0]
            exact hstep false (by unfold parRel; simp [he]; omega)
      · rw [if_neg hv0]
        by_cases hu0 : (0 : Int) < u
        · rw [if_pos hu0, ckT (by omega)]
          exact hstep _ (by unfold parRel; rw [Bool.eq_iff_iff]; simp; omega)
        · rw [if_neg hu0]
          exact hstep false (by unfold parRel; simp; omega)
    · obtain rfl : u = n := by omega
      rw [if_neg (by omega)]
      unfold ref03_FromParents_k4
      dsimp only
      rw [wr (by omega) (by omega), rowsK_end]
      exact hag _ ⟨v + 1, by omega, rfl⟩ (by simp; omega)
  · obtain rfl : v = n := by omega
    rw [if_neg (by omega)]
    unfold ref03_FromParents_k3
    dsimp only
    rw [rowsK_all]

theorem fam_ok (ps : List Int) (h1 : 1 ≤ ps.length) (h2 : ps.length ≤ 24) (h : ParOk ps) : iter (family_FromParents_s1 1000 ps) 1000 (1 : Int) = some ((iota ps.length, selP (parRel ps) ps.length), 0) := by
  refine iter_eq (fun i : Int => ∃ k : Nat, i = k ∧ 1 ≤ k ∧ k ≤ ps.length) (fun i : Int => ps.length - i.toNat) ?_ 1000 _ ⟨1, rfl, by omega, h1⟩ (by simp; omega)
  rintro i ag ⟨k, rfl, k1, k2⟩ hag
  unfold family_FromParents_s1
  by_cases hk : k < ps.length
  · have := h k k1 hk
    rw [if_pos (by omega), ckT (by omega), if_neg (by omega), ckT (by omega), decide_eq_false (by omega)]
    unfold family_FromParents_k3
    rw [if_neg (by simp), wr (by omega) (by omega)]
    exact hag _ ⟨k + 1, by omega, by omega, by omega⟩ (by omega)
  · rw [if_neg (by omega)]
    unfold family_FromParents_k2
    rw [bindS (famParents_tree ps h2 h)]

theorem not_parOk {ps : List Int} (h : ¬ ParOk ps) : ∃ v : Nat, 1 ≤ v ∧ v < ps.length ∧ ¬ (0 ≤ at' ps v ∧ at' ps v < v) := by
  apply Classical.byContradiction
  intro hc
  apply h
  intro v hv hl
  apply Classical.byContradiction
  intro hb
  exact hc ⟨v, hv, hl, hb⟩

theorem fam_bad (ps : List Int) (h2 : ps.length ≤ 24) (h : ¬ ParOk ps) : iter (family_FromParents_s1 1000 ps) 1000 (1 : Int) = some (([], []), 2) := by
  obtain ⟨v, v1, vl, vb⟩ := not_parOk h
  refine iter_eq (fun i : Int => ∃ k : Nat, i = k ∧ 1 ≤ k ∧ k ≤ v) (fun i : Int => ps.length - i.toNat) ?_ 1000 _ ⟨1, rfl, by omega, v1⟩ (by simp; omega)
  rintro i ag ⟨k, rfl, k1, k2⟩ hag
  unfold family_FromParents_s1 family_FromParents_k3
  rw [if_pos (by omega), ckT (by omega)]
  by_cases hn : at' ps k < 0
  · rw [if_pos hn]; rfl
  · rw [if_neg hn, ckT (by omega)]
    by_cases hk : (k : Int) ≤ at' ps k
    · rw [decide_eq_true hk]; rfl
    · rw [decide_eq_false hk, if_neg (by simp), wr (by omega) (by omega)]
      have : k ≠ v := by rintro rfl; exact vb ⟨by omega, by omega⟩
      exact hag _ ⟨k + 1, by omega, by omega, by omega⟩ (by omega)

theorem ref_ok (ps : List Int) (h1 : 1 ≤ ps.length) (h2 : ps.length ≤ 24) (h : ParOk ps) : iter (ref03_FromParents_s3 1000 ps) 1000 (1 : Int) = some ((iota ps.length, selP (parRel ps) ps.length), 0) := by
  refine iter_eq (fun i : Int => ∃ k : Nat, i = k ∧ 1 ≤ k ∧ k ≤ ps.length) (fun i : Int => ps.length - i.toNat) ?_ 1000 _ ⟨1, rfl, by omega, h1⟩ (by simp; omega)
  rintro i ag ⟨k, rfl, k1, k2⟩ hag
  unfold ref03_FromParents_s3
  by_cases hk : k < ps.length
  · have := h k k1 hk
    rw [if_pos (by omega), ckT (by omega), in_eq, wr (x := (k : Int) - 1) (by omega) (by omega), decide_eq_true (by omega), bindS rfl, if_neg (by simp), wr (by omega) (by omega)]
    exact hag _ ⟨k + 1, by omega, by omega, by omega⟩ (by omega)
  · rw [if_neg (by omega), refParents_tree ps h2]

theorem ref_bad (ps : List Int) (h2 : ps.length ≤ 24) (h : ¬ ParOk ps) : iter (ref03_FromParents_s3 1000 ps) 1000 (1 : Int) = some (([], []), 2) := by
  obtain ⟨v, v1, vl, vb⟩ := not_parOk h
  refine iter_eq (fun i : Int => ∃ k : Nat, i = k ∧ 1 ≤ k ∧ k ≤ v) (fun i : Int => ps.length - i.toNat) ?_ 1000 _ ⟨1, rfl, by omega, v1⟩ (by simp; omega)
  rintro i ag ⟨k, rfl, k1, k2⟩ hag
  unfold ref03_FromParents_s3
  rw [if_pos (by omega), ckT (by omega), in_eq, wr (x := (k : Int) - 1) (by omega) (by omega), bindS rfl]
  by_cases hk : (0 : Int) ≤ at' ps k ∧ at' ps k ≤ (k : Int) - 1
  · rw [decide_eq_true hk, if_neg (by simp), wr (by omega) (by omega)]
    have : k ≠ v := by rintro rfl; exact vb ⟨by omega, by omega⟩
    exact hag _ ⟨k + 1, by omega, by omega, by omega⟩ (by omega)
  · rw [decide_eq_false hk]; rfl

theorem tree_small (ps : List Int) (h2 : ps.length ≤ 24) : small (iota ps.length, selP (parRel ps) ps.length) := by
  refine ⟨by simp [iota]; omega, by simp [selP]; omega, fun l hl => ?_⟩
  simp only [selP, List.mem_map, List.mem_range] at hl
  obtain ⟨v, hv, rfl⟩ := hl
  have := preRow_len (parRel ps) v ps.length
  omega

theorem parents_agree (ps : List Int) : Agree (m_family_FromParents 1000 ps) (m_ref03_FromParents 1000 ps) := by
  by_cases hl : 1 ≤ ps.length ∧ ps.length ≤ 24
  · obtain ⟨h1, h2⟩ := hl
    by_cases h0 : at' ps (0 : Int) ≠ -1
    · have e1 : m_family_FromParents 1000 ps = some (([], []), 2) := by
        unfold m_family_FromParents family_FromParents_k1
        rw [if_neg (by omega), if_neg (by omega), ckT (by omega), decide_eq_true h0]; rfl
      have e2 : m_ref03_FromParents 1000 ps = some (([], []), 2) := by
        unfold m_ref03_FromParents ref03_FromParents_k1
        rw [in_eq, decide_eq_true (p := 1 ≤ (ps.length : Int) ∧ (ps.length : Int) ≤ 24) (by omega), bindS rfl, if_neg (by simp), ckT (by omega), decide_eq_true h0]; rfl
      rw [e1, e2]; exact agree_err
    · have e1 : m_family_FromParents 1000 ps = iter (family_FromParents_s1 1000 ps) 1000 (1 : Int) := by
        unfold m_family_FromParents family_FromParents_k1
        rw [if_neg (by omega), if_neg (by omega), ckT (by omega), decide_eq_false h0]; rfl
      have e2 : m_ref03_FromParents 1000 ps = iter (ref03_FromParents_s3 1000 ps) 1000 (1 : Int) := by
        unfold m_ref03_FromParents ref03_FromParents_k1
        rw [in_eq, decide_eq_true (p := 1 ≤ (ps.length : Int) ∧ (ps.length : Int) ≤ 24) (by omega), bindS rfl, if_neg (by simp), ckT (by omega), decide_eq_false h0]; rfl
      rw [e1, e2]
      by_cases hp : ParOk ps
      · rw [fam_ok ps h1 h2 hp, ref_ok ps h1 h2 hp]
        exact ⟨_, rfl, rfl, same_refl _ (tree_small ps h2)⟩
      · rw [fam_bad ps h2 hp, ref_bad ps h2 hp]; exact agree_err
  · have e1 : m_family_FromParents 1000 ps = some (([], []), 2) := by
      unfold m_family_FromParents family_FromParents_k1
      by_cases h1 : (ps.length : Int) < 1
      · rw [if_pos h1]; rfl
      · rw [if_neg h1, if_pos (by omega)]; rfl
    have e2 : m_ref03_FromParents 1000 ps = some (([], []), 2) := by
      unfold m_ref03_FromParents ref03_FromParents_k1
      rw [in_eq, decide_eq_false (by omega)]; rfl
    rw [e1, e2]; exact agree_err

theorem familyMakes_pure (n w h : Int) (ps : List Int) : m_law03_FamilyMakes 1000 n w h ps = some true := by
  unfold m_law03_FamilyMakes
  by_cases hl : (40 : Int) < ps.length
  · rw [if_pos hl, bindS awakeK]
  · rw [if_neg hl]
    obtain ⟨r1, a1, b1, s1⟩ := ring_agree n
    obtain ⟨r2, a2, b2, s2⟩ := path_agree n
    obtain ⟨r3, a3, b3, s3⟩ := star_agree n
    obtain ⟨r4, a4, b4, s4⟩ := complete_agree n
    obtain ⟨r5, a5, b5, s5⟩ := grid_agree w h
    obtain ⟨r6, a6, b6, s6⟩ := parents_agree ps
    rw [bindS a1, bindS b1, bindS s1, if_neg (by simp), decide_eq_false (by simp)]
    unfold law03_FamilyMakes_k1
    rw [if_neg (by simp), bindS a2, bindS b2, bindS s2, if_neg (by simp), decide_eq_false (by simp)]
    unfold law03_FamilyMakes_k2
    rw [if_neg (by simp), bindS a3, bindS b3, bindS s3, if_neg (by simp), decide_eq_false (by simp)]
    unfold law03_FamilyMakes_k3
    rw [if_neg (by simp), bindS a4, bindS b4, bindS s4, if_neg (by simp), decide_eq_false (by simp)]
    unfold law03_FamilyMakes_k4
    rw [if_neg (by simp), bindS a5, bindS b5, bindS s5, if_neg (by simp), decide_eq_false (by simp)]
    unfold law03_FamilyMakes_k5
    rw [if_neg (by simp), bindS a6, bindS b6, bindS awakeK, if_pos rfl, bindS s6, if_pos rfl, decide_eq_true rfl]
    rfl
end Go.Proofs.Ytemhmmcakmidkaa
