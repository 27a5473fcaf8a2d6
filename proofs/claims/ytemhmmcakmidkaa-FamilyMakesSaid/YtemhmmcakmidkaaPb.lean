/- FamilyMakes: the six families agree with the reference. Conditions: none. -/
import Derived.Test.YtemhmmcakmidkaaPk
namespace Go.Proofs.Ytemhmmcakmidkaa
open Go.Sx

theorem in_eq (fuel : Nat) (v lo hi : Int) : m_ref01_In fuel v lo hi = some (decide (lo ≤ v ∧ v ≤ hi)) := by
  unfold m_ref01_In ref01_In_k1
  by_cases h : lo ≤ v
  · rw [if_pos h]; congr 1; exact decide_eq_decide.2 ⟨fun h2 => ⟨h, h2⟩, fun h2 => h2.2⟩
  · rw [if_neg h, decide_eq_false (fun h2 => h h2.1)]

/-- a graph of a size that a loop of the laws can go through -/
def small (g : GG) : Prop := g.1.length ≤ 900 ∧ g.2.length ≤ 900 ∧ ∀ l ∈ g.2, l.length ≤ 900

theorem at_mem {α : Type} [Inhabited α] (l : List α) (i : Int) (h0 : 0 ≤ i) (h1 : i < l.length) : at' l i ∈ l := List.mem_of_getElem? (at'_some h0 h1)

theorem same_refl (g : GG) (h : small g) : m_ref01_Same 1000 g g = some true := by
  obtain ⟨h1, h2, h3⟩ := h
  unfold m_ref01_Same ref01_Same_k1
  rw [if_neg (by simp), if_neg (by simp)]
  refine iter_eq (fun i : Int => 0 ≤ i ∧ i ≤ g.1.length) (fun i : Int => g.1.length - i.toNat) ?_ 1000 _ (by omega) (by omega)
  rintro i ag ⟨i0, i1⟩ hag
  unfold ref01_Same_s3
  by_cases hi : i < g.1.length
  · rw [if_pos hi, ckT ⟨i0, hi⟩, ckT ⟨i0, hi⟩, if_neg (by simp), wr (by omega) (by omega)]
    exact hag _ (by omega) (by omega)
  · rw [if_neg hi]
    unfold ref01_Same_k2
    refine iter_eq (fun i : Int => 0 ≤ i ∧ i ≤ g.2.length) (fun i : Int => g.2.length - i.toNat) ?_ 1000 _ (by omega) (by omega)
    rintro v ag ⟨v0, v1⟩ hag
    unfold ref01_Same_s1
    by_cases hv : v < g.2.length
    · have hrow := h3 _ (at_mem g.2 v v0 hv)
      rw [if_pos hv, ckT ⟨v0, hv⟩, ckT ⟨v0, hv⟩, if_neg (by simp)]
      refine iter_eq (fun i : Int => 0 ≤ i ∧ i ≤ (at' g.2 v).length) (fun i : Int => (at' g.2 v).length - i.toNat) ?_ 1000 _ (by omega) (by omega)
      rintro i ag2 ⟨i0, i1⟩ hag2
      unfold ref01_Same_s2
      rw [ckT ⟨v0, hv⟩]
      by_cases hi : i < (at' g.2 v).length
      · rw [if_pos hi, ckT ⟨v0, hv⟩, ckT ⟨i0, hi⟩, ckT ⟨v0, hv⟩, ckT ⟨i0, hi⟩, if_neg (by simp), wr (by omega) (by omega)]
        exact hag2 _ (by omega) (by omega)
      · rw [if_neg hi]
        unfold ref01_Same_k4
        rw [wr (by omega) (by omega)]
        exact hag _ (by omega) (by omega)
    · rw [if_neg hv]; rfl

/-- both give the same graph and the same error -/
def Agree (a b : Option (GG × Int)) : Prop := ∃ r, a = some r ∧ b = some r ∧ m_ref01_Same 1000 r.1 r.1 = some true
theorem agree_spec {a b : Option (GG × Int)} (h : agree a b = true) : Agree a b := by
  unfold agree at h
  split at h
  · rename_i x y
    simp only [Bool.and_eq_true, beq_iff_eq] at h
    obtain ⟨rfl, h⟩ := h
    exact ⟨x, rfl, rfl, h⟩
  · cases h
theorem agree_err : Agree (some (([], []), 2)) (some (([], []), 2)) := ⟨_, rfl, rfl, same0K⟩

theorem agree_fin {F G : Int → Option (GG × Int)} (h : ((List.range 25).all fun n : Nat => agree (F (n : Int)) (G (n : Int))) = true) (hF : ∀ n : Int, ¬ (0 ≤ n ∧ n ≤ 24) → F n = some (([], []), 2) ∧ G n = some (([], []), 2)) (n : Int) : Agree (F n) (G n) := by
  by_cases hn : 0 ≤ n ∧ n ≤ 24
  · obtain ⟨k, rfl⟩ : ∃ k : Nat, n = k := ⟨n.toNat, by omega⟩
    exact agree_spec (List.all_eq_true.1 h k (by simp; omega))
  · rw [(hF n hn).1, (hF n hn).2]; exact agree_err

theorem ring_agree (n : Int) : Agree (m_family_Ring 1000 n) (m_ref03_Ring 1000 n) := by
  refine agree_fin (F := m_family_Ring 1000) (G := m_ref03_Ring 1000) ringK (fun n hn => ⟨?_, ?_⟩) n
  · unfold m_family_Ring family_Ring_k1
    by_cases h : n < 3
    · simp [h]
    · have : (24 : Int) < n := by omega
      simp [h, this]
  · unfold m_ref03_Ring
    rw [in_eq, decide_eq_false (by omega)]; rfl

theorem ofSize_err (fuel : Nat) (n : Int) (g : Int → Int → Option Bool) (hn : ¬ (1 ≤ n ∧ n ≤ 24)) : m_family_ofSize fuel n g = some (([], []), 2) := by
  unfold m_family_ofSize family_ofSize_k1
  by_cases h : n < 1
  · simp [h]
  · have : (24 : Int) < n := by omega
    simp [h, this]

theorem path_agree (n : Int) : Agree (m_family_Path 1000 n) (m_ref03_Path 1000 n) := by
  refine agree_fin (F := m_family_Path 1000) (G := m_ref03_Path 1000) pathK (fun n hn => ⟨?_, ?_⟩) n
  · unfold m_family_Path; rw [ofSize_err _ _ _ (by omega)]; rfl
  · unfold m_ref03_Path; rw [in_eq, decide_eq_false (by omega)]; rfl
theorem star_agree (n : Int) : Agree (m_family_Star 1000 n) (m_ref03_Star 1000 n) := by
  refine agree_fin (F := m_family_Star 1000) (G := m_ref03_Star 1000) starK (fun n hn => ⟨?_, ?_⟩) n
  · unfold m_family_Star; rw [ofSize_err _ _ _ (by omega)]; rfl
  · unfold m_ref03_Star; rw [in_eq, decide_eq_false (by omega)]; rfl
/-! ## Complete graphs -/
def neB (v u : Nat) : Bool := decide (v ≠ u)
theorem selP_small (f : Nat → Nat → Bool) (n : Nat) (h2 : n ≤ 24) : small (iota n, selP f n) := by
  refine ⟨by simp [iota]; omega, by simp [selP]; omega, fun l hl => ?_⟩
  simp only [selP, List.mem_map, List.mem_range] at hl
  obtain ⟨v, hv, rfl⟩ := hl
  have := preRow_len f v n
  omega

theorem ofSize_eq (n : Nat) (h1 : 1 ≤ n) (h2 : n ≤ 24) (f : Nat → Nat → Bool) (g : Int → Int → Option Bool) (hg : ∀ v u : Nat, v < n → u < n → v ≠ u → g (min (v : Int) u) (max (v : Int) u) = some (f v u)) (hff : ∀ v, v < n → f v v = false) :
    m_family_ofSize 1000 (n : Int) g = some ((iota n, selP f n), 0) := by
  unfold m_family_ofSize family_ofSize_k1
  rw [if_neg (by omega), decide_eq_false (by omega), if_neg (by simp), bindS (related_eq n h2 f g hg hff)]

theorem refComplete_eq (n : Nat) (h1 : 1 ≤ n) (h2 : n ≤ 24) : m_ref03_Complete 1000 (n : Int) = some ((iota n, selP neB n), 0) := by
  unfold m_ref03_Complete
  rw [in_eq, decide_eq_true (by omega), bindS rfl, if_neg (by simp), bindS (plain_eq n h2)]
  refine iter_eq (fun x => ∃ v : Nat, v ≤ n ∧ x = ((v : Int), rowsK neB n v)) (fun x => n - x.1.toNat) ?_ 1000 _ ⟨0, by omega, by rw [rowsK_zero]; rfl⟩ (by simp; omega)
  rintro x ag ⟨v, hv, rfl⟩ hag
  unfold ref03_Complete_s1
  dsimp only
  by_cases hlt : v < n
  · rw [if_pos (by omega), rowsK_start _ hlt]
    refine iter_eq (fun y => ∃ u : Nat, u ≤ n ∧ y = ((u : Int), partP neB n v u)) (fun y => n - y.1.toNat) ?_ 1000 _ ⟨0, by omega, rfl⟩ (by simp; omega)
    rintro y ag2 ⟨u, hu, rfl⟩ hag2
    unfold ref03_Complete_s2 ref03_Complete_k3
    dsimp only
    by_cases hu2 : u < n
    · rw [if_pos (by omega)]
      have hl := part_len neB u hlt
      by_cases he : u = v
      · have hf : neB v u = false := by simp [neB, he]
        rw [if_neg (by omega), wr (by omega) (by omega)]
        exact hag2 _ ⟨u + 1, by omega, by rw [partP, partP, preRow_no hf]; rfl⟩ (by simp; omega)
      · have hf : neB v u = true := by simp [neB]; omega
        have hp := preRow_len neB v u
        rw [if_pos (by omega), part_at, ckT (by omega), ckT (by simp; omega), ckT (by rw [List.length_set]; omega), wr (by omega) (by omega), Int.toNat_natCast, part_set]
        exact hag2 _ ⟨u + 1, by omega, by rw [partP, preRow_yes hf]; rfl⟩ (by simp; omega)
    · obtain rfl : u = n := by omega
      rw [if_neg (by omega)]
      unfold ref03_Complete_k2
      dsimp only
      rw [wr (by omega) (by omega), rowsK_end]
      exact hag _ ⟨v + 1, by omega, rfl⟩ (by simp; omega)
  · obtain rfl : v = n := by omega
    rw [if_neg (by omega)]
    unfold ref03_Complete_k1
    dsimp only
    rw [rowsK_all]

theorem complete_agree (n : Int) : Agree (m_family_Complete 1000 n) (m_ref03_Complete 1000 n) := by
  by_cases hn : 1 ≤ n ∧ n ≤ 24
  · obtain ⟨k, rfl⟩ : ∃ k : Nat, n = k := ⟨n.toNat, by omega⟩
    refine ⟨_, ?_, refComplete_eq k (by omega) (by omega), same_refl _ (selP_small _ _ (by omega))⟩
    unfold m_family_Complete
    rw [bindS (ofSize_eq k (by omega) (by omega) neB _ (fun v u _ _ h => by simp [m_family_Complete_1, neB, h]) (fun v _ => by simp [neB]))]
  · have e1 : m_family_Complete 1000 n = some (([], []), 2) := by
      unfold m_family_Complete; rw [ofSize_err _ _ _ hn]; rfl
    have e2 : m_ref03_Complete 1000 n = some (([], []), 2) := by
      unfold m_ref03_Complete; rw [in_eq, decide_eq_false hn]; rfl
    rw [e1, e2]; exact agree_err

/-! ## Grids -/
theorem tdivN (a b : Nat) : Int.tdiv (a : Int) (b : Int) = ((a / b : Nat) : Int) := by simp [Int.tdiv]
theorem tmodN (a b : Nat) : Int.tmod (a : Int) (b : Int) = ((a % b : Nat) : Int) := by simp [Int.tmod]
theorem divle (a b : Nat) : a / b ≤ a := Nat.div_le_self a b
theorem modle (a b : Nat) : a % b ≤ a := Nat.mod_le a b

theorem famGrid_1 (w v u : Nat) (hw : 1 ≤ w) (hw2 : w ≤ 24) (hv : v < 24) (hu : u < 24) (h : v ≠ u) : m_family_Grid_1 1000 (min (v : Int) u) (max (v : Int) u) w = some (famN w v u) := by
  unfold m_family_Grid_1 family_Grid_1_k1
  have e1 : min (v : Int) u = ((min v u : Nat) : Int) := by omega
  have e2 : max (v : Int) u = ((max v u : Nat) : Int) := by omega
  have q1 := divle (min v u) w
  have q2 := divle (max v u) w
  rw [e1, e2, tdivN, tdivN]
  unfold famN
  rw [decide_eq_true h, Bool.true_and]
  generalize min v u / w = qa at *
  generalize max v u / w = qb at *
  rw [wr (x := ((min v u : Nat) : Int) + w) (by omega) (by omega), wr (x := ((min v u : Nat) : Int) + 1) (by omega) (by omega), wr (by omega) (by omega), wr (by omega) (by omega), ckT (by omega), ckT (by omega)]
  by_cases h1 : min v u + w = max v u
  · rw [if_pos (by omega), decide_eq_true h1]; rfl
  · rw [if_neg (by omega), decide_eq_false h1, Bool.false_or]
    by_cases h2 : min v u + 1 = max v u
    · rw [if_pos (by omega), decide_eq_true h2, Bool.true_and]
      congr 1; exact decide_eq_decide.2 (by omega)
    · rw [if_neg (by omega), decide_eq_false h2]; rfl

theorem refGrid_eq (w h n : Nat) (hw : 1 ≤ w) (hw2 : w ≤ 24) (hh : h ≤ 24) (hn : w * h = n) (h2 : n ≤ 24) : ref03_Grid_k1 1000 (w : Int) (h : Int) false = some ((iota n, selP (refN w) n), 0) := by
  have em : wI .i64 ((w : Int) * (h : Int)) = (n : Int) := by
    have : (w : Int) * (h : Int) = (n : Int) := by rw [← hn]; simp
    rw [this, wr (by omega) (by omega)]
  unfold ref03_Grid_k1
  rw [if_neg (by simp), em, bindS (plain_eq n h2)]
  refine iter_eq (fun x => ∃ v : Nat, v ≤ n ∧ x = ((v : Int), rowsK (refN w) n v)) (fun x => n - x.1.toNat) ?_ 1000 _ ⟨0, by omega, by rw [rowsK_zero]; rfl⟩ (by simp; omega)
  rintro x ag ⟨v, hv, rfl⟩ hag
  unfold ref03_Grid_s1
  dsimp only
  rw [em]
  by_cases hlt : v < n
  · rw [if_pos (by omega), rowsK_start _ hlt, ckT (by omega), ckT (by omega)]
    refine iter_eq (fun y => ∃ u : Nat, u ≤ n ∧ y = ((u : Int), partP (refN w) n v u)) (fun y => n - y.1.toNat) ?_ 1000 _ ⟨0, by omega, rfl⟩ (by simp; omega)
    rintro y ag2 ⟨u, hu, rfl⟩ hag2
    unfold ref03_Grid_s2
    dsimp only
    rw [em]
    by_cases hu2 : u < n
    · have hstep : ∀ b, refN w v u = b → ref03_Grid_k5 ((v : Int), partP (refN w) n v 0) ((u : Int), partP (refN w) n v u) ag2 b = some ((iota n, selP (refN w) n), 0) := by
        intro b hf
        unfold ref03_Grid_k5 ref03_Grid_k4
        dsimp only
        have hl := part_len (refN w) u hlt
        cases b
        · rw [if_neg (by simp), wr (by omega) (by omega)]
          exact hag2 _ ⟨u + 1, by omega, by rw [partP, partP, preRow_no hf]; rfl⟩ (by simp; omega)
        · have hp := preRow_len (refN w) v u
          rw [if_pos rfl, part_at, ckT (by omega), ckT (by simp; omega), ckT (by rw [List.length_set]; omega), wr (by omega) (by omega), Int.toNat_natCast, part_set]
          exact hag2 _ ⟨u + 1, by omega, by rw [partP, preRow_yes hf]; rfl⟩ (by simp; omega)
      have q1 := divle v w
      have q2 := divle u w
      have q3 := modle v w
      have q4 := modle u w
      have hr : refN w v u = ((decide (u % w = v % w) && (decide (u / w + 1 = v / w) || decide (u / w = v / w + 1))) || (decide (u / w = v / w) && (decide (u % w + 1 = v % w) || decide (u % w = v % w + 1)))) := rfl
      rw [if_pos (by omega), ckT (by omega), ckT (by omega), tdivN, tdivN, tmodN, tmodN]
      generalize u / w = a at q2 hr ⊢
      generalize v / w = b at q1 hr ⊢
      generalize u % w = c at q4 hr ⊢
      generalize v % w = d at q3 hr ⊢
      rw [wr (x := (a : Int)) (by omega) (by omega), wr (x := (b : Int)) (by omega) (by omega), wr (x := (b : Int) - 1) (by omega) (by omega), wr (x := (b : Int) + 1) (by omega) (by omega), wr (x := (d : Int) - 1) (by omega) (by omega), wr (x := (d : Int) + 1) (by omega) (by omega)]
      have key : ∀ x : Bool, refN w v u = x → ref03_Grid_k5 ((v : Int), partP (refN w) n v 0) ((u : Int), partP (refN w) n v u) ag2 x = some ((iota n, selP (refN w) n), 0) := hstep
      by_cases e1 : (c : Int) = d
      · rw [if_pos e1]
        by_cases e2 : (a : Int) = (b : Int) - 1
        · rw [if_pos e2]; exact key _ (by rw [hr]; simp; omega)
        · rw [if_neg e2]
          by_cases e3 : (a : Int) = (b : Int) + 1
          · rw [if_pos e3]; exact key _ (by rw [hr]; simp; omega)
          · rw [if_neg e3]
            by_cases e4 : (a : Int) = b
            · rw [if_pos e4]
              by_cases e5 : (c : Int) = (d : Int) - 1
              · rw [if_pos e5]; exact key _ (by rw [hr]; simp; omega)
              · rw [if_neg e5]; exact key _ (by rw [hr, Bool.eq_iff_iff]; simp; omega)
            · rw [if_neg e4]; exact key _ (by rw [hr, Bool.eq_iff_iff]; simp; omega)
      · rw [if_neg e1]
        by_cases e4 : (a : Int) = b
        · rw [if_pos e4]
          by_cases e5 : (c : Int) = (d : Int) - 1
          · rw [if_pos e5]; exact key _ (by rw [hr]; simp; omega)
          · rw [if_neg e5]; exact key _ (by rw [hr, Bool.eq_iff_iff]; simp; omega)
        · rw [if_neg e4]; exact key _ (by rw [hr, Bool.eq_iff_iff]; simp; omega)
    · obtain rfl : u = n := by omega
      rw [if_neg (by omega)]
      unfold ref03_Grid_k3
      dsimp only
      rw [wr (by omega) (by omega), rowsK_end]
      exact hag _ ⟨v + 1, by omega, rfl⟩ (by simp; omega)
  · obtain rfl : v = n := by omega
    rw [if_neg (by omega)]
    unfold ref03_Grid_k2
    dsimp only
    rw [rowsK_all]

theorem gridN (w v u : Nat) (hw : 1 ≤ w) (hw2 : w ≤ 24) (hv : v < 24) (hu : u < 24) : famN w v u = refN w v u := by
  have := List.all_eq_true.1 (List.all_eq_true.1 (List.all_eq_true.1 gridK (w - 1) (by simp; omega)) v (by simp; omega)) u (by simp; omega)
  rw [show w - 1 + 1 = w by omega] at this
  simpa using this

theorem grid_agree (w h : Int) : Agree (m_family_Grid 1000 w h) (m_ref03_Grid 1000 w h) := by
  by_cases hw : 1 ≤ w ∧ w ≤ 24
  · by_cases hh : 1 ≤ h ∧ h ≤ 24
    · obtain ⟨a, rfl⟩ : ∃ k : Nat, w = k := ⟨w.toNat, by omega⟩
      obtain ⟨b, rfl⟩ : ∃ k : Nat, h = k := ⟨h.toNat, by omega⟩
      have hmul : a * b ≤ 24 * 24 := Nat.mul_le_mul (by omega) (by omega)
      have hpos : 1 ≤ a * b := Nat.mul_le_mul (show 1 ≤ a by omega) (show 1 ≤ b by omega)
      have em : wI .i64 ((a : Int) * (b : Int)) = ((a * b : Nat) : Int) := by
        have : (a : Int) * (b : Int) = ((a * b : Nat) : Int) := by simp
        rw [this, wr (by omega) (by omega)]
      unfold m_family_Grid m_ref03_Grid family_Grid_k1
      rw [if_neg (by omega), if_neg (by omega), if_neg (by omega), decide_eq_false (by omega), if_neg (by simp), in_eq, decide_eq_true hw, bindS rfl, if_neg (by simp), in_eq, decide_eq_true hh, bindS rfl, if_neg (by simp), em]
      by_cases hs : a * b ≤ 24
      · rw [decide_eq_false (by omega), refGrid_eq a b (a * b) (by omega) (by omega) (by omega) rfl hs]
        refine ⟨_, ?_, rfl, same_refl _ (selP_small _ _ hs)⟩
        rw [bindS (ofSize_eq (a * b) hpos hs (refN a) _ (fun v u hv hu hne => ?_) (fun v hv => ?_))]
        · rw [famGrid_1 a v u (by omega) (by omega) (by omega) (by omega) hne, gridN a v u (by omega) (by omega) (by omega) (by omega)]
        · rw [← gridN a v v (by omega) (by omega) (by omega) (by omega)]; simp [famN]
      · rw [decide_eq_true (by omega), ofSize_err _ _ _ (by omega)]
        exact agree_err
    · have e1 : m_family_Grid 1000 w h = some (([], []), 2) := by
        unfold m_family_Grid family_Grid_k1
        rw [if_neg (by omega), if_neg (by omega)]
        by_cases h1 : h < 1
        · rw [if_pos h1]; rfl
        · rw [if_neg h1, decide_eq_true (by omega)]; rfl
      have e2 : m_ref03_Grid 1000 w h = some (([], []), 2) := by
        unfold m_ref03_Grid
        rw [in_eq, decide_eq_true hw, bindS rfl, if_neg (by simp), in_eq, decide_eq_false hh]; rfl
      rw [e1, e2]; exact agree_err
  · have e1 : m_family_Grid 1000 w h = some (([], []), 2) := by
      unfold m_family_Grid family_Grid_k1
      by_cases h1 : w < 1
      · rw [if_pos h1]; rfl
      · rw [if_neg h1, if_pos (by omega)]; rfl
    have e2 : m_ref03_Grid 1000 w h = some (([], []), 2) := by
      unfold m_ref03_Grid
      rw [in_eq, decide_eq_false hw]; rfl
    rw [e1, e2]; exact agree_err
end Go.Proofs.Ytemhmmcakmidkaa
