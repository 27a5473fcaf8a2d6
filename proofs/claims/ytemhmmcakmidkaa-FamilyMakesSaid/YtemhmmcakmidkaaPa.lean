/- The families: what the models make, and that they agree. Conditions: none. -/
import Derived.Test.YtemhmmcakmidkaaPu
import Derived.Test.YtemhmmcakmidkaaX3
namespace Go.Proofs.Ytemhmmcakmidkaa
open Go.Sx

def iota (n : Nat) : List Int := (List.range n).map (fun i : Nat => (i : Int))

/-- the links of node v to the nodes below u that f chooses -/
def preRow (f : Nat → Nat → Bool) (v u : Nat) : List (Int × Int) := ((List.range u).filter (f v)).map (fun u : Nat => ((u : Int), (1 : Int)))
def partP (f : Nat → Nat → Bool) (n v u : Nat) : List (List (Int × Int)) := (List.range v).map (fun v => preRow f v n) ++ preRow f v u :: List.replicate (n - (v + 1)) []
def rowsK (f : Nat → Nat → Bool) (n v : Nat) : List (List (Int × Int)) := (List.range v).map (fun v => preRow f v n) ++ List.replicate (n - v) []
def selP (f : Nat → Nat → Bool) (n : Nat) : List (List (Int × Int)) := (List.range n).map (fun v => preRow f v n)

theorem preRow_len (f : Nat → Nat → Bool) (v u : Nat) : (preRow f v u).length ≤ u := by
  rw [preRow, List.length_map]; exact Nat.le_trans (List.length_filter_le _ _) (by simp)
theorem preRow_yes {f : Nat → Nat → Bool} {v u : Nat} (h : f v u = true) : preRow f v (u + 1) = preRow f v u ++ [((u : Int), 1)] := by
  simp [preRow, List.range_succ, List.filter_append, h]
theorem preRow_no {f : Nat → Nat → Bool} {v u : Nat} (h : f v u = false) : preRow f v (u + 1) = preRow f v u := by
  simp [preRow, List.range_succ, List.filter_append, h]
theorem part_len (f : Nat → Nat → Bool) {n v : Nat} (u : Nat) (h : v < n) : (partP f n v u).length = n := by simp [partP]; omega
theorem part_at (f : Nat → Nat → Bool) (n v u : Nat) : at' (partP f n v u) (v : Int) = preRow f v u := at_append _ _ _ _ (by simp)
theorem part_set (f : Nat → Nat → Bool) (n v u : Nat) (p : List (Int × Int)) : (partP f n v u).set v p = (List.range v).map (fun v => preRow f v n) ++ p :: List.replicate (n - (v + 1)) [] := set_at _ _ _ _ _ (by simp)
theorem rowsK_zero (f : Nat → Nat → Bool) (n : Nat) : rowsK f n 0 = List.replicate n [] := by simp [rowsK]
theorem rowsK_start (f : Nat → Nat → Bool) {n v : Nat} (h : v < n) : rowsK f n v = partP f n v 0 := by
  rw [rowsK, partP, show n - v = (n - (v + 1)) + 1 from by omega, List.replicate_succ]; simp [preRow]
theorem rowsK_end (f : Nat → Nat → Bool) (n v : Nat) : partP f n v n = rowsK f n (v + 1) := by
  rw [rowsK, partP, List.range_succ]; simp
theorem rowsK_all (f : Nat → Nat → Bool) (n : Nat) : rowsK f n n = selP f n := by simp [rowsK, selP]

theorem empty_eq (n : Nat) (h : n ≤ 24) : m_family_empty 1000 (n : Int) = some (iota n, List.replicate n []) := by
  have : ∀ n : Fin 25, m_family_empty 1000 ((n : Nat) : Int) = some (iota n, List.replicate n []) := by decide +kernel
  exact this ⟨n, by omega⟩
theorem plain_eq (n : Nat) (h : n ≤ 24) : m_ref03_plain 1000 (n : Int) = some (iota n, List.replicate n []) := by
  have : ∀ n : Fin 25, m_ref03_plain 1000 ((n : Nat) : Int) = some (iota n, List.replicate n []) := by decide +kernel
  exact this ⟨n, by omega⟩

theorem related_eq (n : Nat) (hn : n ≤ 24) (f : Nat → Nat → Bool) (g : Int → Int → Option Bool) (hg : ∀ v u : Nat, v < n → u < n → v ≠ u → g (min (v : Int) u) (max (v : Int) u) = some (f v u)) (hff : ∀ v, v < n → f v v = false) :
    m_family_related 1000 (n : Int) g = some (iota n, selP f n) := by
  unfold m_family_related
  rw [bindS (empty_eq n hn)]
  refine iter_eq (fun x => ∃ v : Nat, v ≤ n ∧ x = ((v : Int), rowsK f n v)) (fun x => n - x.1.toNat) ?_ 1000 _ ⟨0, by omega, by rw [rowsK_zero]; rfl⟩ (by simp; omega)
  rintro x ag ⟨v, hv, rfl⟩ hag
  unfold family_related_s1
  dsimp only
  by_cases hlt : v < n
  · rw [if_pos (by omega), rowsK_start f hlt]
    refine iter_eq (fun y => ∃ u : Nat, u ≤ n ∧ y = ((u : Int), partP f n v u)) (fun y => n - y.1.toNat) ?_ 1000 _ ⟨0, by omega, rfl⟩ (by simp; omega)
    rintro y ag2 ⟨u, hu, rfl⟩ hag2
    unfold family_related_s2
    dsimp only
    by_cases hu2 : u < n
    · have hstep : family_related_k4 ((v : Int), partP f n v 0) ((u : Int), partP f n v u) ag2 (f v u) = some (iota n, selP f n) := by
        unfold family_related_k4 family_related_k3
        dsimp only
        have hl := part_len f u hlt
        cases hf : f v u
        · rw [if_neg (by simp), wr (by omega) (by omega)]
          exact hag2 _ ⟨u + 1, by omega, by rw [partP, partP, preRow_no hf]; rfl⟩ (by simp; omega)
        · have hp := preRow_len f v u
          rw [if_pos rfl, part_at, ckT (by omega), ckT (by simp; omega), ckT (by rw [List.length_set]; omega), wr (by omega) (by omega), Int.toNat_natCast, part_set]
          exact hag2 _ ⟨u + 1, by omega, by rw [partP, preRow_yes hf]; rfl⟩ (by simp; omega)
      rw [if_pos (by omega)]
      by_cases hne : v = u
      · subst hne
        rw [if_neg (by simp), ← hff v hlt]; exact hstep
      · rw [if_pos (by omega), bindS (hg v u hlt hu2 hne)]; exact hstep
    · obtain rfl : u = n := by omega
      rw [if_neg (by omega)]
      unfold family_related_k2
      dsimp only
      rw [wr (by omega) (by omega), rowsK_end]
      exact hag _ ⟨v + 1, by omega, rfl⟩ (by simp; omega)
  · obtain rfl : v = n := by omega
    rw [if_neg (by omega)]
    unfold family_related_k1
    dsimp only
    rw [rowsK_all]
end Go.Proofs.Ytemhmmcakmidkaa
