/- GraphBackIsMutual: the plain law. Conditions: none. -/
import Derived.Test.YtemhmmcakmidkaaPj
import Derived.Test.YtemhmmcakmidkaaX8
namespace Go.Proofs.Ytemhmmcakmidkaa
open Go.Sx

theorem portTo_eq (g : GR) (v : Nat) (u : Int) (hv : v < g.2.length) (hl : (row g v).length ≤ 30) : m_graph_PortTo 1000 g v u = some (portOf (row g v) u) := by
  unfold m_graph_PortTo
  rw [ckT (by omega)]
  rcases portOf_cases (row g v) u with ⟨i, hi, hu, hf, he⟩ | ⟨hf, he⟩
  · rw [he]
    refine iter_eq (fun x : Int => ∃ k : Nat, x = k ∧ k ≤ i) (fun x => 31 - x.toNat) ?_ 1000 _ ⟨0, rfl, by omega⟩ (by omega)
    rintro x ag ⟨k, rfl, hk⟩ hag
    unfold graph_PortTo_s1
    rw [if_pos (show (k : Int) < ((row g v).length : Int) by omega), ckT (show 0 ≤ (k : Int) ∧ (k : Int) < ((row g v).length : Int) by omega)]
    by_cases e : k = i
    · subst e; exact if_pos hu
    · rw [if_neg (hf k (by omega)), wr (by omega) (by omega)]
      exact hag _ ⟨k + 1, by omega, by omega⟩ (by omega)
  · rw [he]
    refine iter_eq (fun x : Int => ∃ k : Nat, x = k ∧ k ≤ (row g v).length) (fun x => 31 - x.toNat) ?_ 1000 _ ⟨0, rfl, by omega⟩ (by omega)
    rintro x ag ⟨k, rfl, hk⟩ hag
    unfold graph_PortTo_s1
    by_cases e : k < (row g v).length
    · rw [if_pos (show (k : Int) < ((row g v).length : Int) by omega), ckT (show 0 ≤ (k : Int) ∧ (k : Int) < ((row g v).length : Int) by omega), if_neg (hf k e), wr (by omega) (by omega)]
      exact hag _ ⟨k + 1, by omega, by omega⟩ (by omega)
    · rw [if_neg (show ¬ (k : Int) < ((row g v).length : Int) by omega)]; rfl

/-- the port that leads back -/
theorem back_ok {g : GR} (hV : VG g) {v i : Nat} (hv : v < g.2.length) (hi : i < (row g v).length) : ∃ u j : Nat, u < g.2.length ∧ (lnk (row g v) i).1 = (u : Int) ∧ j < (row g u).length ∧ (lnk (row g u) j).1 = (v : Int) ∧ m_graph_Back 1000 g (v : Int) (i : Int) = some (j : Int) := by
  obtain ⟨u, hu, hue, hadj⟩ := hV.port hv hi
  obtain ⟨j', hj', hjv'⟩ := hV.back hv hadj
  have hl := hV.light.2.2 u hu
  rcases portOf_cases (row g u) v with ⟨j, hj, hjv, hjf, he⟩ | ⟨hf, _⟩
  rotate_left
  · exact absurd hjv' (hf j' hj')
  refine ⟨u, j, hu, hue, hj, hjv, ?_⟩
  unfold m_graph_Back graph_Back_k1 graph_Back_k2
  rw [(valid_eq g hV.light).1 hV, bindS rfl, if_neg (by simp), if_neg (by omega), decide_eq_false (by omega), if_neg (by simp), if_neg (by omega), ckT (by omega), decide_eq_false (show ¬ ((row g v).length : Int) ≤ (i : Int) by omega), if_neg (by simp), ckT (by omega), ckT (show 0 ≤ (i : Int) ∧ (i : Int) < ((row g v).length : Int) by omega), show at' (at' g.2 (v : Int)) (i : Int) = lnk (row g v) i from rfl, hue, portTo_eq g u v hu hl, he]
  rfl

theorem back_no {g : GR} (hV : VG g) {v : Nat} (hv : v < g.2.length) {i : Int} (hi : i < 0 ∨ ((row g v).length : Int) ≤ i) : m_graph_Back 1000 g (v : Int) i = some (-1) := by
  unfold m_graph_Back graph_Back_k1 graph_Back_k2
  rw [(valid_eq g hV.light).1 hV, bindS rfl, if_neg (by simp), if_neg (by omega), decide_eq_false (by omega), if_neg (by simp)]
  by_cases h : i < 0
  · rw [if_pos h, if_pos rfl]
  · rw [if_neg h, ckT (by omega), decide_eq_true (show ((row g v).length : Int) ≤ i by omega), if_pos rfl]

theorem degree_eq {g : GR} (hV : VG g) {v : Nat} (hv : v < g.2.length) : m_graph_Degree 1000 g (v : Int) = some ((row g v).length : Int) := by
  unfold m_graph_Degree graph_Degree_k1
  rw [(valid_eq g hV.light).1 hV, bindS rfl, if_neg (by simp), if_neg (by omega), decide_eq_false (by omega), if_neg (by simp), ckT (by omega)]

theorem back_pure (g : GR) : m_law01_GraphBackIsMutual 1000 g = some true := by
  unfold m_law01_GraphBackIsMutual
  by_cases hV : VG g
  rotate_left
  · rw [(fair_eq g).2 hV, bindS rfl, if_pos (show (!false) = true from rfl), awake01]; rfl
  have h24 := hV.n24
  rw [(fair_eq g).1 hV, bindS rfl, if_neg (by simp)]
  refine iter_eq (fun z : Int => ∃ v : Nat, z = v ∧ v ≤ g.2.length) (fun z => 31 - z.toNat) ?_ 1000 _ ⟨0, rfl, by omega⟩ (by simp)
  rintro z ag ⟨v, rfl, hv⟩ hag
  unfold law01_GraphBackIsMutual_s1 law01_GraphBackIsMutual_k1
  by_cases hlt : v < g.2.length
  rotate_left
  · rw [if_neg (by omega), awake01]; rfl
  have hdeg := (hV.node v hlt).deg
  rw [if_pos (by omega)]
  refine iter_eq (fun z : Int => ∃ i : Nat, z = i ∧ i ≤ (row g v).length) (fun z => 31 - z.toNat) ?_ 1000 _ ⟨0, rfl, by omega⟩ (by simp)
  rintro z ag2 ⟨i, rfl, hi⟩ hag2
  unfold law01_GraphBackIsMutual_s2
  rw [ckT (by omega)]
  by_cases hil : i < (row g v).length
  · obtain ⟨u, j, hu, hue, hj, hjv, hb⟩ := back_ok hV hlt hil
    obtain ⟨v', i', hv', hve', hi', hiu', hb'⟩ := back_ok hV hu hj
    have : v' = v := by omega
    subst this
    have hii : i' = i := by
      have hlk := (hV.node v' hlt).links
      rcases Nat.lt_trichotomy i' i with h | h | h
      · exact absurd (hiu'.trans hue.symm) ((hlk i hil).2.2.2 i' h)
      · exact h
      · exact absurd (hue.trans hiu'.symm) ((hlk i' hi').2.2.2 i h)
    subst hii
    rw [if_pos (show (i' : Int) < ((row g v').length : Int) by omega), ckT (by omega), ckT (show 0 ≤ (i' : Int) ∧ (i' : Int) < ((row g v').length : Int) by omega), hb, bindS rfl, if_neg (by omega), show at' (at' g.2 (v' : Int)) (i' : Int) = lnk (row g v') i' from rfl, hue, ckT (by omega), if_neg (show ¬ ((row g u).length : Int) ≤ (j : Int) by omega), ckT (by omega), ckT (show 0 ≤ (j : Int) ∧ (j : Int) < ((row g u).length : Int) by omega), if_neg (show ¬ (lnk (row g u) j).1 ≠ (v' : Int) from fun h => h hjv), hb', bindS rfl, decide_eq_false (by omega)]
    unfold law01_GraphBackIsMutual_k4
    rw [if_neg (by simp), wr (by omega) (by omega)]
    exact hag2 _ ⟨i' + 1, by simp, by omega⟩ (by omega)
  · rw [if_neg (show ¬ (i : Int) < ((row g v).length : Int) by omega)]
    unfold law01_GraphBackIsMutual_k2 law01_GraphBackIsMutual_k3
    rw [ckT (by omega), back_no hV hlt (.inr (Int.le_refl _)), bindS rfl, if_neg (by simp), back_no hV hlt (.inl (by decide)), bindS rfl, if_neg (by simp), degree_eq hV hlt, bindS rfl, ckT (by omega), decide_eq_false (by simp), if_neg (by simp), wr (by omega) (by omega)]
    exact hag _ ⟨v + 1, by simp, by omega⟩ (by omega)
end Go.Proofs.Ytemhmmcakmidkaa
