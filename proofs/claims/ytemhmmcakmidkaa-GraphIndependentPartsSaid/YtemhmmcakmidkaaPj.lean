/- GraphDistancesAreSteps: the plain law. Conditions: none. -/
import Derived.Test.YtemhmmcakmidkaaPi
import Derived.Test.YtemhmmcakmidkaaX4
import Derived.KernelRfl
namespace Go.Proofs.Ytemhmmcakmidkaa
open Go.Sx

theorem awake01 : m_law01_awake 1000 = some true := by kernel_rfl

theorem fair_eq (g : GR) : (VG g → m_law01_fair 1000 g = some true) ∧ (¬ VG g → m_law01_fair 1000 g = some false) := by
  unfold m_law01_fair law01_fair_k1
  by_cases hl : light g
  · rw [(lightGraph_eq g).1 hl, bindS rfl, if_pos rfl]
    exact ⟨fun h => by rw [(refValid_eq g hl).1 h]; rfl, fun h => by rw [(refValid_eq g hl).2 h]; rfl⟩
  · rw [(lightGraph_eq g).2 hl]
    exact ⟨fun h => absurd h.light hl, fun _ => rfl⟩

theorem mod_ok (p : Int) {n : Nat} (hn : 1 ≤ n) (h24 : n ≤ 24) : OK (fun r : Int => ∃ s : Nat, r = s ∧ s < n) (m_made_Mod 1000 p (n : Int)) := by
  have h1 : Int.tmod p n < n := Int.tmod_lt_of_pos _ (by omega)
  have h2 : -(n : Int) < Int.tmod p n := by
    have := Int.tmod_lt_of_pos (-p) (show (0 : Int) < n by omega)
    rw [Int.neg_tmod] at this
    omega
  unfold m_made_Mod made_Mod_k1
  rw [ckT (by omega)]
  by_cases h : Int.tmod p n < 0
  · rw [if_pos h, wr (by omega) (by omega)]
    exact ⟨_, rfl, (Int.tmod p n + n).toNat, by omega, by omega⟩
  · rw [if_neg h]
    exact ⟨_, rfl, (Int.tmod p n).toNat, by omega, by omega⟩

theorem distances_ok {g : GR} (hV : VG g) {s : Nat} (hs : s < g.2.length) : OK (Dist g s) (m_graph_Distances 1000 g (s : Int)) := by
  unfold m_graph_Distances graph_Distances_k1
  rw [(valid_eq g hV.light).1 hV, bindS rfl, if_neg (by simp), if_neg (by omega), decide_eq_false (by omega), if_neg (by simp)]
  obtain ⟨d, hd, hD⟩ := search_ok hV hs
  rw [hd]
  exact ⟨d, rfl, hD⟩

theorem steps_pure (g : GR) (p : Int) : m_law01_GraphDistancesAreSteps 1000 g p = some true := by
  unfold m_law01_GraphDistancesAreSteps
  by_cases hV : VG g
  rotate_left
  · rw [(fair_eq g).2 hV, bindS rfl, if_pos (show (!false) = true from rfl), awake01]; rfl
  have h24 := hV.n24
  obtain ⟨r, hr, s, rfl, hs⟩ := mod_ok p hV.n1 h24
  obtain ⟨d, hd, hD⟩ := distances_ok hV hs
  have hlen := hD.len
  rw [(fair_eq g).1 hV, bindS rfl, if_neg (by simp), hr, bindS rfl, hd, bindS rfl, if_neg (by omega)]
  refine iter_eq (fun z : Int => ∃ v : Nat, z = v ∧ v ≤ g.2.length) (fun z => 31 - z.toNat) ?_ 1000 _ ⟨0, rfl, by omega⟩ (by simp)
  rintro z ag ⟨v, rfl, hv⟩ hag
  unfold law01_GraphDistancesAreSteps_s1 law01_GraphDistancesAreSteps_k1
  by_cases hlt : v < g.2.length
  rotate_left
  · rw [if_neg (by omega), awake01]; rfl
  have hdeg := (hV.node v hlt).deg
  have hlo := hD.lo v hlt
  have hhi := hD.hi v hlt
  have hlo' : -1 ≤ at' d (v : Int) := hlo
  rw [if_pos (by omega), ckT (by omega), if_neg (by omega), ckT (by omega)]
  have hz : ((decide (at' d (v : Int) = 0)) != (decide ((v : Int) = (s : Int)))) = false := by
    have := hD.zero v hlt
    by_cases e : v = s
    · have h0 : at' d (v : Int) = 0 := this.2 e
      rw [decide_eq_true h0, decide_eq_true (by omega)]; rfl
    · rw [decide_eq_false (fun h => e (this.1 h)), decide_eq_false (by omega)]; rfl
  rw [hz]
  unfold law01_GraphDistancesAreSteps_k2
  rw [if_neg (by simp)]
  refine iter_eq (fun z : Bool × Int => ∃ i : Nat, z.2 = i ∧ i ≤ (row g v).length ∧ ∀ k, k < i → ∀ u : Nat, (lnk (row g v) k).1 = u → D d u = D d v - 1 → z.1 = true) (fun z => 31 - z.2.toNat) ?_ 1000 _ ⟨0, rfl, by omega, fun k hk => by omega⟩ (by simp)
  rintro ⟨f, z⟩ ag2 ⟨i, hz, hi, hf⟩ hag2
  dsimp only at hz hf
  subst hz
  unfold law01_GraphDistancesAreSteps_s2
  dsimp only
  rw [ckT (by omega)]
  by_cases hil : i < (row g v).length
  · obtain ⟨u, hu, hue, hadj⟩ := hV.port hlt hil
    have hlu : -1 ≤ at' d (u : Int) := hD.lo u hu
    have hhu : at' d (u : Int) ≤ (g.2.length : Int) := hD.hi u hu
    have hhv : at' d (v : Int) ≤ (g.2.length : Int) := hhi
    have n1 : 0 ≤ at' d (v : Int) → 0 ≤ at' d (u : Int) ∧ at' d (u : Int) ≤ at' d (v : Int) + 1 := fun h => hD.next v hlt h u hu hadj
    have n2 : 0 ≤ at' d (u : Int) → 0 ≤ at' d (v : Int) ∧ at' d (v : Int) ≤ at' d (u : Int) + 1 := fun h => hD.next u hu h v hlt (hV.back hlt hadj)
    rw [if_pos (show (i : Int) < ((row g v).length : Int) by omega), ckT (by omega), ckT (show 0 ≤ (i : Int) ∧ (i : Int) < ((row g v).length : Int) by omega), show at' (at' g.2 (v : Int)) (i : Int) = lnk (row g v) i from rfl]
    unfold law01_GraphDistancesAreSteps_k6
    dsimp only
    rw [show at' (at' g.2 (v : Int)) (i : Int) = lnk (row g v) i from rfl, hue, ckT (by omega), ckT (by omega)]
    have hb : ((decide (at' d (u : Int) < 0)) != (decide (at' d (v : Int) < 0))) = false := by
      by_cases e : at' d (v : Int) < 0
      · rw [decide_eq_true e, decide_eq_true (by omega)]; rfl
      · rw [decide_eq_false e, decide_eq_false (by omega)]; rfl
    rw [hb, if_neg (by simp), ckT (by omega), wr (x := at' d (u : Int) - at' d (v : Int)) (by omega) (by omega), wr (x := at' d (v : Int) - at' d (u : Int)) (by omega) (by omega), if_neg (by omega), ckT (by omega), decide_eq_false (by omega), if_neg (by simp)]
    unfold law01_GraphDistancesAreSteps_k5
    dsimp only
    rw [wr (x := (i : Int) + 1) (by omega) (by omega)]
    by_cases hft : f = true
    · rw [if_pos hft]
      exact hag2 _ ⟨i + 1, by simp, by omega, fun _ _ _ _ _ => rfl⟩ (by dsimp only; omega)
    · rw [if_neg hft, ckT (by omega), wr (by omega) (by omega)]
      refine hag2 _ ⟨i + 1, by simp, by omega, fun k hk w hw he => ?_⟩ (by dsimp only; omega)
      by_cases hki : k = i
      · subst hki
        have : w = u := by omega
        subst this
        exact decide_eq_true he
      · exact absurd (hf k (by omega) w hw he) hft
  · rw [if_neg (show ¬ (i : Int) < ((row g v).length : Int) by omega)]
    unfold law01_GraphDistancesAreSteps_k3 law01_GraphDistancesAreSteps_k4
    rw [ckT (by omega)]
    have hgo : ag (wI .i64 ((v : Int) + 1)) = some true := by
      rw [wr (by omega) (by omega)]
      exact hag _ ⟨v + 1, by simp, by omega⟩ (by omega)
    by_cases hp : 0 < at' d (v : Int)
    · rw [if_pos hp]
      obtain ⟨u, hu, ⟨k, hk, hku⟩, he⟩ := hD.near v hlt hp
      rw [hf k (by omega) u hku he, if_neg (by simp)]
      exact hgo
    · rw [if_neg hp, if_neg (by simp)]
      exact hgo
end Go.Proofs.Ytemhmmcakmidkaa
