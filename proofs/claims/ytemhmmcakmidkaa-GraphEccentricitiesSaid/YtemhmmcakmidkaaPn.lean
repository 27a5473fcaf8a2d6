/- GraphEccentricities: the plain law. Conditions: none. -/
import Derived.Test.YtemhmmcakmidkaaPm
import Derived.Test.YtemhmmcakmidkaaX6
namespace Go.Proofs.Ytemhmmcakmidkaa
open Go.Sx

theorem greatest_ok (d : List Int) (h : d.length ≤ 30) : OK (fun r : Int => -1 ≤ r ∧ (∀ v, v < d.length → D d v ≤ r) ∧ (r = -1 ∨ ∃ v, v < d.length ∧ D d v = r)) (m_graph_greatest 1000 d) := by
  unfold m_graph_greatest
  refine iter_ok (fun z : Int × Int => ∃ k : Nat, z.2 = k ∧ k ≤ d.length ∧ -1 ≤ z.1 ∧ (∀ v, v < k → D d v ≤ z.1) ∧ (z.1 = -1 ∨ ∃ v, v < k ∧ D d v = z.1)) (fun z => 31 - z.2.toNat) ?_ 1000 _ ⟨0, rfl, by omega, by omega, fun v hv => by omega, .inl rfl⟩ (by simp)
  rintro ⟨m, z⟩ ag ⟨k, hz, hk, h1, h2, h3⟩ hag
  dsimp only at hz h1 h2 h3
  subst hz
  unfold graph_greatest_s1 graph_greatest_k1
  dsimp only
  by_cases hlt : k < d.length
  · rw [if_pos (by omega), ckT (by omega), wr (by omega) (by omega)]
    refine hag _ ⟨k + 1, by simp, by omega, by dsimp only; omega, fun v hv => ?_, ?_⟩ (by dsimp only; omega)
    · by_cases hvk : v = k
      · subst hvk; show D d v ≤ max m (D d v); omega
      · have := h2 v (by omega); show D d v ≤ max m (D d k); omega
    · by_cases hm : m ≤ D d k
      · exact .inr ⟨k, by omega, by show D d k = max m (D d k); omega⟩
      · rcases h3 with h3 | ⟨v, hv, he⟩
        · left; show max m (D d k) = -1; omega
        · exact .inr ⟨v, by omega, by show D d v = max m (D d k); omega⟩
  · rw [if_neg (by omega)]
    refine ⟨m, rfl, h1, fun v hv => h2 v (by omega), ?_⟩
    rcases h3 with h3 | ⟨v, hv, he⟩
    · exact .inl h3
    · exact .inr ⟨v, by omega, he⟩

/-- each node can be reached from each -/
def Conn (g : GR) : Prop := ∀ u v, u < g.2.length → v < g.2.length → ∃ k, Walk g u k v

theorem connected_eq {g : GR} (hV : VG g) : (Conn g → m_graph_Connected 1000 g = some true) ∧ (¬ Conn g → m_graph_Connected 1000 g = some false) := by
  have h1 := hV.n1
  have h24 := hV.n24
  unfold m_graph_Connected
  obtain ⟨d, hd, hD⟩ := search_ok hV (s := 0) (by omega)
  have hlen := hD.len
  rw [(valid_eq g hV.light).1 hV, bindS rfl, if_neg (by simp), show m_graph_search 1000 (g.1, g.2) 0 = some d from hd, bindS rfl]
  have key := iter_if (step := graph_Connected_s1 d) (K := some true) (bad := false) d.length (fun v => 0 ≤ D d v) (fun k ag hk hp => ?_) (fun k ag hk hp => ?_) (fun ag => ?_) 1000 (by omega)
  · have hiff : (∀ v, v < d.length → 0 ≤ D d v) ↔ Conn g := by
      constructor
      · intro h u v hu hv
        exact ⟨_, Walk.trans (Walk.rev hV (Dist.pos hV hD hu (h u (by omega)))) (Dist.pos hV hD hv (h v (by omega)))⟩
      · intro h v hv
        obtain ⟨k, hk⟩ := h 0 v (by omega) (by omega)
        exact (Dist.le hV hD hk).1
    exact ⟨fun h => key.1 (hiff.2 h), fun h => key.2 fun h2 => h (hiff.1 h2)⟩
  · unfold graph_Connected_s1
    rw [if_pos (by omega), ckT (by omega), if_neg (show ¬ D d k < 0 by omega), wr (by omega) (by omega)]
  · unfold graph_Connected_s1
    rw [if_pos (by omega), ckT (by omega), if_pos (show D d k < 0 by omega)]
  · unfold graph_Connected_s1 graph_Connected_k1
    rw [if_neg (by omega)]

/-- r is the eccentricity of s -/
def Ecc (g : GR) (s : Nat) (r : Int) : Prop := ∃ d, m_graph_search 1000 g (s : Int) = some d ∧ Dist g s d ∧ (∀ v, v < g.2.length → D d v ≤ r) ∧ ∃ v, v < g.2.length ∧ D d v = r

theorem Ecc.unique {g : GR} {s : Nat} {r r' : Int} (h : Ecc g s r) (h' : Ecc g s r') : r = r' := by
  obtain ⟨d, h1, _, h3, v, hv, hr⟩ := h
  obtain ⟨d', h1', _, h3', v', hv', hr'⟩ := h'
  rw [h1] at h1'
  cases h1'
  have := h3 v' hv'
  have := h3' v hv
  omega

theorem Ecc.pos {g : GR} {s : Nat} {r : Int} (hs : s < g.2.length) (h : Ecc g s r) : 0 ≤ r ∧ r ≤ (g.2.length : Int) := by
  obtain ⟨d, h1, h2, h3, v, hv, hr⟩ := h
  have := h3 s hs
  have := (h2.zero s hs).2 rfl
  have := h2.hi v hv
  omega

theorem ecc_search {g : GR} (hV : VG g) {s : Nat} (hs : s < g.2.length) : ∃ d r, m_graph_search 1000 g (s : Int) = some d ∧ m_graph_greatest 1000 d = some r ∧ Ecc g s r := by
  obtain ⟨d, hd, hD⟩ := search_ok hV hs
  have hlen := hD.len
  have h24 := hV.n24
  obtain ⟨r, hr, h1, h2, h3⟩ := greatest_ok d (by omega)
  have h0 := h2 s (by omega)
  have := (hD.zero s hs).2 rfl
  refine ⟨d, r, hd, hr, d, hd, hD, fun v hv => h2 v (by omega), ?_⟩
  rcases h3 with h3 | ⟨v, hv, he⟩
  · omega
  · exact ⟨v, by omega, he⟩

theorem eccentricity_ok {g : GR} (hV : VG g) (hc : Conn g) {s : Nat} (hs : s < g.2.length) : OK (Ecc g s) (m_graph_Eccentricity 1000 g (s : Int)) := by
  unfold m_graph_Eccentricity graph_Eccentricity_k1
  rw [(connected_eq hV).1 hc, bindS rfl, if_neg (by simp), if_neg (by omega), decide_eq_false (by omega), if_neg (by simp)]
  obtain ⟨d, r, h1, h2, h3⟩ := ecc_search hV hs
  rw [h1, bindS rfl, h2, bindS rfl]
  exact ⟨r, rfl, h3⟩

theorem eccentricity_no {g : GR} (hV : VG g) (hc : ¬ Conn g) (s : Int) : m_graph_Eccentricity 1000 g s = some (-1) := by
  unfold m_graph_Eccentricity graph_Eccentricity_k1
  rw [(connected_eq hV).2 hc]; rfl

theorem diameter_no {g : GR} (hV : VG g) (hc : ¬ Conn g) : m_graph_Diameter 1000 g = some (-1) := by
  unfold m_graph_Diameter
  rw [(connected_eq hV).2 hc]; rfl

theorem diameter_ok {g : GR} (hV : VG g) (hc : Conn g) : OK (fun r : Int => (∀ s, s < g.2.length → ∀ e, Ecc g s e → e ≤ r) ∧ ∃ s, s < g.2.length ∧ Ecc g s r) (m_graph_Diameter 1000 g) := by
  have h1 := hV.n1
  have h24 := hV.n24
  unfold m_graph_Diameter
  rw [(connected_eq hV).1 hc, bindS rfl, if_neg (by simp)]
  refine iter_ok (fun z : Int × Int => ∃ k : Nat, z.2 = k ∧ k ≤ g.2.length ∧ (∀ s, s < k → ∀ e, Ecc g s e → e ≤ z.1) ∧ ((k = 0 ∧ z.1 = 0) ∨ ∃ s, s < k ∧ Ecc g s z.1)) (fun z => 31 - z.2.toNat) ?_ 1000 _ ⟨0, rfl, by omega, fun v hv => by omega, .inl ⟨rfl, rfl⟩⟩ (by simp)
  rintro ⟨m, z⟩ ag ⟨k, hz, hk, h2, h3⟩ hag
  dsimp only at hz h2 h3
  subst hz
  unfold graph_Diameter_s1 graph_Diameter_k1
  dsimp only
  by_cases hlt : k < g.2.length
  · obtain ⟨d, r, e1, e2, e3⟩ := ecc_search hV hlt
    rw [if_pos (by omega), e1, bindS rfl, e2, bindS rfl, wr (by omega) (by omega)]
    have hr := Ecc.pos hlt e3
    have hmr : m ≤ r ∨ r < m := by omega
    refine hag _ ⟨k + 1, by simp, by omega, fun s hs e he => ?_, .inr ?_⟩ (by dsimp only; omega)
    · show e ≤ max m r
      by_cases hsk : s = k
      · subst hsk; have := Ecc.unique he e3; omega
      · have := h2 s (by omega) e he; omega
    · show ∃ s, s < k + 1 ∧ Ecc g s (max m r)
      rcases hmr with hmr | hmr
      · exact ⟨k, by omega, by rw [show max m r = r by omega]; exact e3⟩
      · rcases h3 with ⟨_, h3⟩ | ⟨s, hs, he⟩
        · omega
        · exact ⟨s, by omega, by rw [show max m r = m by omega]; exact he⟩
  · rw [if_neg (by omega)]
    refine ⟨m, rfl, fun s hs => h2 s (by omega), ?_⟩
    rcases h3 with ⟨h3, _⟩ | ⟨s, hs, he⟩
    · omega
    · exact ⟨s, by omega, he⟩

theorem eccentricities_pure (g : GR) : m_law01_GraphEccentricities 1000 g = some true := by
  unfold m_law01_GraphEccentricities
  by_cases hV : VG g
  rotate_left
  · rw [(fair_eq g).2 hV, bindS rfl, if_pos (show (!false) = true from rfl), awake01]; rfl
  have h24 := hV.n24
  rw [(fair_eq g).1 hV, bindS rfl, if_neg (by simp)]
  by_cases hc : Conn g
  rotate_left
  · rw [diameter_no hV hc, bindS rfl, (connected_eq hV).2 hc, bindS rfl, if_pos (show (!false) = true from rfl), awake01, bindS rfl, if_pos rfl, if_pos rfl, eccentricity_no hV hc]; rfl
  obtain ⟨r, hr, hmax, s0, hs0, he0⟩ := diameter_ok hV hc
  rw [hr, bindS rfl, (connected_eq hV).1 hc, bindS rfl, if_neg (by simp)]
  have hr0 := Ecc.pos hs0 he0
  refine iter_eq (fun z : Bool × Int => ∃ k : Nat, z.2 = k ∧ k ≤ g.2.length ∧ (s0 < k → z.1 = true)) (fun z => 31 - z.2.toNat) ?_ 1000 _ ⟨0, rfl, by omega, fun h => by omega⟩ (by simp)
  rintro ⟨f, z⟩ ag ⟨k, hz, hk, hf⟩ hag
  dsimp only at hz hf
  subst hz
  unfold law01_GraphEccentricities_s1 law01_GraphEccentricities_k2 law01_GraphEccentricities_k3
  dsimp only
  by_cases hlt : k < g.2.length
  · obtain ⟨e, h1, he⟩ := eccentricity_ok hV hc hlt
    have hp := Ecc.pos hlt he
    have hle := hmax k hlt e he
    have h2 : r ≤ 2 * e := by
      obtain ⟨d0, _, hD0, _, t, ht, hrt⟩ := he0
      obtain ⟨d, _, hD, hm, _⟩ := he
      obtain ⟨w1, hw1⟩ := hc s0 k hs0 hlt
      obtain ⟨w2, hw2⟩ := hc k t hlt ht
      have a1 := (Dist.le hV hD0 hw1).1
      have a2 := (Dist.le hV hD hw2).1
      have h3 := Dist.tri hV hD0 hD hlt ht a1 a2
      have h4 := Dist.symm hV hD0 hD hs0 hlt
      have h5 := hm s0 hs0
      have h6 := hm t ht
      omega
    rw [if_pos (by omega), h1, bindS rfl, if_neg (by omega), if_neg (by omega), wr (x := 2 * e) (by omega) (by omega), decide_eq_false (by omega)]
    unfold law01_GraphEccentricities_k5 law01_GraphEccentricities_k4
    dsimp only
    rw [if_neg (by simp), wr (by omega) (by omega)]
    by_cases hft : f = true
    · rw [if_pos hft]
      exact hag _ ⟨k + 1, by simp, by omega, fun _ => rfl⟩ (by dsimp only; omega)
    · rw [if_neg hft]
      refine hag _ ⟨k + 1, by simp, by omega, fun h => ?_⟩ (by dsimp only; omega)
      by_cases hsk : s0 = k
      · subst hsk; exact decide_eq_true (Ecc.unique he he0)
      · exact absurd (hf (by omega)) hft
  · rw [if_neg (by omega), awake01, bindS rfl, if_pos rfl, hf (by omega)]
end Go.Proofs.Ytemhmmcakmidkaa
