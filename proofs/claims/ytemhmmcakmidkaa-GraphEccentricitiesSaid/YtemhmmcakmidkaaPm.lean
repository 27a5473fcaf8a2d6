/- GraphDistancesAreAMetric: the plain law. Conditions: none. -/
import Derived.Test.YtemhmmcakmidkaaPj
import Derived.Test.YtemhmmcakmidkaaX5
namespace Go.Proofs.Ytemhmmcakmidkaa
open Go.Sx

/-- k steps lead from s to v -/
def Walk (g : GR) (s : Nat) : Nat → Nat → Prop
  | 0, v => v = s ∧ s < g.2.length
  | k + 1, v => ∃ u, Walk g s k u ∧ Adj g u v

theorem Walk.lt {g : GR} (hV : VG g) {s : Nat} : ∀ {k v : Nat}, Walk g s k v → v < g.2.length
  | 0, _, h => by obtain ⟨rfl, h⟩ := h; exact h
  | _ + 1, _, h => by obtain ⟨u, h1, h2⟩ := h; exact hV.adj_lt (Walk.lt hV h1) h2

theorem Walk.trans {g : GR} {s t : Nat} {k : Nat} (h : Walk g s k t) : ∀ {m v : Nat}, Walk g t m v → Walk g s (k + m) v
  | 0, _, h2 => by obtain ⟨rfl, _⟩ := h2; exact h
  | _ + 1, _, h2 => by obtain ⟨u, h3, h4⟩ := h2; exact ⟨u, Walk.trans h h3, h4⟩

theorem Walk.rev {g : GR} (hV : VG g) {s : Nat} : ∀ {k v : Nat}, Walk g s k v → Walk g v k s
  | 0, _, h => by obtain ⟨rfl, h⟩ := h; exact ⟨rfl, h⟩
  | k + 1, v, h => by
    obtain ⟨u, h1, h2⟩ := h
    have hu := Walk.lt hV h1
    have h3 : Walk g v 1 u := ⟨v, ⟨rfl, hV.adj_lt hu h2⟩, hV.back hu h2⟩
    have := Walk.trans h3 (Walk.rev hV h1)
    rwa [Nat.add_comm] at this

theorem Dist.le {g : GR} (hV : VG g) {s : Nat} {d : List Int} (h : Dist g s d) : ∀ {k v : Nat}, Walk g s k v → 0 ≤ D d v ∧ D d v ≤ k
  | 0, v, hw => by
    obtain ⟨rfl, hs⟩ := hw
    have := (h.zero v hs).2 rfl
    omega
  | k + 1, v, hw => by
    obtain ⟨u, h1, h2⟩ := hw
    have hu := Walk.lt hV h1
    have h3 := Dist.le hV h h1
    have h4 := h.next u hu h3.1 v (hV.adj_lt hu h2) h2
    omega

theorem Dist.walk {g : GR} (hV : VG g) {s : Nat} {d : List Int} (h : Dist g s d) : ∀ (k v : Nat), v < g.2.length → D d v = k → Walk g s k v
  | 0, v, hv, he => by
    have := (h.zero v hv).1 he
    exact ⟨this, by omega⟩
  | k + 1, v, hv, he => by
    obtain ⟨u, hu, hadj, hd⟩ := h.near v hv (by omega)
    exact ⟨u, Dist.walk hV h k u hu (by omega), hV.back hv hadj⟩

theorem Dist.pos {g : GR} (hV : VG g) {s : Nat} {d : List Int} (h : Dist g s d) {v : Nat} (hv : v < g.2.length) (h0 : 0 ≤ D d v) : Walk g s (D d v).toNat v :=
  Dist.walk hV h _ v hv (by omega)

/-- distances are symmetric -/
theorem Dist.symm {g : GR} (hV : VG g) {s t : Nat} {d e : List Int} (h : Dist g s d) (h2 : Dist g t e) (hs : s < g.2.length) (ht : t < g.2.length) : D d t = D e s := by
  have h3 := h.lo t ht
  have h4 := h2.lo s hs
  by_cases a : 0 ≤ D d t
  · have w1 := Dist.le hV h2 (Walk.rev hV (Dist.pos hV h ht a))
    have w2 := Dist.le hV h (Walk.rev hV (Dist.pos hV h2 hs w1.1))
    omega
  · by_cases b : 0 ≤ D e s
    · have w2 := Dist.le hV h (Walk.rev hV (Dist.pos hV h2 hs b))
      omega
    · omega

/-- a detour is not shorter -/
theorem Dist.tri {g : GR} (hV : VG g) {s t : Nat} {d e : List Int} (h : Dist g s d) (h2 : Dist g t e) {v : Nat} (ht : t < g.2.length) (hv : v < g.2.length) (a : 0 ≤ D d t) (b : 0 ≤ D e v) : 0 ≤ D d v ∧ D d v ≤ D d t + D e v := by
  have := Dist.le hV h (Walk.trans (Dist.pos hV h ht a) (Dist.pos hV h2 hv b))
  omega

theorem metric_pure (g : GR) (p q r : Int) : m_law01_GraphDistancesAreAMetric 1000 g p q r = some true := by
  unfold m_law01_GraphDistancesAreAMetric
  by_cases hV : VG g
  rotate_left
  · rw [(fair_eq g).2 hV, bindS rfl, if_pos (show (!false) = true from rfl), awake01]; rfl
  have h24 := hV.n24
  obtain ⟨_, hr1, x, rfl, hx⟩ := mod_ok p hV.n1 h24
  obtain ⟨_, hr2, y, rfl, hy⟩ := mod_ok q hV.n1 h24
  obtain ⟨_, hr3, z, rfl, hz⟩ := mod_ok r hV.n1 h24
  obtain ⟨a, ha, hA⟩ := distances_ok hV hx
  obtain ⟨b, hb, hB⟩ := distances_ok hV hy
  obtain ⟨c, hc, hC⟩ := distances_ok hV hz
  have la := hA.len
  have lb := hB.len
  have lc := hC.len
  rw [(fair_eq g).1 hV, bindS rfl, if_neg (by simp), hr1, bindS rfl, hr2, bindS rfl, hr3, bindS rfl, ha, bindS rfl, hb, bindS rfl, hc, bindS rfl, if_neg (by omega), if_neg (by omega), decide_eq_false (by omega)]
  have e1 : at' a (y : Int) = at' b (x : Int) := Dist.symm hV hA hB hx hy
  have e2 : at' b (z : Int) = at' c (y : Int) := Dist.symm hV hB hC hy hz
  have h1 : at' a (y : Int) ≤ (g.2.length : Int) := hA.hi y hy
  have h2 : at' b (z : Int) ≤ (g.2.length : Int) := hB.hi z hz
  have h3 : 0 ≤ at' a (y : Int) → 0 ≤ at' b (z : Int) → 0 ≤ at' a (z : Int) ∧ at' a (z : Int) ≤ at' a (y : Int) + at' b (z : Int) := fun u w => Dist.tri hV hA hB hy hz u w
  have last : law01_GraphDistancesAreAMetric_k2 1000 (x : Int) (y : Int) (z : Int) a b c false = some true := by
    unfold law01_GraphDistancesAreAMetric_k2 law01_GraphDistancesAreAMetric_k3
    rw [if_neg (by simp), awake01, bindS rfl, if_pos rfl, ckT (by omega), ckT (by omega), if_pos e1, ckT (by omega), ckT (by omega), decide_eq_true e2]
  unfold law01_GraphDistancesAreAMetric_k1
  rw [if_neg (by simp), ckT (by omega)]
  by_cases u : 0 ≤ at' a (y : Int)
  · rw [if_pos u, ckT (by omega)]
    by_cases w : 0 ≤ at' b (z : Int)
    · have := h3 u w
      rw [if_pos w, ckT (by omega), if_neg (by omega), ckT (by omega), ckT (by omega), ckT (by omega), wr (by omega) (by omega), decide_eq_false (by omega)]
      exact last
    · rw [if_neg w]; exact last
  · rw [if_neg u]; exact last
end Go.Proofs.Ytemhmmcakmidkaa
