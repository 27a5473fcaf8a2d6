/- The program's search gives the distances. Conditions: valid graphs. -/
import Derived.Test.YtemhmmcakmidkaaPh
import Derived.Test.YtemhmmcakmidkaaX81
namespace Go.Proofs.Ytemhmmcakmidkaa
set_option linter.unusedVariables false
set_option linter.unusedSimpArgs false
open Go.Sx

abbrev D (d : List Int) (v : Nat) : Int := at' d (v : Int)

/-- node v has a link to u -/
def Adj (g : GR) (v u : Nat) : Prop := ∃ i, i < (row g v).length ∧ (lnk (row g v) i).1 = (u : Int)

theorem VG.port {g : GR} (h : VG g) {v i : Nat} (hv : v < g.2.length) (hi : i < (row g v).length) : ∃ u : Nat, u < g.2.length ∧ (lnk (row g v) i).1 = (u : Int) ∧ Adj g v u := by
  have hu := ((h.node v hv).links i hi).1
  exact ⟨(lnk (row g v) i).1.toNat, by omega, by omega, i, hi, by omega⟩

theorem VG.back {g : GR} (h : VG g) {v u : Nat} (hv : v < g.2.length) (ha : Adj g v u) : Adj g u v := by
  obtain ⟨i, hi, hu⟩ := ha
  obtain ⟨j, hj, hjv, _⟩ := h.sym v hv i hi
  rw [hu] at hj hjv
  exact ⟨j, hj, hjv⟩

theorem VG.adj_lt {g : GR} (h : VG g) {v u : Nat} (hv : v < g.2.length) (ha : Adj g v u) : u < g.2.length := by
  obtain ⟨i, hi, hu⟩ := ha
  have := ((h.node v hv).links i hi).1
  omega

def cneg (d : List Int) : Nat := d.countP fun x => decide (x < 0)

/-- what holds of the numbers at all times of the search from s -/
structure Core (g : GR) (s : Nat) (d : List Int) : Prop where
  len : d.length = g.2.length
  lo : ∀ v, v < g.2.length → -1 ≤ D d v
  zero : ∀ v, v < g.2.length → (D d v = 0 ↔ v = s)
  near : ∀ v, v < g.2.length → 0 < D d v → ∃ u, u < g.2.length ∧ Adj g v u ∧ D d u = D d v - 1
  hi : ∀ v, v < g.2.length → D d v + (cneg d : Int) ≤ (g.2.length : Int)

structure Qu (g : GR) (q d : List Int) (b : Int) (done : Nat → Prop) : Prop where
  mem : ∀ y ∈ q, ∃ v, v < g.2.length ∧ y = ((v : Nat) : Int) ∧ 0 ≤ D d v
  top : ∀ v, v < g.2.length → D d v ≤ b
  sort : q.Pairwise fun a c => at' d a ≤ at' d c
  done : ∀ v, v < g.2.length → 0 ≤ D d v → ((v : Nat) : Int) ∉ q → done v → ∀ u, u < g.2.length → Adj g v u → 0 ≤ D d u ∧ D d u ≤ D d v + 1

theorem D_getElem {d : List Int} {v : Nat} (h : v < d.length) : D d v = d[v] := by
  rw [D, at'_nat, List.getD_eq_getElem?_getD, List.getElem?_eq_getElem h]; rfl

theorem cneg_set {d : List Int} {u : Nat} {x : Int} (hu : u < d.length) (hn : D d u < 0) (hx : 0 ≤ x) : cneg (d.set u x) + 1 = cneg d := by
  unfold cneg
  rw [List.countP_set hu]
  have hp : 0 < d.countP fun x => decide (x < 0) := by
    rw [List.countP_pos_iff]
    exact ⟨d[u], List.getElem_mem hu, by rw [← D_getElem hu]; simpa using hn⟩
  rw [D_getElem hu] at hn
  rw [if_pos (by simpa using hn), if_neg (by simp; omega)]
  omega

/-- a node without a number gets one -/
theorem assign {g : GR} {s : Nat} {q d : List Int} {b : Int} {done : Nat → Prop} (hV : VG g) (hC : Core g s d) {x u : Nat} (hQ : Qu g q d (D d x + 1) done) (hx : x < g.2.length) (hx0 : 0 ≤ D d x) (hu : u < g.2.length) (hun : D d u < 0) (ha : Adj g x u) :
    Core g s (d.set u (D d x + 1)) ∧ Qu g (q ++ [(u : Int)]) (d.set u (D d x + 1)) (D d x + 1) done := by
  have hlen := hC.len
  have hat : ∀ v, D (d.set u (D d x + 1)) v = if v = u then D d x + 1 else D d v := fun v => at_set _ _ _ _ (by omega)
  have hcn := cneg_set (x := D d x + 1) (by omega : u < d.length) hun (by omega)
  refine ⟨⟨by simp [hlen], fun v hv => ?_, fun v hv => ?_, fun v hv => ?_, fun v hv => ?_⟩, ⟨fun y hy => ?_, fun v hv => ?_, ?_, fun v hv h0 hq hd w hw hadj => ?_⟩⟩
  · rw [hat]; split
    · omega
    · exact hC.lo v hv
  · rw [hat]; split
    · rename_i h; subst h
      have := (hC.zero v hv)
      constructor
      · intro; omega
      · intro h; have := this.2 h; omega
    · exact hC.zero v hv
  · rw [hat]; split
    · rename_i h; subst h
      intro _
      refine ⟨x, hx, hV.back hx ha, ?_⟩
      rw [hat, if_neg (by intro h; subst h; omega)]; omega
    · intro h0
      obtain ⟨w, hw, hadj, he⟩ := hC.near v hv h0
      refine ⟨w, hw, hadj, ?_⟩
      rw [hat, if_neg (by intro h; subst h; omega)]; exact he
  · rw [hat]; split
    · have := hC.hi x hx; omega
    · have := hC.hi v hv; omega
  · rcases List.mem_append.1 hy with hy | hy
    · obtain ⟨v, hv, rfl, h0⟩ := hQ.mem y hy
      refine ⟨v, hv, rfl, ?_⟩
      rw [hat]; split <;> omega
    · simp only [List.mem_singleton] at hy
      refine ⟨u, hu, hy, ?_⟩
      rw [hat, if_pos rfl]; omega
  · rw [hat]; split
    · omega
    · exact hQ.top v hv
  · rw [List.pairwise_append]
    have hq : ∀ y ∈ q, at' (d.set u (D d x + 1)) y = at' d y := by
      intro y hy
      obtain ⟨v, hv, rfl, h0⟩ := hQ.mem y hy
      have := hat v
      rw [if_neg (by intro h; subst h; omega)] at this
      exact this
    refine ⟨hQ.sort.imp_of_mem fun {a c} h1 h2 h => ?_, List.pairwise_singleton .., fun y hy z hz => ?_⟩
    · rw [hq a h1, hq c h2]; exact h
    · simp only [List.mem_singleton] at hz
      subst hz
      rw [hq y hy]
      have h2 := hat u
      rw [if_pos rfl] at h2
      obtain ⟨v, hv, rfl, h0⟩ := hQ.mem y hy
      have := hQ.top v hv
      show D d v ≤ D (d.set u (D d x + 1)) u
      omega
  · have hvu : v ≠ u := by
      rintro rfl
      exact hq (by simp)
    rw [hat, if_neg hvu] at h0
    rw [hat v, if_neg hvu]
    have := hQ.done v hv h0 (fun h => hq (List.mem_append_left _ h)) hd w hw hadj
    rw [hat w, if_neg (by rintro rfl; omega)]
    exact this

/-- the ports of node x one after another -/
theorem search_inner {g : GR} (hV : VG g) {s x : Nat} (hx : x < g.2.length) (rest d0 : List Int) (ag : List Int × List Int → Option (List Int)) (r : List Int → Prop)
    (hC : Core g s d0) (hx0 : 0 ≤ D d0 x) (hQ : Qu g rest d0 (D d0 x + 1) (fun v => v ≠ x)) (hm : rest.length + cneg d0 ≤ g.2.length)
    (hag : ∀ q d, Core g s d → D d x = D d0 x → Qu g q d (D d x + 1) (fun _ => True) → q.length + cneg d = rest.length + cneg d0 → (∀ y ∈ q, D d0 x ≤ at' d y) → OK r (ag (q, d)))
    (hge : ∀ y ∈ rest, D d0 x ≤ at' d0 y) :
    OK r (iter (graph_search_s2 g ((x : Int) :: rest, d0) ag) 1000 ((0 : Int), rest, d0)) := by
  have hdeg := (hV.node x hx).deg
  have h24 := hV.n24
  refine iter_ok (fun z : Int × List Int × List Int => ∃ k : Nat, z.1 = k ∧ k ≤ (row g x).length ∧ Core g s z.2.2 ∧ D z.2.2 x = D d0 x ∧ Qu g z.2.1 z.2.2 (D d0 x + 1) (fun v => v ≠ x) ∧ z.2.1.length + cneg z.2.2 = rest.length + cneg d0 ∧ (∀ i, i < k → ∀ u : Nat, (lnk (row g x) i).1 = u → 0 ≤ D z.2.2 u) ∧ (∀ y ∈ z.2.1, D d0 x ≤ at' z.2.2 y)) (fun z => 31 - z.1.toNat) ?_ 1000 _ ⟨0, rfl, by omega, hC, rfl, hQ, rfl, fun i hi => by omega, hge⟩ (by simp)
  rintro ⟨z1, q, d⟩ ag2 ⟨k, hz, hk, hC, hdx, hQ, hm2, hp, hge⟩ hag2
  dsimp only at hz hC hdx hQ hm2 hp hge
  subst hz
  have hlen := hC.len
  have e0 : at' ((x : Int) :: rest) 0 = (x : Int) := rfl
  unfold graph_search_s2 graph_search_k3
  dsimp only
  rw [e0]
  by_cases hlt : k < (row g x).length
  · rw [if_pos (show (k : Int) < ((row g x).length : Int) by omega), ckT (show 0 ≤ (k : Int) ∧ (k : Int) < ((row g x).length : Int) by omega)]
    obtain ⟨u, hu, hue, hadj⟩ := hV.port hx hlt
    rw [show at' (at' g.2 (x : Int)) (k : Int) = lnk (row g x) k from rfl, hue, ckT (by omega)]
    have hhi := hC.hi x hx
    by_cases hneg : at' d (u : Int) < 0
    · have hQ' : Qu g q d (D d x + 1) (fun v => v ≠ x) := by rw [hdx]; exact hQ
      obtain ⟨c1, c2⟩ := assign (b := 0) hV hC hQ' hx (by omega) hu hneg hadj
      have hcn := cneg_set (x := D d x + 1) (by omega : u < d.length) hneg (by omega)
      have hat : ∀ v, D (d.set u (D d x + 1)) v = if v = u then D d x + 1 else D d v := fun v => at_set _ _ _ _ (by omega)
      have hxu : x ≠ u := by rintro rfl; have : D d x < 0 := hneg; omega
      rw [if_pos hneg, ckT (by omega), ckT (by omega), ckT (by simp only [List.length_singleton]; omega), wr (x := (k : Int) + 1) (by omega) (by omega), wr (x := at' d (x : Int) + 1) (by show -9223372036854775808 ≤ D d x + 1; omega) (by show D d x + 1 ≤ _; omega)]
      refine hag2 _ ⟨k + 1, by simp, by omega, c1, ?_, ?_, ?_, ?_, ?_⟩ (by dsimp only; omega)
      · show D (d.set u (D d x + 1)) x = _
        rw [hat, if_neg hxu]; exact hdx
      · rw [← hdx]; exact c2
      · show (q ++ [(u : Int)]).length + cneg (d.set u (D d x + 1)) = _
        simp only [List.length_append, List.length_singleton]
        omega
      · intro i hi w hw
        show 0 ≤ D (d.set u (D d x + 1)) w
        rw [hat]
        split
        · omega
        · by_cases hik : i = k
          · subst hik; omega
          · exact hp i (by omega) w hw
      · intro y hy
        show D d0 x ≤ at' (d.set u (D d x + 1)) y
        rcases List.mem_append.1 hy with hy | hy
        · have h1 := hge y hy
          obtain ⟨v, hv, rfl, h0⟩ := hQ.mem y hy
          have h2 := hat v
          rw [if_neg (by intro h; subst h; have : D d v < 0 := hneg; omega)] at h2
          rw [show at' (d.set u (D d x + 1)) (v : Int) = D d v from h2]
          exact h1
        · simp only [List.mem_singleton] at hy
          subst hy
          rw [show at' (d.set u (D d x + 1)) (u : Int) = D d x + 1 from (hat u).trans (if_pos rfl)]
          omega
    · rw [if_neg hneg, wr (by omega) (by omega)]
      refine hag2 _ ⟨k + 1, by simp, by omega, hC, hdx, hQ, hm2, ?_, hge⟩ (by dsimp only; omega)
      intro i hi w hw
      by_cases hik : i = k
      · subst hik
        have : w = u := by omega
        subst this
        show 0 ≤ at' d (w : Int)
        omega
      · exact hp i (by omega) w hw
  · rw [if_neg (show ¬ (k : Int) < ((row g x).length : Int) by omega)]
    have hke : k = (row g x).length := by omega
    refine hag q d hC hdx ⟨hQ.mem, fun v hv => by rw [hdx]; exact hQ.top v hv, hQ.sort, fun v hv h0 hq _ u hu hadj => ?_⟩ hm2 hge
    by_cases hvx : v = x
    · subst hvx
      obtain ⟨i, hi, hie⟩ := hadj
      exact ⟨hp i (by omega) u hie, by rw [hdx]; exact hQ.top u hu⟩
    · exact hQ.done v hv h0 hq hvx u hu hadj

/-- what the search returns: the numbers are the steps from s -/
structure Dist (g : GR) (s : Nat) (d : List Int) : Prop where
  len : d.length = g.2.length
  lo : ∀ v, v < g.2.length → -1 ≤ D d v
  zero : ∀ v, v < g.2.length → (D d v = 0 ↔ v = s)
  near : ∀ v, v < g.2.length → 0 < D d v → ∃ u, u < g.2.length ∧ Adj g v u ∧ D d u = D d v - 1
  next : ∀ v, v < g.2.length → 0 ≤ D d v → ∀ u, u < g.2.length → Adj g v u → 0 ≤ D d u ∧ D d u ≤ D d v + 1
  hi : ∀ v, v < g.2.length → D d v ≤ (g.2.length : Int)

theorem search_loop {g : GR} (hV : VG g) {s : Nat} (d0 : List Int) (q0 : List Int) (hC : Core g s d0) (hQ : Qu g q0 d0 (match q0 with | [] => 1000 | y :: _ => at' d0 y + 1) (fun _ => True)) (hm : q0.length + cneg d0 ≤ g.2.length) :
    OK (Dist g s) (iter (graph_search_s1 1000 g) 1000 (q0, d0)) := by
  have h24 := hV.n24
  refine iter_ok (fun z : List Int × List Int => Core g s z.2 ∧ Qu g z.1 z.2 (match z.1 with | [] => 1000 | y :: _ => at' z.2 y + 1) (fun _ => True) ∧ z.1.length + cneg z.2 ≤ g.2.length) (fun z => z.1.length + cneg z.2) ?_ 1000 _ ⟨hC, hQ, hm⟩ (by dsimp only; omega)
  rintro ⟨q, d⟩ ag ⟨hC, hQ, hm⟩ hag
  dsimp only at hC hQ hm
  unfold graph_search_s1 graph_search_k2
  dsimp only
  cases q with
  | nil =>
    rw [if_neg (by simp)]
    exact ⟨d, rfl, hC.len, hC.lo, hC.zero, hC.near, fun v hv h0 u hu hadj => hQ.done v hv h0 (by simp) trivial u hu hadj, fun v hv => by have := hC.hi v hv; omega⟩
  | cons y rest =>
    obtain ⟨x, hx, rfl, hx0⟩ := hQ.mem y (List.mem_cons_self ..)
    have e0 : at' ((x : Int) :: rest) 0 = (x : Int) := rfl
    rw [if_pos (by simp only [List.length_cons]; omega), ckT (by simp only [List.length_cons]; omega), ckT (by simp only [List.length_cons]; omega), e0, ckT (by omega)]
    have hs := List.pairwise_cons.1 hQ.sort
    simp only [List.length_cons] at hm
    refine search_inner hV hx rest d ag _ hC hx0 ⟨fun z hz => hQ.mem z (List.mem_cons_of_mem _ hz), hQ.top, hs.2, fun v hv h0 hq hvx u hu hadj => hQ.done v hv h0 (fun h => ?_) trivial u hu hadj⟩ (by omega) (fun q' d' c1 c2 c3 c4 c5 => ?_) hs.1
    · rcases List.mem_cons.1 h with h | h
      · exact hvx (by omega)
      · exact hq h
    · refine hag (q', d') ⟨c1, ⟨c3.mem, fun v hv => ?_, c3.sort, c3.done⟩, by dsimp only; omega⟩ (by simp only [List.length_cons]; omega)
      dsimp only
      have ht := c3.top v hv
      cases q' with
      | nil =>
        dsimp only
        have := c1.hi x hx
        omega
      | cons z zs =>
        dsimp only
        have := c5 z (List.mem_cons_self ..)
        omega

theorem search_ok {g : GR} (hV : VG g) {s : Nat} (hs : s < g.2.length) : OK (Dist g s) (m_graph_search 1000 g (s : Int)) := by
  have h24 := hV.n24
  unfold m_graph_search
  rw [ckT (by omega)]
  refine iter_ok (fun z : Int × List Int => ∃ k : Nat, z.1 = k ∧ k ≤ g.2.length ∧ z.2.length = g.2.length ∧ ∀ v, v < k → D z.2 v = -1) (fun z => 31 - z.1.toNat) ?_ 1000 _ ⟨0, rfl, by omega, by simp, fun v hv => by omega⟩ (by simp)
  rintro ⟨z1, d⟩ ag ⟨k, hz, hk, hlen, hd⟩ hag
  dsimp only at hz hlen hd
  subst hz
  unfold graph_search_s3
  simp only [List.length_replicate, Int.toNat_natCast]
  by_cases hlt : k < g.2.length
  · rw [if_pos (by omega), ckT (by omega), wr (by omega) (by omega)]
    refine hag _ ⟨k + 1, by simp, by omega, by simp [hlen], fun v hv => ?_⟩ (by dsimp only; omega)
    show at' (d.set k (-1)) (v : Int) = -1
    rw [at_set _ _ _ _ (by omega)]
    split
    · rfl
    · exact hd v (by omega)
  · rw [if_neg (by omega)]
    unfold graph_search_k1
    rw [ckT (by omega)]
    have hd' : ∀ v, v < g.2.length → D d v = -1 := fun v hv => hd v (by omega)
    have hat : ∀ v, D (d.set s 0) v = if v = s then 0 else D d v := fun v => at_set _ _ _ _ (by omega)
    have hcn := cneg_set (x := 0) (by omega : s < d.length) (by rw [hd' s hs]; omega) (by omega)
    have hcl : cneg d ≤ d.length := List.countP_le_length ..
    refine search_loop hV _ _ ⟨by simp [hlen], fun v hv => ?_, fun v hv => ?_, fun v hv => ?_, fun v hv => ?_⟩ ⟨fun y hy => ?_, fun v hv => ?_, List.pairwise_singleton .., fun v hv h0 hq => ?_⟩ ?_
    · rw [Int.toNat_natCast, hat]; split
      · omega
      · rw [hd' v hv]; omega
    · rw [Int.toNat_natCast, hat]; split
      · rename_i h; exact ⟨fun _ => h, fun _ => rfl⟩
      · rename_i h; rw [hd' v hv]; exact ⟨fun h2 => by omega, fun h2 => absurd h2 h⟩
    · rw [Int.toNat_natCast, hat]; split
      · omega
      · rw [hd' v hv]; omega
    · rw [Int.toNat_natCast, hat]; split
      · omega
      · rw [hd' v hv]; omega
    · simp only [List.mem_singleton] at hy
      refine ⟨s, hs, hy, ?_⟩
      rw [Int.toNat_natCast, hat, if_pos rfl]; omega
    · rw [Int.toNat_natCast]
      have h2 : at' (d.set s 0) (s : Int) = 0 := (hat s).trans (if_pos rfl)
      show D (d.set s 0) v ≤ at' (d.set s 0) (s : Int) + 1
      rw [h2, hat]; split
      · omega
      · rw [hd' v hv]; omega
    · rw [Int.toNat_natCast, hat, if_neg (by rintro rfl; exact hq (by simp)), hd' v hv] at h0
      omega
    · rw [Int.toNat_natCast]
      simp only [List.length_singleton]
      omega
end Go.Proofs.Ytemhmmcakmidkaa
