/- Models of functions with their proofs, by program (gen/xt.py), and plain laws, in one text. Conditions: none. -/
import Derived.Test.YtemhmmcakmidkaaZFCuBa1
import Derived.Test.YtemhmmcakmidkaaXp
import Derived.KernelRfl
section
set_option linter.unusedVariables false
set_option linter.unusedSimpArgs false
namespace Go.Proofs.Ytemhmmcakmidkaa
set_option linter.unusedVariables false
set_option linter.unusedSimpArgs false
open Go.Sx
abbrev D (d : List Int) (v : Nat) : Int := at' d (v : Int)

/-- node v has a link to u -/
def Adj (g : GR) (v u : Nat) : Prop := ∃ i, i < (row g v).length ∧ (lnk (row g v) i).1 = (u : Int)

theorem VG.port {g : GR} (h : VG g) {v i : Nat} (hv : v < g.2.length) (hi : i < (row g v).length) : ∃ u : Nat, u < g.2.length ∧ (lnk (row g v) i).1 = (u : Int) ∧ Adj g v u := by
  have hu := ((h.node v hv).links i hi).1
  exact ⟨(lnk (row g v) i).1.toNat, by omega, by omega, i, hi, by omega⟩

theorem VG.back {g : GR} (h : VG g) {v u : Nat} (hv : v < g.2.length) (ha : Adj g v u) : Adj g u v := by
  obtain ⟨i, hi, hu⟩ := ha
  obtain ⟨j, hj, hjv, _⟩ := h.sym v hv i hi
  rw [hu] at hj hjv
  exact ⟨j, hj, hjv⟩

theorem VG.adj_lt {g : GR} (h : VG g) {v u : Nat} (hv : v < g.2.length) (ha : Adj g v u) : u < g.2.length := by
  obtain ⟨i, hi, hu⟩ := ha
  have := ((h.node v hv).links i hi).1
  omega

def cneg (d : List Int) : Nat := d.countP fun x => decide (x < 0)

/-- what holds of the numbers at all times of the search from s -/
structure Core (g : GR) (s : Nat) (d : List Int) : Prop where
  len : d.length = g.2.length
  lo : ∀ v, v < g.2.length → -1 ≤ D d v
  zero : ∀ v, v < g.2.length → (D d v = 0 ↔ v = s)
  near : ∀ v, v < g.2.length → 0 < D d v → ∃ u, u < g.2.length ∧ Adj g v u ∧ D d u = D d v - 1
  hi : ∀ v, v < g.2.length → D d v + (cneg d : Int) ≤ (g.2.length : Int)

structure Qu (g : GR) (q d : List Int) (b : Int) (done : Nat → Prop) : Prop where
  mem : ∀ y ∈ q, ∃ v, v < g.2.length ∧ y = ((v : Nat) : Int) ∧ 0 ≤ D d v
  top : ∀ v, v < g.2.length → D d v ≤ b
  sort : q.Pairwise fun a c => at' d a ≤ at' d c
  done : ∀ v, v < g.2.length → 0 ≤ D d v → ((v : Nat) : Int) ∉ q → done v → ∀ u, u < g.2.length → Adj g v u → 0 ≤ D d u ∧ D d u ≤ D d v + 1

theorem D_getElem {d : List Int} {v : Nat} (h : v < d.length) : D d v = d[v] := by
  rw [D, at'_nat, List.getD_eq_getElem?_getD, List.getElem?_eq_getElem h]; rfl

theorem cneg_set {d : List Int} {u : Nat} {x : Int} (hu : u < d.length) (hn : D d u < 0) (hx : 0 ≤ x) : cneg (d.set u x) + 1 = cneg d := by
  unfold cneg
  rw [List.countP_set hu]
  have hp : 0 < d.countP fun x => decide (x < 0) := by
    rw [List.countP_pos_iff]
    exact ⟨d[u], List.getElem_mem hu, by rw [← D_getElem hu]; simpa using hn⟩
  rw [D_getElem hu] at hn
  rw [if_pos (by simpa using hn), if_neg (by simp; omega)]
  omega

/-- a node without a number gets one -/
theorem assign {g : GR} {s : Nat} {q d : List Int} {b : Int} {done : Nat → Prop} (hV : VG g) (hC : Core g s d) {x u : Nat} (hQ : Qu g q d (D d x + 1) done) (hx : x < g.2.length) (hx0 : 0 ≤ D d x) (hu : u < g.2.length) (hun : D d u < 0) (ha : Adj g x u) :
    Core g s (d.set u (D d x + 1)) ∧ Qu g (q ++ [(u : Int)]) (d.set u (D d x + 1)) (D d x + 1) done := by
  have hlen := hC.len
  have hat : ∀ v, D (d.set u (D d x + 1)) v = if v = u then D d x + 1 else D d v := fun v => at_set _ _ _ _ (by omega)
  have hcn := cneg_set (x := D d x + 1) (by omega : u < d.length) hun (by omega)
  refine ⟨⟨by simp [hlen], fun v hv => ?_, fun v hv => ?_, fun v hv => ?_, fun v hv => ?_⟩, ⟨fun y hy => ?_, fun v hv => ?_, ?_, fun v hv h0 hq hd w hw hadj => ?_⟩⟩
  · rw [hat]; split
    · omega
    · exact hC.lo v hv
  · rw [hat]; split
    · rename_i h; subst h
      have := (hC.zero v hv)
      constructor
      · intro; omega
      · intro h; have := this.2 h; omega
    · exact hC.zero v hv
  · rw [hat]; split
    · rename_i h; subst h
      intro _
      refine ⟨x, hx, hV.back hx ha, ?_⟩
      rw [hat, if_neg (by intro h; subst h; omega)]; omega
    · intro h0
      obtain ⟨w, hw, hadj, he⟩ := hC.near v hv h0
      refine ⟨w, hw, hadj, ?_⟩
      rw [hat, if_neg (by intro h; subst h; omega)]; exact he
  · rw [hat]; split
    · have := hC.hi x hx; omega
    · have := hC.hi v hv; omega
  · rcases List.mem_append.1 hy with hy | hy
    · obtain ⟨v, hv, rfl, h0⟩ := hQ.mem y hy
      refine ⟨v, hv, rfl, ?_⟩
      rw [hat]; split <;> omega
    · simp only [List.mem_singleton] at hy
      refine ⟨u, hu, hy, ?_⟩
      rw [hat, if_pos rfl]; omega
  · rw [hat]; split
    · omega
    · exact hQ.top v hv
  · rw [List.pairwise_append]
    have hq : ∀ y ∈ q, at' (d.set u (D d x + 1)) y = at' d y := by
      intro y hy
      obtain ⟨v, hv, rfl, h0⟩ := hQ.mem y hy
      have := hat v
      rw [if_neg (by intro h; subst h; omega)] at this
      exact this
    refine ⟨hQ.sort.imp_of_mem fun {a c} h1 h2 h => ?_, List.pairwise_singleton .., fun y hy z hz => ?_⟩
    · rw [hq a h1, hq c h2]; exact h
    · simp only [List.mem_singleton] at hz
      subst hz
      rw [hq y hy]
      have h2 := hat u
      rw [if_pos rfl] at h2
      obtain ⟨v, hv, rfl, h0⟩ := hQ.mem y hy
      have := hQ.top v hv
      show D d v ≤ D (d.set u (D d x + 1)) u
      omega
  · have hvu : v ≠ u := by
      rintro rfl
      exact hq (by simp)
    rw [hat, if_neg hvu] at h0
    rw [hat v, if_neg hvu]
    have := hQ.done v hv h0 (fun h => hq (List.mem_append_left _ h)) hd w hw hadj
    rw [hat w, if_neg (by rintro rfl; omega)]
    exact this

/-- the ports of node x one after another -/
theorem search_inner {g : GR} (hV : VG g) {s x : Nat} (hx : x < g.2.length) (rest d0 : List Int) (ag : List Int × List Int → Option (List Int)) (r : List Int → Prop)
    (hC : Core g s d0) (hx0 : 0 ≤ D d0 x) (hQ : Qu g rest d0 (D d0 x + 1) (fun v => v ≠ x)) (hm : rest.length + cneg d0 ≤ g.2.length)
    (hag : ∀ q d, Core g s d → D d x = D d0 x → Qu g q d (D d x + 1) (fun _ => True) → q.length + cneg d = rest.length + cneg d0 → (∀ y ∈ q, D d0 x ≤ at' d y) → OK r (ag (q, d)))
    (hge : ∀ y ∈ rest, D d0 x ≤ at' d0 y) :
    OK r (iter (graph_search_s2 g ((x : Int) :: rest, d0) ag) 1000 ((0 : Int), rest, d0)) := by
  have hdeg := (hV.node x hx).deg
  have h24 := hV.n24
  refine iter_ok (fun z : Int × List Int × List Int => ∃ k : Nat, z.1 = k ∧ k ≤ (row g x).length ∧ Core g s z.2.2 ∧ D z.2.2 x = D d0 x ∧ Qu g z.2.1 z.2.2 (D d0 x + 1) (fun v => v ≠ x) ∧ z.2.1.length + cneg z.2.2 = rest.length + cneg d0 ∧ (∀ i, i < k → ∀ u : Nat, (lnk (row g x) i).1 = u → 0 ≤ D z.2.2 u) ∧ (∀ y ∈ z.2.1, D d0 x ≤ at' z.2.2 y)) (fun z => 31 - z.1.toNat) ?_ 1000 _ ⟨0, rfl, by omega, hC, rfl, hQ, rfl, fun i hi => by omega, hge⟩ (by simp)
  rintro ⟨z1, q, d⟩ ag2 ⟨k, hz, hk, hC, hdx, hQ, hm2, hp, hge⟩ hag2
  dsimp only at hz hC hdx hQ hm2 hp hge
  subst hz
  have hlen := hC.len
  have e0 : at' ((x : Int) :: rest) 0 = (x : Int) := rfl
  unfold graph_search_s2 graph_search_k3
  dsimp only
  rw [e0]
  by_cases hlt : k < (row g x).length
  · rw [if_pos (show (k : Int) < ((row g x).length : Int) by omega), ckT (show 0 ≤ (k : Int) ∧ (k : Int) < ((row g x).length : Int) by omega)]
    obtain ⟨u, hu, hue, hadj⟩ := hV.port hx hlt
    rw [show at' (at' g.2 (x : Int)) (k : Int) = lnk (row g x) k from rfl, hue, ckT (by omega)]
    have hhi := hC.hi x hx
    by_cases hneg : at' d (u : Int) < 0
    · have hQ' : Qu g q d (D d x + 1) (fun v => v ≠ x) := by rw [hdx]; exact hQ
      obtain ⟨c1, c2⟩ := assign (b := 0) hV hC hQ' hx (by omega) hu hneg hadj
      have hcn := cneg_set (x := D d x + 1) (by omega : u < d.length) hneg (by omega)
      have hat : ∀ v, D (d.set u (D d x + 1)) v = if v = u then D d x + 1 else D d v := fun v => at_set _ _ _ _ (by omega)
      have hxu : x ≠ u := by rintro rfl; have : D d x < 0 := hneg; omega
      rw [if_pos hneg, ckT (by omega), ckT (by omega), ckT (by simp only [List.length_singleton]; omega), wr (x := (k : Int) + 1) (by omega) (by omega), wr (x := at' d (x : Int) + 1) (by show -9223372036854775808 ≤ D d x + 1; omega) (by show D d x + 1 ≤ _; omega)]
      refine hag2 _ ⟨k + 1, by simp, by omega, c1, ?_, ?_, ?_, ?_, ?_⟩ (by dsimp only; omega)
      · show D (d.set u (D d x + 1)) x = _
        rw [hat, if_neg hxu]; exact hdx
      · rw [← hdx]; exact c2
      · show (q ++ [(u : Int)]).length + cneg (d.set u (D d x + 1)) = _
        simp only [List.length_append, List.length_singleton]
        omega
      · intro i hi w hw
        show 0 ≤ D (d.set u (D d x + 1)) w
        rw [hat]
        split
        · omega
        · by_cases hik : i = k
          · subst hik; omega
          · exact hp i (by omega) w hw
      · intro y hy
        show D d0 x ≤ at' (d.set u (D d x + 1)) y
        rcases List.mem_append.1 hy with hy | hy
        · have h1 := hge y hy
          obtain ⟨v, hv, rfl, h0⟩ := hQ.mem y hy
          have h2 := hat v
          rw [if_neg (by intro h; subst h; have : D d v < 0 := hneg; omega)] at h2
          rw [show at' (d.set u (D d x + 1)) (v : Int) = D d v from h2]
          exact h1
        · simp only [List.mem_singleton] at hy
          subst hy
          rw [show at' (d.set u (D d x + 1)) (u : Int) = D d x + 1 from (hat u).trans (if_pos rfl)]
          omega
    · rw [if_neg hneg, wr (by omega) (by omega)]
      refine hag2 _ ⟨k + 1, by simp, by omega, hC, hdx, hQ, hm2, ?_, hge⟩ (by dsimp only; omega)
      intro i hi w hw
      by_cases hik : i = k
      · subst hik
        have : w = u := by omega
        subst this
        show 0 ≤ at' d (w : Int)
        omega
      · exact hp i (by omega) w hw
  · rw [if_neg (show ¬ (k : Int) < ((row g x).length : Int) by omega)]
    have hke : k = (row g x).length := by omega
    refine hag q d hC hdx ⟨hQ.mem, fun v hv => by rw [hdx]; exact hQ.top v hv, hQ.sort, fun v hv h0 hq _ u hu hadj => ?_⟩ hm2 hge
    by_cases hvx : v = x
    · subst hvx
      obtain ⟨i, hi, hie⟩ := hadj
      exact ⟨hp i (by omega) u hie, by rw [hdx]; exact hQ.top u hu⟩
    · exact hQ.done v hv h0 hq hvx u hu hadj

/-- what the search returns: the numbers are the steps from s -/
structure Dist (g : GR) (s : Nat) (d : List Int) : Prop where
  len : d.length = g.2.length
  lo : ∀ v, v < g.2.length → -1 ≤ D d v
  zero : ∀ v, v < g.2.length → (D d v = 0 ↔ v = s)
  near : ∀ v, v < g.2.length → 0 < D d v → ∃ u, u < g.2.length ∧ Adj g v u ∧ D d u = D d v - 1
  next : ∀ v, v < g.2.length → 0 ≤ D d v → ∀ u, u < g.2.length → Adj g v u → 0 ≤ D d u ∧ D d u ≤ D d v + 1
  hi : ∀ v, v < g.2.length → D d v ≤ (g.2.length : Int)

theorem search_loop {g : GR} (hV : VG g) {s : Nat} (d0 : List Int) (q0 : List Int) (hC : Core g s d0) (hQ : Qu g q0 d0 (match q0 with | [] => 1000 | y :: _ => at' d0 y + 1) (fun _ => True)) (hm : q0.length + cneg d0 ≤ g.2.length) :
    OK (Dist g s) (iter (graph_search_s1 1000 g) 1000 (q0, d0)) := by
  have h24 := hV.n24
  refine iter_ok (fun z : List Int × List Int => Core g s z.2 ∧ Qu g z.1 z.2 (match z.1 with | [] => 1000 | y :: _ => at' z.2 y + 1) (fun _ => True) ∧ z.1.length + cneg z.2 ≤ g.2.length) (fun z => z.1.length + cneg z.2) ?_ 1000 _ ⟨hC, hQ, hm⟩ (by dsimp only; omega)
  rintro ⟨q, d⟩ ag ⟨hC, hQ, hm⟩ hag
  dsimp only at hC hQ hm
  unfold graph_search_s1 graph_search_k2
  dsimp only
  cases q with
  | nil =>
    rw [if_neg (by simp)]
    exact ⟨d, rfl, hC.len, hC.lo, hC.zero, hC.near, fun v hv h0 u hu hadj => hQ.done v hv h0 (by simp) trivial u hu hadj, fun v hv => by have := hC.hi v hv; omega⟩
  | cons y rest =>
    obtain ⟨x, hx, rfl, hx0⟩ := hQ.mem y (List.mem_cons_self ..)
    have e0 : at' ((x : Int) :: rest) 0 = (x : Int) := rfl
    rw [if_pos (by simp only [List.length_cons]; omega), ckT (by simp only [List.length_cons]; omega), ckT (by simp only [List.length_cons]; omega), e0, ckT (by omega)]
    have hs := List.pairwise_cons.1 hQ.sort
    simp only [List.length_cons] at hm
    refine search_inner hV hx rest d ag _ hC hx0 ⟨fun z hz => hQ.mem z (List.mem_cons_of_mem _ hz), hQ.top, hs.2, fun v hv h0 hq hvx u hu hadj => hQ.done v hv h0 (fun h => ?_) trivial u hu hadj⟩ (by omega) (fun q' d' c1 c2 c3 c4 c5 => ?_) hs.1
    · rcases List.mem_cons.1 h with h | h
      · exact hvx (by omega)
      · exact hq h
    · refine hag (q', d') ⟨c1, ⟨c3.mem, fun v hv => ?_, c3.sort, c3.done⟩, by dsimp only; omega⟩ (by simp only [List.length_cons]; omega)
      dsimp only
      have ht := c3.top v hv
      cases q' with
      | nil =>
        dsimp only
        have := c1.hi x hx
        omega
      | cons z zs =>
        dsimp only
        have := c5 z (List.mem_cons_self ..)
        omega

theorem search_ok {g : GR} (hV : VG g) {s : Nat} (hs : s < g.2.length) : OK (Dist g s) (m_graph_search 1000 g (s : Int)) := by
  have h24 := hV.n24
  unfold m_graph_search
  rw [ckT (by omega)]
  refine iter_ok (fun z : Int × List Int => ∃ k : Nat, z.1 = k ∧ k ≤ g.2.length ∧ z.2.length = g.2.length ∧ ∀ v, v < k → D z.2 v = -1) (fun z => 31 - z.1.toNat) ?_ 1000 _ ⟨0, rfl, by omega, by simp, fun v hv => by omega⟩ (by simp)
  rintro ⟨z1, d⟩ ag ⟨k, hz, hk, hlen, hd⟩ hag
  dsimp only at hz hlen hd
  subst hz
  unfold graph_search_s3
  simp only [List.length_replicate, Int.toNat_natCast]
  by_cases hlt : k < g.2.length
  · rw [if_pos (by omega), ckT (by omega), wr (by omega) (by omega)]
    refine hag _ ⟨k + 1, by simp, by omega, by simp [hlen], fun v hv => ?_⟩ (by dsimp only; omega)
    show at' (d.set k (-1)) (v : Int) = -1
    rw [at_set _ _ _ _ (by omega)]
    split
    · rfl
    · exact hd v (by omega)
  · rw [if_neg (by omega)]
    unfold graph_search_k1
    rw [ckT (by omega)]
    have hd' : ∀ v, v < g.2.length → D d v = -1 := fun v hv => hd v (by omega)
    have hat : ∀ v, D (d.set s 0) v = if v = s then 0 else D d v := fun v => at_set _ _ _ _ (by omega)
    have hcn := cneg_set (x := 0) (by omega : s < d.length) (by rw [hd' s hs]; omega) (by omega)
    have hcl : cneg d ≤ d.length := List.countP_le_length ..
    refine search_loop hV _ _ ⟨by simp [hlen], fun v hv => ?_, fun v hv => ?_, fun v hv => ?_, fun v hv => ?_⟩ ⟨fun y hy => ?_, fun v hv => ?_, List.pairwise_singleton .., fun v hv h0 hq => ?_⟩ ?_
    · rw [Int.toNat_natCast, hat]; split
      · omega
      · rw [hd' v hv]; omega
    · rw [Int.toNat_natCast, hat]; split
      · rename_i h; exact ⟨fun _ => h, fun _ => rfl⟩
      · rename_i h; rw [hd' v hv]; exact ⟨fun h2 => by omega, fun h2 => absurd h2 h⟩
    · rw [Int.toNat_natCast, hat]; split
      · omega
      · rw [hd' v hv]; omega
    · rw [Int.toNat_natCast, hat]; split
      · omega
      · rw [hd' v hv]; omega
    · simp only [List.mem_singleton] at hy
      refine ⟨s, hs, hy, ?_⟩
      rw [Int.toNat_natCast, hat, if_pos rfl]; omega
    · rw [Int.toNat_natCast]
      have h2 : at' (d.set s 0) (s : Int) = 0 := (hat s).trans (if_pos rfl)
      show D (d.set s 0) v ≤ at' (d.set s 0) (s : Int) + 1
      rw [h2, hat]; split
      · omega
      · rw [hd' v hv]; omega
    · rw [Int.toNat_natCast, hat, if_neg (by rintro rfl; exact hq (by simp)), hd' v hv] at h0
      omega
    · rw [Int.toNat_natCast]
      simp only [List.length_singleton]
      omega
end Go.Proofs.Ytemhmmcakmidkaa
end
section
set_option linter.unusedVariables false
set_option linter.unusedSimpArgs false
namespace Go.Proofs.Ytemhmmcakmidkaa
open Go.Sx
set_option linter.unusedVariables false
set_option linter.unusedSimpArgs false
def made_Mod_k1  (a3 : Int) : Option (Int) :=
  some (a3)
def m_made_Mod (fuel : Nat) (p0 : Int) (p1 : Int) : Option (Int) :=
  ck (p1 ≠ 0) (if (Int.tmod p0 p1) < (0 : Int) then (made_Mod_k1  (wI .i64 ((Int.tmod p0 p1) + p1))) else (made_Mod_k1  (Int.tmod p0 p1)))

theorem body34 : HasBody Try.prog 34 := Try.call34

set_option maxHeartbeats 4000000 in
set_option maxRecDepth 20000 in
theorem t_made_Mod (fuel : Nat) {p0 : Int} {p1 : Int} (r : Int) (h : m_made_Mod fuel p0 p1 = some r) :
    Meets Try.prog 34 #[Value.int .i64 (p0), Value.int .i64 (p1)] [] (fun x : Unit => Value.int .i64 (r)) (fun x l => l) (fun _ l => l) := by
  refine Meets.of (vs := [Value.int .i64 (p0), Value.int .i64 (p1)]) Try.func34 rfl Try.ntmps34 rfl fun c => ?_
  unfold m_made_Mod at h
  refine J.seq ?_
  refine J.region ?_
  refine J.quiet (Y.assign rfl) rfl ?_
  refine J.done ?_
  refine J.thenN ?_
  refine J.seq ?_
  refine J.region ?_
  refine J.quiet (Y.move rfl) rfl ?_
  refine J.quiet (Y.move rfl) rfl ?_
  replace h := ck_some h; obtain ⟨hc1, h⟩ := h
  refine J.quiet (Y.rem rfl rfl hc1) rfl ?_
  refine J.quiet (Y.assign rfl) rfl ?_
  refine J.done ?_
  refine J.thenN ?_
  refine J.seq ?_
  refine J.midI (A := Int) (B := Unit) (fun a3 => made_Mod_k1  a3 = some r) (fun a3 b4 => [(5, Value.int .i64 (a3))]) (fun a3 b4 => []) (fun a3 b4 => []) ?_ ?_
  · refine J.seq ?_
    refine J.region ?_
    refine J.quiet (Y.move rfl) rfl ?_
    refine J.quiet (Y.lss rfl rfl) rfl ?_
    refine J.done ?_
    refine J.thenN ?_
    refine J.condD (by exact rfl) (fun hp5 => ?_) (fun hp5 => ?_)
    · replace h := ifP hp5 h
      refine J.region ?_
      refine J.quiet (Y.move rfl) rfl ?_
      refine J.quiet (Y.move rfl) rfl ?_
      refine J.quiet (Y.addW rfl rfl) rfl ?_
      refine J.quiet (Y.assign rfl) rfl ?_
      refine J.done ?_
      refine J.thenN ?_
      exact J.meetI (wI .i64 ((Int.tmod p0 p1) + p1)) (()) h (by repeat (first | exact SubF.nil | refine SubF.cons rfl ?_)) (SubM.refl _) (LentAll.refl _ _)
    · replace h := ifN hp5 h
      refine J.skip ?_
      refine J.thenN ?_
      exact J.meetI (Int.tmod p0 p1) (()) h (by repeat (first | exact SubF.nil | refine SubF.cons rfl ?_)) (SubM.refl _) (LentAll.refl _ _)
  · clear h
    intro a3 b4 h
    unfold made_Mod_k1 at h
    refine J.seq ?_
    refine J.region ?_
    refine J.quiet (Y.move rfl) rfl ?_
    refine J.quiet (Y.assign rfl) rfl ?_
    refine J.done ?_
    refine J.thenN ?_
    refine J.ret ?_
    obtain rfl := Option.some.inj h
    exact J.retG1 (()) rfl rfl (RV.tmp rfl) (SubM.refl _) LentAll.nil

end Go.Proofs.Ytemhmmcakmidkaa
end
section
set_option linter.unusedVariables false
set_option linter.unusedSimpArgs false
namespace Go.Proofs.Ytemhmmcakmidkaa
open Go.Sx
set_option linter.unusedVariables false
set_option linter.unusedSimpArgs false
def graph_Distances_k1 (fuel : Nat) (p0 : List (Int) × (List (List (Int × Int)))) (p1 : Int) (a3 : Bool) : Option (List (Int)) :=
  if a3 = true then (some ([] : List Int)) else (Option.bind (m_graph_search fuel ((p0.1, p0.2)) p1) fun r6 => (some (r6)))
def m_graph_Distances (fuel : Nat) (p0 : List (Int) × (List (List (Int × Int)))) (p1 : Int) : Option (List (Int)) :=
  Option.bind (m_graph_Valid fuel ((p0.1, p0.2))) fun r9 => (if (!r9) = true then (graph_Distances_k1 fuel p0 p1 (true)) else (if p1 < (0 : Int) then (graph_Distances_k1 fuel p0 p1 (true)) else (graph_Distances_k1 fuel p0 p1 (decide ((List.length p0.2 : Int) ≤ p1)))))

theorem body35 : HasBody Try.prog 35 := Try.call35

set_option maxHeartbeats 4000000 in
set_option maxRecDepth 20000 in
theorem t_graph_Distances (fuel : Nat) {p0 : List (Int) × (List (List (Int × Int)))} {p1 : Int} (v0 : Value)  (v1 : Value)  (z2 : List (Value × List (Int × Int))) (r : List (Int)) (h : m_graph_Distances fuel p0 p1 = some r) :
    Meets Try.prog 35 #[Value.agg #[v0, v1], Value.int .i64 (p1)] [Sl RI64 v0 p0.1, S2 RI64I64p v1 z2 p0.2] (fun x : Value => x) (fun x l => Ar EI64 x r :: l) (fun _ l => l) := by
  refine Meets.of (vs := [Value.agg #[v0, v1], Value.int .i64 (p1)]) Try.func35 rfl Try.ntmps35 rfl fun c => ?_
  unfold m_graph_Distances at h
  refine J.seq ?_
  refine J.region ?_
  refine J.loud (Loud.box (cs := [v0, v1]) rfl rfl) rfl fun b1 => ?_
  refine J.quiet (Y.assign rfl) rfl ?_
  refine J.done ?_
  refine J.thenN ?_
  refine J.seq ?_
  refine J.seq ?_
  refine J.midI (A := Bool) (B := Unit) (fun a3 => graph_Distances_k1 fuel p0 p1 a3 = some r) (fun a3 b4 => [(1, Value.int .i64 (p1)), (2, Value.pointer (some ⟨b1, 0, none⟩)), (18, Value.bool (a3))]) (fun a3 b4 => [Blk b1 [v0, v1] 26]) (fun a3 b4 => [Sl RI64 v0 p0.1, S2 RI64I64p v1 z2 p0.2]) ?_ ?_
  · refine J.region ?_
    refine J.quiet (Y.loadBAll 0 rfl rfl rfl rfl) rfl ?_
    replace h := bnd h; obtain ⟨r9, hr10, h⟩ := h
    refine J.loud (Loud.callL body64 (t_graph_Valid fuel v0 v1 z2 r9 hr10) rfl (LentAll.cons (Lent.fact 0 rfl) (LentAll.cons (Lent.fact 1 rfl) (LentAll.nil))) (fun _ _ => rfl)) rfl fun x11 => ?_
    refine J.quiet (Y.not rfl) rfl ?_
    refine J.quiet (Y.move rfl) rfl ?_
    refine J.guard (by exact rfl) (by exact rfl) (fun hp12 => ?_) (fun hp12 => ?_)
    · replace h := ifP hp12 h
      refine J.guardN rfl rfl rfl ?_
      refine J.guardN rfl rfl rfl ?_
      refine J.quiet (Y.pickT rfl rfl) rfl ?_
      refine J.quiet (Y.move rfl) rfl ?_
      refine J.guardN rfl rfl rfl ?_
      refine J.guardN rfl rfl rfl ?_
      refine J.guardN rfl rfl rfl ?_
      refine J.guardN rfl rfl rfl ?_
      refine J.guardN rfl rfl rfl ?_
      refine J.quiet (Y.pickT rfl rfl) rfl ?_
      refine J.done ?_
      refine J.thenN ?_
      exact J.meetI (true) (()) h (by repeat (first | exact SubF.nil | refine SubF.cons rfl ?_)) (SubM.refl _) (LentAll.refl _ _)
    · replace h := ifBN hp12 h
      refine J.guardY rfl (Y.move rfl) rfl ?_
      refine J.guardY rfl (Y.lss rfl rfl) rfl ?_
      refine J.quiet (Y.pickF rfl rfl) rfl ?_
      refine J.quiet (Y.move rfl) rfl ?_
      refine J.guardD (by exact rfl) (by exact rfl) (fun hp13 => ?_) (fun hp13 => ?_)
      · replace h := ifP hp13 h
        refine J.guardN rfl rfl rfl ?_
        refine J.guardN rfl rfl rfl ?_
        refine J.guardN rfl rfl rfl ?_
        refine J.guardN rfl rfl rfl ?_
        refine J.guardN rfl rfl rfl ?_
        refine J.quiet (Y.pickT rfl rfl) rfl ?_
        refine J.done ?_
        refine J.thenN ?_
        exact J.meetI (true) (()) h (by repeat (first | exact SubF.nil | refine SubF.cons rfl ?_)) (SubM.refl _) (LentAll.refl _ _)
      · replace h := ifN hp13 h
        refine J.guardY rfl (Y.move rfl) rfl ?_
        refine J.guardY rfl (Y.fieldB rfl rfl rfl rfl rfl) rfl ?_
        refine J.guardY rfl (Y.loadB 0 rfl rfl rfl rfl rfl) rfl ?_
        refine J.guardY rfl (Y.lenN rfl (Lent.fact 1 rfl) rfl) rfl ?_
        refine J.guardY rfl (Y.geq rfl rfl) rfl ?_
        refine J.quiet (Y.pickF rfl rfl) rfl ?_
        refine J.done ?_
        refine J.thenN ?_
        exact J.meetI (decide ((List.length p0.2 : Int) ≤ p1)) (()) h (by repeat (first | exact SubF.nil | refine SubF.cons rfl ?_)) (SubM.refl _) (LentAll.refl _ _)
  · clear h
    intro a3 b4 h
    unfold graph_Distances_k1 at h
    refine J.cond (by exact rfl) (fun hp5 => ?_) (fun hp5 => ?_)
    · replace h := ifP hp5 h
      refine J.seq ?_
      refine J.region ?_
      refine J.quiet (Y.assign rfl) rfl ?_
      refine J.done ?_
      refine J.thenN ?_
      refine J.ret ?_
      refine J.thenR ?_
      refine J.stp (Stp.nilAr EI64) ?_
      obtain rfl := Option.some.inj h
      exact J.retG1 (Value.slice none 0 0) rfl rfl (RV.tmp rfl) (SubM.cons 0 rfl (SubM.nil)) LentAll.nil
    · replace h := ifBN hp5 h
      refine J.skip ?_
      refine J.thenN ?_
      refine J.seq ?_
      refine J.region ?_
      refine J.quiet (Y.loadBAll 0 rfl rfl rfl rfl) rfl ?_
      refine J.quiet (Y.move rfl) rfl ?_
      replace h := bnd h; obtain ⟨r6, hr7, h⟩ := h
      refine J.loud (Loud.callL body81 (t_graph_search fuel v0 v1 z2 r6 hr7) rfl (LentAll.cons (Lent.fact 0 rfl) (LentAll.cons (Lent.fact 1 rfl) (LentAll.nil))) (fun _ _ => rfl)) rfl fun x8 => ?_
      refine J.quiet (Y.assign rfl) rfl ?_
      refine J.done ?_
      refine J.thenN ?_
      refine J.ret ?_
      obtain rfl := Option.some.inj h
      exact J.retG1 (x8) rfl rfl (RV.tmp rfl) (SubM.cons 0 rfl (SubM.nil)) LentAll.nil

end Go.Proofs.Ytemhmmcakmidkaa
end
section
set_option linter.unusedVariables false
set_option linter.unusedSimpArgs false
namespace Go.Proofs.Ytemhmmcakmidkaa
open Go.Sx
theorem mod_ok (p : Int) {n : Nat} (hn : 1 ≤ n) (h24 : n ≤ 24) : OK (fun r : Int => ∃ s : Nat, r = s ∧ s < n) (m_made_Mod 1000 p (n : Int)) := by
  have h1 : Int.tmod p n < n := Int.tmod_lt_of_pos _ (by omega)
  have h2 : -(n : Int) < Int.tmod p n := by
    have := Int.tmod_lt_of_pos (-p) (show (0 : Int) < n by omega)
    rw [Int.neg_tmod] at this
    omega
  unfold m_made_Mod made_Mod_k1
  rw [ckT (by omega)]
  by_cases h : Int.tmod p n < 0
  · rw [if_pos h, wr (by omega) (by omega)]
    exact ⟨_, rfl, (Int.tmod p n + n).toNat, by omega, by omega⟩
  · rw [if_neg h]
    exact ⟨_, rfl, (Int.tmod p n).toNat, by omega, by omega⟩

theorem distances_ok {g : GR} (hV : VG g) {s : Nat} (hs : s < g.2.length) : OK (Dist g s) (m_graph_Distances 1000 g (s : Int)) := by
  unfold m_graph_Distances graph_Distances_k1
  rw [(valid_eq g hV.light).1 hV, bindS rfl, if_neg (by simp), if_neg (by omega), decide_eq_false (by omega), if_neg (by simp)]
  obtain ⟨d, hd, hD⟩ := search_ok hV hs
  rw [hd]
  exact ⟨d, rfl, hD⟩

end Go.Proofs.Ytemhmmcakmidkaa
end
section
set_option linter.unusedVariables false
set_option linter.unusedSimpArgs false
namespace Go.Proofs.Ytemhmmcakmidkaa
open Go.Sx
/-- k steps lead from s to v -/
def Walk (g : GR) (s : Nat) : Nat → Nat → Prop
  | 0, v => v = s ∧ s < g.2.length
  | k + 1, v => ∃ u, Walk g s k u ∧ Adj g u v

theorem Walk.lt {g : GR} (hV : VG g) {s : Nat} : ∀ {k v : Nat}, Walk g s k v → v < g.2.length
  | 0, _, h => by obtain ⟨rfl, h⟩ := h; exact h
  | _ + 1, _, h => by obtain ⟨u, h1, h2⟩ := h; exact hV.adj_lt (Walk.lt hV h1) h2

theorem Walk.trans {g : GR} {s t : Nat} {k : Nat} (h : Walk g s k t) : ∀ {m v : Nat}, Walk g t m v → Walk g s (k + m) v
  | 0, _, h2 => by obtain ⟨rfl, _⟩ := h2; exact h
  | _ + 1, _, h2 => by obtain ⟨u, h3, h4⟩ := h2; exact ⟨u, Walk.trans h h3, h4⟩

theorem Walk.rev {g : GR} (hV : VG g) {s : Nat} : ∀ {k v : Nat}, Walk g s k v → Walk g v k s
  | 0, _, h => by obtain ⟨rfl, h⟩ := h; exact ⟨rfl, h⟩
  | k + 1, v, h => by
    obtain ⟨u, h1, h2⟩ := h
    have hu := Walk.lt hV h1
    have h3 : Walk g v 1 u := ⟨v, ⟨rfl, hV.adj_lt hu h2⟩, hV.back hu h2⟩
    have := Walk.trans h3 (Walk.rev hV h1)
    rwa [Nat.add_comm] at this

theorem Dist.le {g : GR} (hV : VG g) {s : Nat} {d : List Int} (h : Dist g s d) : ∀ {k v : Nat}, Walk g s k v → 0 ≤ D d v ∧ D d v ≤ k
  | 0, v, hw => by
    obtain ⟨rfl, hs⟩ := hw
    have := (h.zero v hs).2 rfl
    omega
  | k + 1, v, hw => by
    obtain ⟨u, h1, h2⟩ := hw
    have hu := Walk.lt hV h1
    have h3 := Dist.le hV h h1
    have h4 := h.next u hu h3.1 v (hV.adj_lt hu h2) h2
    omega

theorem Dist.walk {g : GR} (hV : VG g) {s : Nat} {d : List Int} (h : Dist g s d) : ∀ (k v : Nat), v < g.2.length → D d v = k → Walk g s k v
  | 0, v, hv, he => by
    have := (h.zero v hv).1 he
    exact ⟨this, by omega⟩
  | k + 1, v, hv, he => by
    obtain ⟨u, hu, hadj, hd⟩ := h.near v hv (by omega)
    exact ⟨u, Dist.walk hV h k u hu (by omega), hV.back hv hadj⟩

theorem Dist.pos {g : GR} (hV : VG g) {s : Nat} {d : List Int} (h : Dist g s d) {v : Nat} (hv : v < g.2.length) (h0 : 0 ≤ D d v) : Walk g s (D d v).toNat v :=
  Dist.walk hV h _ v hv (by omega)

/-- distances are symmetric -/
theorem Dist.symm {g : GR} (hV : VG g) {s t : Nat} {d e : List Int} (h : Dist g s d) (h2 : Dist g t e) (hs : s < g.2.length) (ht : t < g.2.length) : D d t = D e s := by
  have h3 := h.lo t ht
  have h4 := h2.lo s hs
  by_cases a : 0 ≤ D d t
  · have w1 := Dist.le hV h2 (Walk.rev hV (Dist.pos hV h ht a))
    have w2 := Dist.le hV h (Walk.rev hV (Dist.pos hV h2 hs w1.1))
    omega
  · by_cases b : 0 ≤ D e s
    · have w2 := Dist.le hV h (Walk.rev hV (Dist.pos hV h2 hs b))
      omega
    · omega

end Go.Proofs.Ytemhmmcakmidkaa
end
section
set_option linter.unusedVariables false
set_option linter.unusedSimpArgs false
namespace Go.Proofs.Ytemhmmcakmidkaa
open Go.Sx
/-- r is the eccentricity of s -/
def Ecc (g : GR) (s : Nat) (r : Int) : Prop := ∃ d, m_graph_search 1000 g (s : Int) = some d ∧ Dist g s d ∧ (∀ v, v < g.2.length → D d v ≤ r) ∧ ∃ v, v < g.2.length ∧ D d v = r

theorem Ecc.pos {g : GR} {s : Nat} {r : Int} (hs : s < g.2.length) (h : Ecc g s r) : 0 ≤ r ∧ r ≤ (g.2.length : Int) := by
  obtain ⟨d, h1, h2, h3, v, hv, hr⟩ := h
  have := h3 s hs
  have := (h2.zero s hs).2 rfl
  have := h2.hi v hv
  omega

end Go.Proofs.Ytemhmmcakmidkaa
end
section
set_option linter.unusedVariables false
set_option linter.unusedSimpArgs false
namespace Go.Proofs.Ytemhmmcakmidkaa
open Go.Sx
set_option linter.unusedVariables false
set_option linter.unusedSimpArgs false
def graph_PortTo_k1  (a2 : Unit) : Option (Int) :=
  some (-1 : Int)
def graph_PortTo_s1 (p0 : List (Int) × (List (List (Int × Int)))) (p1 : Int) (p2 : Int) (a7 : Int) (ag6 : (Int) → Option (Int)) : Option (Int) :=
  if a7 < (List.length (at' p0.2 p1) : Int) then (ck (0 ≤ a7 ∧ a7 < (List.length (at' p0.2 p1) : Int)) (if ((at' (at' p0.2 p1) a7).1) = p2 then (some (a7)) else (ag6 (wI .i64 (a7 + (1 : Int)))))) else (graph_PortTo_k1  (()))
def m_graph_PortTo (fuel : Nat) (p0 : List (Int) × (List (List (Int × Int)))) (p1 : Int) (p2 : Int) : Option (Int) :=
  ck (0 ≤ p1 ∧ p1 < (List.length p0.2 : Int)) (iter (graph_PortTo_s1 p0 p1 p2) fuel (0 : Int))

theorem body83 : HasBody Try.prog 83 := Try.call83

set_option maxHeartbeats 4000000 in
set_option maxRecDepth 20000 in
theorem t_graph_PortTo (fuel : Nat) {p0 : List (Int) × (List (List (Int × Int)))} {p1 : Int} {p2 : Int} (v0 : Value)  (v1 : Value)  (z2 : List (Value × List (Int × Int))) (r : Int) (h : m_graph_PortTo fuel p0 p1 p2 = some r) :
    Meets Try.prog 83 #[Value.agg #[v0, v1], Value.int .i64 (p1), Value.int .i64 (p2)] [Sl RI64 v0 p0.1, S2 RI64I64p v1 z2 p0.2] (fun x : Unit => Value.int .i64 (r)) (fun x l => l) (fun _ l => l) := by
  refine Meets.of (vs := [Value.agg #[v0, v1], Value.int .i64 (p1), Value.int .i64 (p2)]) Try.func83 rfl Try.ntmps83 rfl fun c => ?_
  unfold m_graph_PortTo at h
  refine J.seq ?_
  refine J.region ?_
  refine J.loud (Loud.box (cs := [v0, v1]) rfl rfl) rfl fun b1 => ?_
  refine J.quiet (Y.assign rfl) rfl ?_
  refine J.done ?_
  refine J.thenN ?_
  refine J.seq ?_
  refine J.midI (A := Unit) (B := Unit) (fun a2 => graph_PortTo_k1  a2 = some r) (fun a2 b3 => []) (fun a2 b3 => []) (fun a2 b3 => [Sl RI64 v0 p0.1, S2 RI64I64p v1 z2 p0.2]) ?_ ?_
  · refine J.seq ?_
    refine J.region ?_
    refine J.quiet (Y.fieldB rfl rfl rfl rfl rfl) rfl ?_
    refine J.quiet (Y.loadB 0 rfl rfl rfl rfl rfl) rfl ?_
    refine J.quiet (Y.move rfl) rfl ?_
    replace h := ck_some h; obtain ⟨hc4, h⟩ := h
    refine J.quiet (Y.indexN rfl rfl (Lent.fact 1 rfl) rfl rfl hc4) rfl ?_
    refine J.quiet (Y.loadRow rfl (Lent.fact 1 rfl) rfl rfl hc4) rfl ?_
    refine J.quiet (Y.lenS rfl (Lent.el (Lent.fact 1 rfl) hc4.1 hc4.2) rfl) rfl ?_
    refine J.quiet (Y.move rfl) rfl ?_
    refine J.done ?_
    refine J.thenN ?_
    refine J.block ?_
    refine J.loopI (A := Int) (B := Unit) (graph_PortTo_s1 p0 p1 p2) (fun a7 b8 => [(2, Value.int .i64 (p2)), (13, (at' z2 p1).1), (14, Value.int .i64 (List.length (at' p0.2 p1) : Int)), (15, Value.int .i64 (a7))]) (fun a7 b8 => []) (fun a7 b8 => [Sl RI64 v0 p0.1, S2 RI64I64p v1 z2 p0.2]) (0 : Int) (()) h (by repeat (first | exact SubF.nil | refine SubF.cons rfl ?_)) (SubM.nil) (LentAll.refl _ _) ?_
    clear h
    intro k9 a7 b8 h
    unfold graph_PortTo_s1 at h
    refine J.seq ?_
    refine J.region ?_
    refine J.quiet (Y.lss rfl rfl) rfl ?_
    refine J.done ?_
    refine J.thenN ?_
    refine J.seq ?_
    refine J.condD (by exact rfl) (fun hp10 => ?_) (fun hp10 => ?_)
    · replace h := ifP hp10 h
      refine J.skip ?_
      refine J.thenN ?_
      refine J.seq ?_
      refine J.block ?_
      refine J.seq ?_
      refine J.region ?_
      refine J.quiet (Y.move rfl) rfl ?_
      replace h := ck_some h; obtain ⟨hc11, h⟩ := h
      refine J.quiet (Y.indexS rfl rfl (Lent.el (Lent.fact 1 rfl) hc4.1 hc4.2) rfl rfl hc11) rfl ?_
      refine J.quiet (Y.loadAggS (cs := [Value.int .i64 ((at' (at' p0.2 p1) a7).1), Value.int .i64 ((at' (at' p0.2 p1) a7).2)]) rfl (Lent.el (Lent.fact 1 rfl) hc4.1 hc4.2) FI64I64p rfl rfl rfl rfl hc11) rfl ?_
      refine J.loud (Loud.alloc (cs := [Value.int .i64 (0 : Int), Value.int .i64 (0 : Int)]) rfl rfl) rfl fun b12 => ?_
      refine J.quiet (Y.assign rfl) rfl ?_
      refine J.storeAll 0 (vs := [Value.int .i64 ((at' (at' p0.2 p1) a7).1), Value.int .i64 ((at' (at' p0.2 p1) a7).2)]) rfl rfl rfl rfl rfl rfl ?_
      refine J.done ?_
      refine J.thenN ?_
      refine J.seq ?_
      refine J.region ?_
      refine J.quiet (Y.fieldB rfl rfl rfl rfl rfl) rfl ?_
      refine J.quiet (Y.loadB 0 rfl rfl rfl rfl rfl) rfl ?_
      refine J.quiet (Y.move rfl) rfl ?_
      refine J.quiet (Y.eql rfl rfl) rfl ?_
      refine J.done ?_
      refine J.thenN ?_
      refine J.condD (by exact rfl) (fun hp13 => ?_) (fun hp13 => ?_)
      · replace h := ifP hp13 h
        refine J.seq ?_
        refine J.region ?_
        refine J.quiet (Y.move rfl) rfl ?_
        refine J.quiet (Y.assign rfl) rfl ?_
        refine J.done ?_
        refine J.thenN ?_
        refine J.ret ?_
        refine J.inR ?_
        refine J.thenR ?_
        refine J.thenR ?_
        refine J.inR ?_
        refine J.thenR ?_
        obtain rfl := Option.some.inj h
        exact J.retG1 (()) rfl rfl (RV.tmp rfl) (SubM.nil) LentAll.nil
      · replace h := ifN hp13 h
        refine J.skip ?_
        refine J.inN ?_
        refine J.thenN ?_
        refine J.region ?_
        refine J.quiet (Y.addW rfl rfl) rfl ?_
        refine J.quiet (Y.move rfl) rfl ?_
        refine J.done ?_
        refine J.thenN ?_
        exact J.againI (wI .i64 (a7 + (1 : Int))) (()) h (by repeat (first | exact SubF.nil | refine SubF.cons rfl ?_)) (SubM.nil) (LentAll.refl _ _)
    · replace h := ifN hp10 h
      refine J.exit ?_
      refine J.thenX ?_
      refine J.thenX ?_
      refine J.inX ?_
      refine J.thenN ?_
      exact J.meetI (()) (()) h (by repeat (first | exact SubF.nil | refine SubF.cons rfl ?_)) (SubM.refl _) (LentAll.refl _ _)
  · clear h
    intro a2 b3 h
    unfold graph_PortTo_k1 at h
    refine J.seq ?_
    refine J.region ?_
    refine J.quiet (Y.assign rfl) rfl ?_
    refine J.done ?_
    refine J.thenN ?_
    refine J.ret ?_
    obtain rfl := Option.some.inj h
    exact J.retG1 (()) rfl rfl (RV.tmp rfl) (SubM.refl _) LentAll.nil

end Go.Proofs.Ytemhmmcakmidkaa
end
section
set_option linter.unusedVariables false
set_option linter.unusedSimpArgs false
namespace Go.Proofs.Ytemhmmcakmidkaa
open Go.Sx
theorem portTo_eq (g : GR) (v : Nat) (u : Int) (hv : v < g.2.length) (hl : (row g v).length ≤ 30) : m_graph_PortTo 1000 g v u = some (portOf (row g v) u) := by
  unfold m_graph_PortTo
  rw [ckT (by omega)]
  rcases portOf_cases (row g v) u with ⟨i, hi, hu, hf, he⟩ | ⟨hf, he⟩
  · rw [he]
    refine iter_eq (fun x : Int => ∃ k : Nat, x = k ∧ k ≤ i) (fun x => 31 - x.toNat) ?_ 1000 _ ⟨0, rfl, by omega⟩ (by omega)
    rintro x ag ⟨k, rfl, hk⟩ hag
    unfold graph_PortTo_s1
    rw [if_pos (show (k : Int) < ((row g v).length : Int) by omega), ckT (show 0 ≤ (k : Int) ∧ (k : Int) < ((row g v).length : Int) by omega)]
    by_cases e : k = i
    · subst e; exact if_pos hu
    · rw [if_neg (hf k (by omega)), wr (by omega) (by omega)]
      exact hag _ ⟨k + 1, by omega, by omega⟩ (by omega)
  · rw [he]
    refine iter_eq (fun x : Int => ∃ k : Nat, x = k ∧ k ≤ (row g v).length) (fun x => 31 - x.toNat) ?_ 1000 _ ⟨0, rfl, by omega⟩ (by omega)
    rintro x ag ⟨k, rfl, hk⟩ hag
    unfold graph_PortTo_s1
    by_cases e : k < (row g v).length
    · rw [if_pos (show (k : Int) < ((row g v).length : Int) by omega), ckT (show 0 ≤ (k : Int) ∧ (k : Int) < ((row g v).length : Int) by omega), if_neg (hf k e), wr (by omega) (by omega)]
      exact hag _ ⟨k + 1, by omega, by omega⟩ (by omega)
    · rw [if_neg (show ¬ (k : Int) < ((row g v).length : Int) by omega)]; rfl

end Go.Proofs.Ytemhmmcakmidkaa
end
section
set_option linter.unusedVariables false
set_option linter.unusedSimpArgs false
namespace Go.Proofs.Ytemhmmcakmidkaa
open Go.Sx
theorem iota_len (n : Nat) : (iota n).length = n := by simp [iota]
end Go.Proofs.Ytemhmmcakmidkaa
end
section
set_option linter.unusedVariables false
set_option linter.unusedSimpArgs false
namespace Go.Proofs.Ytemhmmcakmidkaa
open Go.Sx
def PermAt (p : List Int) (n k : Nat) : Prop := (0 ≤ at' p (k : Int) ∧ at' p (k : Int) ≤ (n : Int) - 1) ∧ ∀ j, j < k → at' p (j : Int) ≠ at' p (k : Int)
def IsPerm (p : List Int) (n : Nat) : Prop := p.length = n ∧ ∀ k, k < n → PermAt p n k

/-! ## what is made -/
/-- the new number of a node -/
def pm (p : List Int) (v : Nat) : Nat := (at' p (v : Int)).toNat

theorem IsPerm.pm {p : List Int} {n : Nat} (h : IsPerm p n) {v : Nat} (hv : v < n) : at' p (v : Int) = (pm p v : Int) ∧ Go.Proofs.Ytemhmmcakmidkaa.pm p v < n := by
  have := (h.2 v hv).1
  unfold Go.Proofs.Ytemhmmcakmidkaa.pm
  omega
theorem IsPerm.inj {p : List Int} {n : Nat} (h : IsPerm p n) {v u : Nat} (hv : v < n) (hu : u < n) (e : Go.Proofs.Ytemhmmcakmidkaa.pm p v = Go.Proofs.Ytemhmmcakmidkaa.pm p u) : v = u := by
  have h1 := (h.pm hv).1
  have h2 := (h.pm hu).1
  rcases Nat.lt_trichotomy v u with hlt | hlt | hlt
  · exact absurd (by rw [h1, h2, e]) ((h.2 u hu).2 v hlt)
  · exact hlt
  · exact absurd (by rw [h1, h2, e]) ((h.2 v hv).2 u hlt)

/-- links whose nodes are renumbered -/
def mp (p : List Int) (l : List (Int × Int)) : List (Int × Int) := l.map fun x => (at' p x.1, x.2)

structure Rel (g : GR) (p : List Int) (h : GR) : Prop where
  len1 : h.1.length = g.2.length
  len2 : h.2.length = g.2.length
  ids : ∀ v, v < g.2.length → idOf h (pm p v) = idOf g v
  row : ∀ v, v < g.2.length → Go.Proofs.Ytemhmmcakmidkaa.row h (pm p v) = mp p (Go.Proofs.Ytemhmmcakmidkaa.row g v)

theorem mp_len (p : List Int) (l : List (Int × Int)) : (mp p l).length = l.length := by simp [mp]
theorem mp_at (p : List Int) (l : List (Int × Int)) {i : Nat} (h : i < l.length) : lnk (mp p l) i = (at' p (lnk l i).1, (lnk l i).2) := by
  rw [lnk, lnk, mp, at'_nat, at'_nat, List.getD_eq_getElem?_getD, List.getD_eq_getElem?_getD, List.getElem?_map, List.getElem?_eq_getElem h]; rfl
theorem set_same {α : Type} [Inhabited α] {l : List α} {i : Nat} (h : i < l.length) : l.set i (at' l (i : Int)) = l := by
  rw [at'_nat, List.getD_eq_getElem?_getD, List.getElem?_eq_getElem h]
  exact List.set_getElem_self h

/-- the state of the loop over the nodes -/
structure RInv (g : GR) (p : List Int) (v : Nat) (ids : List Int) (ps : List (List (Int × Int))) : Prop where
  l1 : ids.length = g.2.length
  l2 : ps.length = g.2.length
  d1 : ∀ k, k < v → at' ids ((pm p k : Nat) : Int) = idOf g k
  d2 : ∀ k, k < v → at' ps ((pm p k : Nat) : Int) = mp p (row g k)
  d3 : ∀ k, v ≤ k → k < g.2.length → at' ps ((pm p k : Nat) : Int) = []

theorem RInv.next {g : GR} {p : List Int} (hp : IsPerm p g.2.length) {v : Nat} (hv : v < g.2.length) {ids : List Int} {ps : List (List (Int × Int))} (h : RInv g p v ids ps) : RInv g p (v + 1) (ids.set (pm p v) (idOf g v)) (ps.set (pm p v) (mp p (row g v))) := by
  have hpv := (hp.pm hv).2
  have h1 := h.l1
  have h2 := h.l2
  refine ⟨by simpa using h1, by simpa using h2, fun k hk => ?_, fun k hk => ?_, fun k hk hn => ?_⟩
  · rw [at_set _ _ _ _ (by omega)]
    by_cases e : k = v
    · subst e; rw [if_pos rfl]
    · rw [if_neg (fun e2 => e (hp.inj (by omega) hv e2))]; exact h.d1 k (by omega)
  · rw [at_set _ _ _ _ (by omega)]
    by_cases e : k = v
    · subst e; rw [if_pos rfl]
    · rw [if_neg (fun e2 => e (hp.inj (by omega) hv e2))]; exact h.d2 k (by omega)
  · rw [at_set _ _ _ _ (by omega), if_neg (fun e2 => by have := hp.inj (by omega) hv e2; omega)]; exact h.d3 k (by omega) hn

theorem RInv.start {g : GR} {p : List Int} (hp : IsPerm p g.2.length) : RInv g p 0 (iota g.2.length) (List.replicate g.2.length []) := by
  refine ⟨iota_len _, by simp, fun k hk => by omega, fun k hk => by omega, fun k _ hk => ?_⟩
  rw [at'_nat, List.getD_eq_getElem?_getD, List.getElem?_replicate, if_pos (hp.pm hk).2]; rfl

theorem RInv.done {g : GR} {p : List Int} {ids : List Int} {ps : List (List (Int × Int))} (h : RInv g p g.2.length ids ps) : Rel g p (ids, ps) :=
  ⟨h.l1, h.l2, fun v hv => h.d1 v hv, fun v hv => h.d2 v hv⟩

/-! ## every number is a new number -/
theorem gr_ext {a b : GR} (h1 : a.1.length = b.1.length) (h2 : a.2.length = b.2.length) (e1 : ∀ v, v < a.1.length → idOf a v = idOf b v) (e2 : ∀ v, v < a.2.length → row a v = row b v) : a = b := by
  have x1 : a.1 = b.1 := List.ext_getElem h1 fun i hi hi' => by
    have := e1 i hi
    rw [idOf, idOf, at'_nat, at'_nat, List.getD_eq_getElem?_getD, List.getD_eq_getElem?_getD, List.getElem?_eq_getElem hi, List.getElem?_eq_getElem hi'] at this
    exact this
  have x2 : a.2 = b.2 := List.ext_getElem h2 fun i hi hi' => by
    have := e2 i hi
    rw [row, row, at'_nat, at'_nat, List.getD_eq_getElem?_getD, List.getD_eq_getElem?_getD, List.getElem?_eq_getElem hi, List.getElem?_eq_getElem hi'] at this
    exact this
  exact Prod.ext x1 x2

theorem Rel.link {g h : GR} {p : List Int} (hV : VG g) (hp : IsPerm p g.2.length) (r : Rel g p h) {v i : Nat} (hv : v < g.2.length) (hi : i < (Go.Proofs.Ytemhmmcakmidkaa.row g v).length) :
    ∃ u : Nat, u < g.2.length ∧ (lnk (Go.Proofs.Ytemhmmcakmidkaa.row g v) i).1 = (u : Int) ∧ lnk (Go.Proofs.Ytemhmmcakmidkaa.row h (pm p v)) i = ((pm p u : Int), (lnk (Go.Proofs.Ytemhmmcakmidkaa.row g v) i).2) := by
  obtain ⟨u, hu, he, _⟩ := hV.port hv hi
  refine ⟨u, hu, he, ?_⟩
  rw [r.row v hv, mp_at p _ hi, he, (hp.pm hu).1]

theorem Rel.adj {g h : GR} {p : List Int} (hV : VG g) (hp : IsPerm p g.2.length) (r : Rel g p h) {v u : Nat} (hv : v < g.2.length) (hu : u < g.2.length) : Adj h (pm p v) (pm p u) ↔ Adj g v u := by
  constructor
  · rintro ⟨i, hi, he⟩
    rw [r.row v hv, mp_len] at hi
    obtain ⟨w, hw, e1, e2⟩ := r.link hV hp hv hi
    rw [e2] at he
    have : w = u := hp.inj hw hu (by dsimp only at he; omega)
    subst this
    exact ⟨i, hi, e1⟩
  · rintro ⟨i, hi, he⟩
    obtain ⟨w, hw, e1, e2⟩ := r.link hV hp hv hi
    have : w = u := by
      have : (w : Int) = u := e1.symm.trans he
      omega
    subst this
    exact ⟨i, by rw [r.row v hv, mp_len]; exact hi, by rw [e2]⟩
end Go.Proofs.Ytemhmmcakmidkaa
end
section
set_option linter.unusedVariables false
set_option linter.unusedSimpArgs false
namespace Go.Proofs.Ytemhmmcakmidkaa
open Go.Sx
abbrev GG := List Int × List (List (Int × Int))

theorem awakeK : m_law03_awake 1000 = some true := by kernel_rfl
end Go.Proofs.Ytemhmmcakmidkaa
end
section
set_option linter.unusedVariables false
set_option linter.unusedSimpArgs false
namespace Go.Proofs.Ytemhmmcakmidkaa
open Go.Sx
set_option linter.unusedVariables false
/-- a graph of a size that a loop of the laws can go through -/
def small (g : GG) : Prop := g.1.length ≤ 900 ∧ g.2.length ≤ 900 ∧ ∀ l ∈ g.2, l.length ≤ 900

theorem at_mem {α : Type} [Inhabited α] (l : List α) (i : Int) (h0 : 0 ≤ i) (h1 : i < l.length) : at' l i ∈ l := List.mem_of_getElem? (at'_some h0 h1)

theorem same_refl (g : GG) (h : small g) : m_ref01_Same 1000 g g = some true := by
  obtain ⟨h1, h2, h3⟩ := h
  unfold m_ref01_Same ref01_Same_k1
  rw [if_neg (by simp), if_neg (by simp)]
  refine iter_eq (fun i : Int => 0 ≤ i ∧ i ≤ g.1.length) (fun i : Int => g.1.length - i.toNat) ?_ 1000 _ (by omega) (by omega)
  rintro i ag ⟨i0, i1⟩ hag
  unfold ref01_Same_s3
  by_cases hi : i < g.1.length
  · rw [if_pos hi, ckT ⟨i0, hi⟩, ckT ⟨i0, hi⟩, if_neg (by simp), wr (by omega) (by omega)]
    exact hag _ (by omega) (by omega)
  · rw [if_neg hi]
    unfold ref01_Same_k2
    refine iter_eq (fun i : Int => 0 ≤ i ∧ i ≤ g.2.length) (fun i : Int => g.2.length - i.toNat) ?_ 1000 _ (by omega) (by omega)
    rintro v ag ⟨v0, v1⟩ hag
    unfold ref01_Same_s1
    by_cases hv : v < g.2.length
    · have hrow := h3 _ (at_mem g.2 v v0 hv)
      rw [if_pos hv, ckT ⟨v0, hv⟩, ckT ⟨v0, hv⟩, if_neg (by simp)]
      refine iter_eq (fun i : Int => 0 ≤ i ∧ i ≤ (at' g.2 v).length) (fun i : Int => (at' g.2 v).length - i.toNat) ?_ 1000 _ (by omega) (by omega)
      rintro i ag2 ⟨i0, i1⟩ hag2
      unfold ref01_Same_s2
      rw [ckT ⟨v0, hv⟩]
      by_cases hi : i < (at' g.2 v).length
      · rw [if_pos hi, ckT ⟨v0, hv⟩, ckT ⟨i0, hi⟩, ckT ⟨v0, hv⟩, ckT ⟨i0, hi⟩, if_neg (by simp), wr (by omega) (by omega)]
        exact hag2 _ (by omega) (by omega)
      · rw [if_neg hi]
        unfold ref01_Same_k4
        rw [wr (by omega) (by omega)]
        exact hag _ (by omega) (by omega)
    · rw [if_neg hv]; rfl

/-! ## Complete graphs -/
/-! ## Grids -/
end Go.Proofs.Ytemhmmcakmidkaa
end
section
set_option linter.unusedVariables false
set_option linter.unusedSimpArgs false
namespace Go.Proofs.Ytemhmmcakmidkaa
open Go.Sx
theorem VG.small {g : GR} (h : VG g) : small g := by
  have h24 := h.n24
  refine ⟨by have := h.len; omega, by omega, fun l hl => ?_⟩
  obtain ⟨v, hv, he⟩ := List.getElem_of_mem hl
  have hd := (h.node v hv).deg
  rw [row, at'_nat, List.getD_eq_getElem?_getD, List.getElem?_eq_getElem hv] at hd
  rw [← he]
  simp only [Option.getD_some] at hd
  omega

theorem Rel.walk {g h : GR} {p : List Int} (hV : VG g) (hp : IsPerm p g.2.length) (r : Rel g p h) {s : Nat} : ∀ (k v : Nat), Walk g s k v → Walk h (pm p s) k (pm p v)
  | 0, v, hw => by
    obtain ⟨rfl, hs⟩ := hw
    exact ⟨rfl, by rw [r.len2]; exact (hp.pm hs).2⟩
  | k + 1, v, hw => by
    obtain ⟨u, h1, h2⟩ := hw
    have hu := Walk.lt hV h1
    exact ⟨pm p u, Rel.walk hV hp r k u h1, (r.adj hV hp hu (hV.adj_lt hu h2)).2 h2⟩

/-- the inverse of a permutation -/
def IsInv (p q : List Int) (n : Nat) : Prop := q.length = n ∧ ∀ v, v < n → at' q ((pm p v : Nat) : Int) = (v : Int)

theorem Rel.back {g h k : GR} {p q : List Int} (hV : VG g) (hp : IsPerm p g.2.length) (hq : IsInv p q g.2.length) (r : Rel g p h) (r2 : Rel h q k) : k = g := by
  have l2 := r.len2
  have key : ∀ v, v < g.2.length → pm q (pm p v) = v := fun v hv => by
    have := hq.2 v hv
    show (at' q ((pm p v : Nat) : Int)).toNat = v
    omega
  refine gr_ext (by rw [r2.len1, l2, hV.len]) (by rw [r2.len2, l2]) (fun v hv => ?_) (fun v hv => ?_)
  · rw [r2.len1, l2] at hv
    have := r2.ids (pm p v) (by rw [l2]; exact (hp.pm hv).2)
    rw [key v hv, r.ids v hv] at this
    exact this
  · rw [r2.len2, l2] at hv
    have := r2.row (pm p v) (by rw [l2]; exact (hp.pm hv).2)
    rw [key v hv, r.row v hv] at this
    rw [this]
    unfold mp
    rw [List.map_map]
    refine List.ext_getElem (by simp) fun i hi hi' => ?_
    rw [List.getElem_map]
    have hl : lnk (Go.Proofs.Ytemhmmcakmidkaa.row g v) i = (Go.Proofs.Ytemhmmcakmidkaa.row g v)[i] := by rw [lnk, at'_nat, List.getD_eq_getElem?_getD, List.getElem?_eq_getElem hi']; rfl
    obtain ⟨u, hu, e1, _⟩ := hV.port hv hi'
    rw [hl] at e1
    show (at' q (at' p (Go.Proofs.Ytemhmmcakmidkaa.row g v)[i].1), (Go.Proofs.Ytemhmmcakmidkaa.row g v)[i].2) = _
    rw [e1, (hp.pm hu).1, hq.2 u hu]
    exact Prod.ext e1.symm rfl

end Go.Proofs.Ytemhmmcakmidkaa
end
section
set_option linter.unusedVariables false
set_option linter.unusedSimpArgs false
namespace Go.Proofs.Ytemhmmcakmidkaa
open Go.Sx
set_option linter.unusedVariables false
set_option linter.unusedSimpArgs false
def m_slices_Clone (fuel : Nat) (p0 : List (Int)) : Option (List (Int)) :=
  ck ((List.length ([] : List Int) : Int) + (List.length p0 : Int) ≤ 1099511627) (some (([] : List Int) ++ p0))

theorem body88 : HasBody Try.prog 88 := Try.call88

set_option maxHeartbeats 4000000 in
set_option maxRecDepth 20000 in
theorem t_slices_Clone (fuel : Nat) {p0 : List (Int)} (v0 : Value) (r : List (Int)) (h : m_slices_Clone fuel p0 = some r) :
    Meets Try.prog 88 #[v0] [Sl RI64 v0 p0] (fun x : Value => x) (fun x l => Ar EI64 x r :: l) (fun _ l => l) := by
  refine Meets.of (vs := [v0]) Try.func88 rfl Try.ntmps88 rfl fun c => ?_
  unfold m_slices_Clone at h
  refine J.seq ?_
  refine J.region ?_
  refine J.quiet (Y.assign rfl) rfl ?_
  refine J.done ?_
  refine J.thenN ?_
  refine J.seq ?_
  refine J.seq ?_
  refine J.region ?_
  refine J.quiet (Y.move rfl) rfl ?_
  refine J.nilCase (Lent.fact 0 rfl) (fun hn1 hx2 => ?_) (fun hn1 => ?_)
  · replace h : (some ([] : List Int)) = some r := by simpa [ck, hx2] using h
    refine J.quiet (Y.eqNil rfl (Lent.fact 0 rfl) hn1 rfl) rfl ?_
    refine J.done ?_
    refine J.thenN ?_
    refine J.condT rfl ?_
    refine J.seq ?_
    refine J.region ?_
    refine J.quiet (Y.assign rfl) rfl ?_
    refine J.done ?_
    refine J.thenN ?_
    refine J.ret ?_
    refine J.thenR ?_
    refine J.stp (Stp.nilAr EI64) ?_
    obtain rfl := Option.some.inj h
    exact J.retG1 (Value.slice none 0 0) rfl rfl (RV.tmp rfl) (SubM.refl _) LentAll.nil
  · refine J.quiet (Y.eqNil rfl (Lent.fact 0 rfl) hn1 rfl) rfl ?_
    refine J.done ?_
    refine J.thenN ?_
    refine J.condF rfl ?_
    refine J.skip ?_
    refine J.thenN ?_
    refine J.seq ?_
    refine J.region ?_
    refine J.loud (Loud.buildS (e := EI64) ([] : List Int) [] rfl rfl rfl rfl ((fun i h => by simp at h; subst h; rfl)) rfl rfl rfl) rfl fun u3 => ?_
    refine J.quiet (Y.move rfl) rfl ?_
    replace h := ck_some h; obtain ⟨hc5, h⟩ := h
    refine J.loud (Loud.appendL 0 FI64 rfl rfl rfl (Lent.fact 0 rfl) rfl rfl rfl rfl hc5 rfl) rfl fun u4 => ?_
    refine J.quiet (Y.assign rfl) rfl ?_
    refine J.done ?_
    refine J.thenN ?_
    refine J.ret ?_
    obtain rfl := Option.some.inj h
    exact J.retG1 (u4) rfl rfl (RV.tmp rfl) (SubM.refl _) LentAll.nil

end Go.Proofs.Ytemhmmcakmidkaa
end
section
set_option linter.unusedVariables false
set_option linter.unusedSimpArgs false
namespace Go.Proofs.Ytemhmmcakmidkaa
open Go.Sx
set_option linter.unusedVariables false
set_option linter.unusedSimpArgs false
def family_copied_k1  (a5 : (List (List (Int × Int)))) : Option ((List (List (Int × Int)))) :=
  some (a5)
def family_copied_s1 (p0 : List (List (Int × Int))) (a11 : Int × (List (List (Int × Int)))) (ag10 : (Int × (List (List (Int × Int)))) → Option ((List (List (Int × Int))))) : Option ((List (List (Int × Int)))) :=
  if a11.1 < (List.length p0 : Int) then (ck (0 ≤ a11.1 ∧ a11.1 < (List.length p0 : Int)) (ck ((List.length ([] : List (Int × Int)) : Int) + (List.length (at' p0 a11.1) : Int) ≤ 1099511627) (ck (0 ≤ a11.1 ∧ a11.1 < (List.length a11.2 : Int)) (ag10 ((wI .i64 (a11.1 + (1 : Int))), (List.set a11.2 (Int.toNat a11.1) (([] : List (Int × Int)) ++ (at' p0 a11.1)))))))) else (family_copied_k1  (a11.2))
def m_family_copied (fuel : Nat) (p0 : List (List (Int × Int))) : Option ((List (List (Int × Int)))) :=
  ck (0 ≤ (List.length p0 : Int) ∧ (List.length p0 : Int) ≤ 1099511627) (iter (family_copied_s1 p0) fuel ((0 : Int), (List.replicate (Int.toNat (List.length p0 : Int)) ([] : List (Int × Int)))))

theorem body89 : HasBody Try.prog 89 := Try.call89

set_option maxHeartbeats 4000000 in
set_option maxRecDepth 20000 in
theorem t_family_copied (fuel : Nat) {p0 : List (List (Int × Int))} (v0 : Value)  (z1 : List (Value × List (Int × Int))) (r : (List (List (Int × Int)))) (h : m_family_copied fuel p0 = some r) :
    Meets Try.prog 89 #[v0] [S2 RI64I64p v0 z1 p0] (fun x : Value × List Value => x.1) (fun x l => Ar Enc.raw x.1 x.2 :: Rws EI64I64p x.2 r :: l) (fun _ l => l) := by
  refine Meets.of (vs := [v0]) Try.func89 rfl Try.ntmps89 rfl fun c => ?_
  unfold m_family_copied at h
  refine J.seq ?_
  refine J.region ?_
  refine J.quiet (Y.assign rfl) rfl ?_
  refine J.done ?_
  refine J.thenN ?_
  refine J.seq ?_
  refine J.region ?_
  refine J.quiet (Y.move rfl) rfl ?_
  refine J.quiet (Y.lenN rfl (Lent.fact 0 rfl) rfl) rfl ?_
  replace h := ck_some h; obtain ⟨hc1, h⟩ := h
  refine J.stp (Stp.rowsNew EI64I64p (Int.toNat (List.length p0 : Int))) ?_
  refine J.loud (Loud.makeS (e := Enc.raw) (Value.slice none 0 0) rfl rfl rfl rfl hc1 rfl rfl rfl) rfl fun u2 => ?_
  refine J.quiet (Y.assign rfl) rfl ?_
  refine J.done ?_
  refine J.thenN ?_
  refine J.seq ?_
  refine J.midI (A := (List (List (Int × Int)))) (B := List Value) (fun a5 => family_copied_k1  a5 = some r) (fun a5 b6 => [(3, u2)]) (fun a5 b6 => [Ar Enc.raw u2 b6, Rws EI64I64p b6 a5]) (fun a5 b6 => [S2 RI64I64p v0 z1 p0]) ?_ ?_
  · refine J.seq ?_
    refine J.region ?_
    refine J.quiet (Y.move rfl) rfl ?_
    refine J.quiet (Y.lenN rfl (Lent.fact 0 rfl) rfl) rfl ?_
    refine J.quiet (Y.move rfl) rfl ?_
    refine J.done ?_
    refine J.thenN ?_
    refine J.block ?_
    refine J.loopI (A := Int × (List (List (Int × Int)))) (B := List Value) (family_copied_s1 p0) (fun a11 b12 => [(3, u2), (9, v0), (10, Value.int .i64 (List.length p0 : Int)), (11, Value.int .i64 (a11.1))]) (fun a11 b12 => [Ar Enc.raw u2 b12, Rws EI64I64p b12 a11.2]) (fun a11 b12 => [S2 RI64I64p v0 z1 p0]) ((0 : Int), (List.replicate (Int.toNat (List.length p0 : Int)) ([] : List (Int × Int)))) (List.replicate (Int.toNat (List.length p0 : Int)) (Value.slice none 0 0)) h (by repeat (first | exact SubF.nil | refine SubF.cons rfl ?_)) (SubM.refl _) (LentAll.refl _ _) ?_
    clear h
    intro k13 a11 b12 h
    unfold family_copied_s1 at h
    refine J.seq ?_
    refine J.region ?_
    refine J.quiet (Y.lss rfl rfl) rfl ?_
    refine J.done ?_
    refine J.thenN ?_
    refine J.seq ?_
    refine J.condD (by exact rfl) (fun hp14 => ?_) (fun hp14 => ?_)
    · replace h := ifP hp14 h
      refine J.skip ?_
      refine J.thenN ?_
      refine J.seq ?_
      refine J.block ?_
      refine J.seq ?_
      refine J.region ?_
      refine J.quiet (Y.move rfl) rfl ?_
      replace h := ck_some h; obtain ⟨hc15, h⟩ := h
      refine J.quiet (Y.indexN rfl rfl (Lent.fact 0 rfl) rfl rfl hc15) rfl ?_
      refine J.quiet (Y.loadRow rfl (Lent.fact 0 rfl) rfl rfl hc15) rfl ?_
      refine J.quiet (Y.assign rfl) rfl ?_
      refine J.quiet (Y.assign rfl) rfl ?_
      refine J.done ?_
      refine J.thenN ?_
      refine J.region ?_
      refine J.quiet (Y.move rfl) rfl ?_
      refine J.quiet (Y.move rfl) rfl ?_
      refine J.quiet (Y.move rfl) rfl ?_
      refine J.stp (Stp.nilAr EI64I64p) ?_
      replace h := ck_some h; obtain ⟨hc17, h⟩ := h
      refine J.loud (Loud.appendL 0 FI64I64p rfl rfl rfl (Lent.el (Lent.fact 0 rfl) hc15.1 hc15.2) rfl rfl rfl rfl hc17 rfl) rfl fun u16 => ?_
      replace h := ck_some h; obtain ⟨hc18, h⟩ := h
      refine J.quiet (Y.indexN rfl rfl (Lent.rows (i := 1) (j := 2) rfl rfl FI64I64p) rfl rfl hc18) rfl ?_
      refine J.know (Know.one ((Lent.ar (Lent.res 0 rfl) FI64I64p))) fun ho19 => ?_
      refine J.stp (Stp.putRow (k := a11.1) 2 0 rfl rfl rfl hc18) ?_
      refine J.storeRow 0 1 ⟨hc18.1, by simpa using hc18.2⟩ rfl rfl rfl rfl rfl (by simp) ho19 rfl ?_
      refine J.done ?_
      refine J.inN ?_
      refine J.thenN ?_
      refine J.region ?_
      refine J.quiet (Y.addW rfl rfl) rfl ?_
      refine J.quiet (Y.move rfl) rfl ?_
      refine J.done ?_
      refine J.thenN ?_
      exact J.againI ((wI .i64 (a11.1 + (1 : Int))), (List.set a11.2 (Int.toNat a11.1) (([] : List (Int × Int)) ++ (at' p0 a11.1)))) (List.set b12 (Int.toNat a11.1) u16) h (by repeat (first | exact SubF.nil | refine SubF.cons rfl ?_)) (SubM.refl _) (LentAll.refl _ _)
    · replace h := ifN hp14 h
      refine J.exit ?_
      refine J.thenX ?_
      refine J.thenX ?_
      refine J.inX ?_
      refine J.thenN ?_
      exact J.meetI (a11.2) (b12) h (by repeat (first | exact SubF.nil | refine SubF.cons rfl ?_)) (SubM.refl _) (LentAll.refl _ _)
  · clear h
    intro a5 b6 h
    unfold family_copied_k1 at h
    refine J.seq ?_
    refine J.region ?_
    refine J.quiet (Y.move rfl) rfl ?_
    refine J.quiet (Y.assign rfl) rfl ?_
    refine J.done ?_
    refine J.thenN ?_
    refine J.ret ?_
    obtain rfl := Option.some.inj h
    exact J.retG1 (u2, b6) rfl rfl (RV.tmp rfl) (SubM.refl _) LentAll.nil

end Go.Proofs.Ytemhmmcakmidkaa
end
section
set_option linter.unusedVariables false
set_option linter.unusedSimpArgs false
namespace Go.Proofs.Ytemhmmcakmidkaa
open Go.Sx
set_option linter.unusedVariables false
set_option linter.unusedSimpArgs false
def ref03_Copy_k1 (p0 : List (Int) × (List (List (Int × Int)))) (a11 : (List (List (Int × Int)))) : Option ((List (Int) × (List (List (Int × Int))))) :=
  some (((([] : List Int) ++ p0.1), a11))
def ref03_Copy_s1 (p0 : List (Int) × (List (List (Int × Int)))) (a20 : Int × (List (List (Int × Int)))) (ag19 : (Int × (List (List (Int × Int)))) → Option ((List (Int) × (List (List (Int × Int)))))) : Option ((List (Int) × (List (List (Int × Int))))) :=
  if a20.1 < (List.length p0.2 : Int) then (ck (0 ≤ a20.1 ∧ a20.1 < (List.length p0.2 : Int)) (ck ((List.length ([] : List (Int × Int)) : Int) + (List.length (at' p0.2 a20.1) : Int) ≤ 1099511627) (ck ((List.length a20.2 : Int) + (List.length ([ (([] : List (Int × Int)) ++ (at' p0.2 a20.1))]) : Int) ≤ 1099511627) (ag19 ((wI .i64 (a20.1 + (1 : Int))), (a20.2 ++ ([ (([] : List (Int × Int)) ++ (at' p0.2 a20.1))]))))))) else (ref03_Copy_k1 p0 (a20.2))
def m_ref03_Copy (fuel : Nat) (p0 : List (Int) × (List (List (Int × Int)))) : Option ((List (Int) × (List (List (Int × Int))))) :=
  ck ((List.length ([] : List Int) : Int) + (List.length p0.1 : Int) ≤ 1099511627) (iter (ref03_Copy_s1 p0) fuel ((0 : Int), ([] : List (List (Int × Int)))))

theorem body90 : HasBody Try.prog 90 := Try.call90

set_option maxHeartbeats 4000000 in
set_option maxRecDepth 20000 in
theorem t_ref03_Copy (fuel : Nat) {p0 : List (Int) × (List (List (Int × Int)))} (v0 : Value)  (v1 : Value)  (z2 : List (Value × List (Int × Int))) (r : (List (Int) × (List (List (Int × Int))))) (h : m_ref03_Copy fuel p0 = some r) :
    Meets Try.prog 90 #[Value.agg #[v0, v1]] [Sl RI64 v0 p0.1, S2 RI64I64p v1 z2 p0.2] (fun x : Value × Value × List Value => Value.agg #[x.1, x.2.1]) (fun x l => Ar EI64 x.1 r.1 :: Ar Enc.raw x.2.1 x.2.2 :: Rws EI64I64p x.2.2 r.2 :: l) (fun _ l => l) := by
  refine Meets.of (vs := [Value.agg #[v0, v1]]) Try.func90 rfl Try.ntmps90 rfl fun c => ?_
  unfold m_ref03_Copy at h
  refine J.seq ?_
  refine J.region ?_
  refine J.loud (Loud.box (cs := [v0, v1]) rfl rfl) rfl fun b1 => ?_
  refine J.loud (Loud.alloc (cs := [Value.slice none 0 0, Value.slice none 0 0]) rfl rfl) rfl fun b2 => ?_
  refine J.done ?_
  refine J.thenN ?_
  refine J.seq ?_
  refine J.region ?_
  refine J.quiet (Y.fieldB rfl rfl rfl rfl rfl) rfl ?_
  refine J.quiet (Y.loadB 1 rfl rfl rfl rfl rfl) rfl ?_
  refine J.stp (Stp.nilAr EI64) ?_
  replace h := ck_some h; obtain ⟨hc4, h⟩ := h
  refine J.loud (Loud.appendL 0 FI64 rfl rfl rfl (Lent.fact 0 rfl) rfl rfl rfl rfl hc4 rfl) rfl fun u3 => ?_
  refine J.know (Know.one ((Lent.ar (Lent.res 0 rfl) FI64))) fun ho5 => ?_
  refine J.quiet (Y.bld1 (r := Value.agg #[u3, Value.slice none 0 0]) rfl (by intro w; simp [Instr.build, Instr.fill, cells_intV, cells_boolV, cells_sliceV, cells_ptrV, cells_strV, cells_funcV, cells_agg, one_cells ho5])) rfl ?_
  refine J.loud (Loud.alloc (cs := [Value.slice none 0 0, Value.slice none 0 0]) rfl rfl) rfl fun b6 => ?_
  refine J.know (Know.one ((Lent.ar (Lent.res 1 rfl) FI64))) fun ho7 => ?_
  refine J.storeAll 0 (vs := [u3, Value.slice none 0 0]) rfl rfl (all1 ho7 (all1 rfl rfl)) rfl rfl rfl ?_
  refine J.done ?_
  refine J.thenN ?_
  refine J.seq ?_
  refine J.midI (A := (List (List (Int × Int)))) (B := Value × List Value) (fun a11 => ref03_Copy_k1 p0 a11 = some r) (fun a11 b12 => [(2, Value.pointer (some ⟨b2, 0, none⟩)), (3, Value.pointer (some ⟨b6, 0, none⟩))]) (fun a11 b12 => [Blk b6 [u3, b12.1] 26, Ar EI64 u3 (([] : List Int) ++ p0.1), Blk b2 [Value.slice none 0 0, Value.slice none 0 0] 26, Ar Enc.raw b12.1 b12.2, Rws EI64I64p b12.2 a11]) (fun a11 b12 => [Sl RI64 v0 p0.1, S2 RI64I64p v1 z2 p0.2]) ?_ ?_
  · refine J.seq ?_
    refine J.region ?_
    refine J.quiet (Y.assign rfl) rfl ?_
    refine J.done ?_
    refine J.thenN ?_
    refine J.block ?_
    refine J.stp (Stp.nilAr Enc.raw) (J.stp (Stp.rowsNil EI64I64p) ?_)
    refine J.loopI (A := Int × (List (List (Int × Int)))) (B := Value × List Value) (ref03_Copy_s1 p0) (fun a20 b21 => [(1, Value.pointer (some ⟨b1, 0, none⟩)), (2, Value.pointer (some ⟨b2, 0, none⟩)), (3, Value.pointer (some ⟨b6, 0, none⟩)), (4, Value.int .i64 (a20.1))]) (fun a20 b21 => [Blk b6 [u3, b21.1] 26, Ar EI64 u3 (([] : List Int) ++ p0.1), Blk b2 [Value.slice none 0 0, Value.slice none 0 0] 26, Blk b1 [v0, v1] 26, Ar Enc.raw b21.1 b21.2, Rws EI64I64p b21.2 a20.2]) (fun a20 b21 => [Sl RI64 v0 p0.1, S2 RI64I64p v1 z2 p0.2]) ((0 : Int), ([] : List (List (Int × Int)))) ((Value.slice none 0 0), ([] : List Value)) h (by repeat (first | exact SubF.nil | refine SubF.cons rfl ?_)) (SubM.cons 2 rfl (SubM.cons 2 rfl (SubM.cons 2 rfl (SubM.cons 2 rfl (SubM.cons 1 rfl (SubM.cons 0 rfl (SubM.nil))))))) (LentAll.refl _ _) ?_
    clear h
    intro k22 a20 b21 h
    unfold ref03_Copy_s1 at h
    refine J.seq ?_
    refine J.seq ?_
    refine J.region ?_
    refine J.quiet (Y.move rfl) rfl ?_
    refine J.quiet (Y.fieldB rfl rfl rfl rfl rfl) rfl ?_
    refine J.quiet (Y.loadB 3 rfl rfl rfl rfl rfl) rfl ?_
    refine J.quiet (Y.lenN rfl (Lent.fact 1 rfl) rfl) rfl ?_
    refine J.quiet (Y.lss rfl rfl) rfl ?_
    refine J.done ?_
    refine J.thenN ?_
    refine J.condD (by exact rfl) (fun hp23 => ?_) (fun hp23 => ?_)
    · replace h := ifP hp23 h
      refine J.skip ?_
      refine J.thenN ?_
      refine J.seq ?_
      refine J.block ?_
      refine JR.start [0, 1, 0, 4, 0, 28, 60, 124, 252, 511, 1023, 2047] 9 mixedOrders (by decide +kernel) ?_
      refine JR.open (by exact rfl) ?_
      refine JR.qt rfl (SubM.nil) (SubL.nil) (Y.fieldB rfl rfl rfl rfl rfl) HistOk.z ?_
      refine JR.qt rfl (SubM.cons 0 rfl (SubM.nil)) (SubL.nil) (Y.loadB 0 rfl rfl rfl rfl rfl) HistOk.z ?_
      refine JR.qt rfl (SubM.nil) (SubL.nil) (Y.fieldB rfl rfl rfl rfl rfl) HistOk.z ?_
      refine JR.qt rfl (SubM.cons 3 rfl (SubM.nil)) (SubL.nil) (Y.loadB 0 rfl rfl rfl rfl rfl) HistOk.z ?_
      refine JR.qt rfl (SubM.nil) (SubL.nil) (Y.move rfl) HistOk.z ?_
      replace h := ck_some h; obtain ⟨hc24, h⟩ := h
      refine JR.qt rfl (SubM.nil) (SubL.cons (List.mem_of_getElem? (i := 1) rfl) (SubL.nil)) (Y.indexN rfl rfl (Lent.fact 0 rfl) rfl rfl hc24) HistOk.z ?_
      refine JR.qt rfl (SubM.nil) (SubL.cons (List.mem_of_getElem? (i := 1) rfl) (SubL.nil)) (Y.loadRow rfl (Lent.fact 0 rfl) rfl rfl hc24) HistOk.z ?_
      refine JR.stp (Stp.nilAr EI64I64p) ?_
      replace h := ck_some h; obtain ⟨hc26, h⟩ := h
      refine JR.loud rfl rfl rfl (Loud.appendL 0 FI64I64p rfl rfl rfl (Lent.el (Lent.fact 1 rfl) hc24.1 hc24.2) rfl rfl rfl rfl hc26 rfl) rfl (fun u25 => (BsOk.b rfl (BsOk.b rfl (BsOk.b rfl (BsOk.b rfl (BsOk.b rfl (BsOk.h (SubM.cons 1 rfl (SubM.nil)) (SubL.nil) (BsOk.h (SubM.nil) (SubL.nil) BsOk.z)))))))) fun u25 => ?_
      refine JR.stp (Stp.rowsNil EI64I64p) ?_
      refine JR.know (Know.one ((Lent.ar (Lent.res 1 rfl) FI64I64p))) fun ho27 => ?_
      refine JR.stp (Stp.addRow 0 1 rfl rfl rfl) ?_
      refine JR.loud rfl rfl rfl (Loud.buildS (e := Enc.raw) [u25] [(0, u25)] rfl rfl rfl rfl (fill_1_1 (u25) ho27) rfl rfl (by simp [cellsOf, Enc.raw, ho27])) rfl (fun u28 => (BsOk.b rfl (BsOk.b rfl (BsOk.b rfl (BsOk.b rfl (BsOk.b rfl (BsOk.h (SubM.cons 2 rfl (SubM.nil)) (SubL.nil) (BsOk.h (SubM.nil) (SubL.nil) BsOk.z)))))))) fun u28 => ?_
      refine JR.tailD 9 rfl rfl ?_
      refine J.know (Know.rws 7 rfl) fun hl29 => J.know (Know.rws 1 rfl) fun hl30 => ?_
      replace h := ck_some h; obtain ⟨hc31, h⟩ := h
      refine J.stp (Stp.catRows 7 1 rfl rfl rfl) ?_
      refine J.loud (Loud.append 5 0 rfl rfl rfl rfl rfl rfl rfl (by have q := hc31; have q1 := hl29; have q2 := hl30; (try simp only [List.length_cons, List.length_nil] at q q1 q2 ⊢); omega) (by have q := hc31; have q1 := hl29; have q2 := hl30; (try simp only [List.length_cons, List.length_nil] at q q1 q2 ⊢); omega) rfl) rfl fun u32 => ?_
      refine J.quiet (Y.fieldB rfl rfl rfl rfl rfl) rfl ?_
      refine J.know (Know.one (Lent.sl (Lent.rows (i := 5) (j := 6) rfl rfl FI64I64p))) fun ho33 => ?_
      refine J.store1 1 rfl rfl ho33 rfl rfl rfl ?_
      refine J.done ?_
      refine J.inN ?_
      refine J.thenN ?_
      refine J.region ?_
      refine J.quiet (Y.move rfl) rfl ?_
      refine J.quiet (Y.addW rfl rfl) rfl ?_
      refine J.quiet (Y.assign rfl) rfl ?_
      refine J.done ?_
      refine J.thenN ?_
      exact J.againI ((wI .i64 (a20.1 + (1 : Int))), (a20.2 ++ ([ (([] : List (Int × Int)) ++ (at' p0.2 a20.1))]))) (u32, (b21.2 ++ [u25])) h (by repeat (first | exact SubF.nil | refine SubF.cons rfl ?_)) (SubM.cons 1 rfl (SubM.cons 1 rfl (SubM.cons 1 rfl (SubM.cons 1 rfl (SubM.cons 1 rfl (SubM.cons 1 rfl (SubM.nil))))))) (LentAll.refl _ _)
    · replace h := ifN hp23 h
      refine J.exit ?_
      refine J.thenX ?_
      refine J.thenX ?_
      refine J.inX ?_
      refine J.thenN ?_
      exact J.meetI (a20.2) (b21.1, b21.2) h (by repeat (first | exact SubF.nil | refine SubF.cons rfl ?_)) (SubM.cons 0 rfl (SubM.cons 0 rfl (SubM.cons 0 rfl (SubM.cons 1 rfl (SubM.cons 1 rfl (SubM.nil)))))) (LentAll.refl _ _)
  · clear h
    intro a11 b12 h
    unfold ref03_Copy_k1 at h
    refine J.seq ?_
    refine J.region ?_
    refine J.quiet (Y.loadBAll 0 rfl rfl rfl rfl) rfl ?_
    refine J.know (Know.one ((Lent.ar (Lent.res 1 rfl) FI64))) fun ho13 => ?_
    refine J.know (Know.one (Lent.sl (Lent.rows (i := 3) (j := 4) rfl rfl FI64I64p))) fun ho14 => ?_
    refine J.storeAll 2 (vs := [u3, b12.1]) rfl rfl (all1 ho13 (all1 ho14 rfl)) rfl rfl rfl ?_
    refine J.done ?_
    refine J.thenN ?_
    refine J.ret ?_
    obtain rfl := Option.some.inj h
    exact J.retG1 (u3, b12.1, b12.2) rfl rfl (RV.cell 2 rfl rfl rfl rfl) (SubM.cons 1 rfl (SubM.cons 2 rfl (SubM.cons 2 rfl (SubM.nil)))) LentAll.nil

end Go.Proofs.Ytemhmmcakmidkaa
end
section
set_option linter.unusedVariables false
set_option linter.unusedSimpArgs false
namespace Go.Proofs.Ytemhmmcakmidkaa
open Go.Sx
theorem take_snoc {α : Type} [Inhabited α] (l : List α) {k : Nat} (h : k < l.length) : l.take (k + 1) = l.take k ++ [at' l (k : Int)] := by
  rw [List.take_add_one, List.getElem?_eq_getElem h, at'_nat, List.getD_eq_getElem?_getD, List.getElem?_eq_getElem h]
  rfl

theorem clone_eq (l : List Int) (h : l.length ≤ 900) : m_slices_Clone 1000 l = some l := by
  unfold m_slices_Clone
  rw [ckT (by simp; omega)]
  rfl

theorem copied_eq (ps : List (List (Int × Int))) (h : ps.length ≤ 900) (hr : ∀ v, v < ps.length → (at' ps (v : Int)).length ≤ 900) : m_family_copied 1000 ps = some ps := by
  unfold m_family_copied
  rw [ckT (by omega), Int.toNat_natCast]
  refine iter_eq (fun z : Int × List (List (Int × Int)) => ∃ k : Nat, z.1 = k ∧ k ≤ ps.length ∧ z.2 = ps.take k ++ List.replicate (ps.length - k) []) (fun z => ps.length - z.1.toNat) ?_ 1000 _ ⟨0, rfl, by omega, by simp⟩ (by simp; omega)
  rintro ⟨x, l⟩ ag ⟨k, hx, hk, hl⟩ hag
  dsimp only at hx hl hag
  subst hx hl
  unfold family_copied_s1
  dsimp only
  by_cases hn : k < ps.length
  · have := hr k hn
    rw [if_pos (by omega), ckT (by omega), ckT (by simp; omega), ckT (by simp; omega), wr (by omega) (by omega), Int.toNat_natCast]
    refine hag _ ⟨k + 1, by dsimp only; omega, by omega, ?_⟩ (by dsimp only; omega)
    dsimp only
    rw [take_snoc ps hn, show ps.length - k = (ps.length - (k + 1)) + 1 by omega, List.replicate_succ, set_at _ _ _ _ _ (by simp; omega)]
    simp
  · rw [if_neg (by omega)]
    obtain rfl : k = ps.length := by omega
    unfold family_copied_k1
    simp

end Go.Proofs.Ytemhmmcakmidkaa
end
section
set_option linter.unusedVariables false
set_option linter.unusedSimpArgs false
namespace Go.Proofs.Ytemhmmcakmidkaa
open Go.Sx
set_option linter.unusedVariables false
set_option linter.unusedSimpArgs false
def family_ends_k1 (p1 : Int) (p2 : Int) (a4 : Bool) : Option (((Int × Int) × (Int × Int)) × Bool) :=
  if a4 = true then (some ((((((0 : Int), (0 : Int))), (((0 : Int), (0 : Int))))), false)) else (some (((((p1, p2)), ((p2, p1)))), true))
def m_family_ends (fuel : Nat) (p0 : List (Int) × (List (List (Int × Int)))) (p1 : Int) (p2 : Int) : Option (((Int × Int) × (Int × Int)) × Bool) :=
  if p1 < (0 : Int) then (family_ends_k1 p1 p2 (true)) else (if (List.length p0.1 : Int) ≤ p1 then (family_ends_k1 p1 p2 (true)) else (if p2 < (0 : Int) then (family_ends_k1 p1 p2 (true)) else (if (List.length p0.1 : Int) ≤ p2 then (family_ends_k1 p1 p2 (true)) else (family_ends_k1 p1 p2 (decide (p1 = p2))))))

theorem body94 : HasBody Try.prog 94 := Try.call94

set_option maxHeartbeats 4000000 in
set_option maxRecDepth 20000 in
theorem t_family_ends (fuel : Nat) {p0 : List (Int) × (List (List (Int × Int)))} {p1 : Int} {p2 : Int} (v0 : Value)  (v1 : Value)  (z2 : List (Value × List (Int × Int))) (r : ((Int × Int) × (Int × Int)) × Bool) (h : m_family_ends fuel p0 p1 p2 = some r) :
    Meets Try.prog 94 #[Value.agg #[v0, v1], Value.int .i64 (p1), Value.int .i64 (p2)] [Sl RI64 v0 p0.1, S2 RI64I64p v1 z2 p0.2] (fun x : Unit => Value.tuple #[Value.agg #[Value.int .i64 (r.1.1.1), Value.int .i64 (r.1.1.2), Value.int .i64 (r.1.2.1), Value.int .i64 (r.1.2.2)], Value.bool (r.2)]) (fun x l => l) (fun _ l => l) := by
  refine Meets.of (vs := [Value.agg #[v0, v1], Value.int .i64 (p1), Value.int .i64 (p2)]) Try.func94 rfl Try.ntmps94 rfl fun c => ?_
  unfold m_family_ends at h
  refine J.seq ?_
  refine J.region ?_
  refine J.loud (Loud.box (cs := [v0, v1]) rfl rfl) rfl fun b1 => ?_
  refine J.loud (Loud.alloc (cs := [Value.int .i64 (0 : Int), Value.int .i64 (0 : Int), Value.int .i64 (0 : Int), Value.int .i64 (0 : Int)]) rfl rfl) rfl fun b2 => ?_
  refine J.quiet (Y.assign rfl) rfl ?_
  refine J.done ?_
  refine J.thenN ?_
  refine J.seq ?_
  refine J.region ?_
  refine J.quiet (Y.fieldB rfl rfl rfl rfl rfl) rfl ?_
  refine J.quiet (Y.loadB 1 rfl rfl rfl rfl rfl) rfl ?_
  refine J.quiet (Y.lenS rfl (Lent.fact 0 rfl) rfl) rfl ?_
  refine J.quiet (Y.assign rfl) rfl ?_
  refine J.done ?_
  refine J.thenN ?_
  refine J.seq ?_
  refine J.seq ?_
  refine J.midI (A := Bool) (B := Unit) (fun a4 => family_ends_k1 p1 p2 a4 = some r) (fun a4 b5 => [(1, Value.int .i64 (p1)), (2, Value.int .i64 (p2)), (6, Value.pointer (some ⟨b2, 0, none⟩)), (32, Value.bool (a4))]) (fun a4 b5 => [Blk b2 [Value.int .i64 (0 : Int), Value.int .i64 (0 : Int), Value.int .i64 (0 : Int), Value.int .i64 (0 : Int)] 76]) (fun a4 b5 => [Sl RI64 v0 p0.1, S2 RI64I64p v1 z2 p0.2]) ?_ ?_
  · refine J.region ?_
    refine J.quiet (Y.move rfl) rfl ?_
    refine J.quiet (Y.lss rfl rfl) rfl ?_
    refine J.quiet (Y.move rfl) rfl ?_
    refine J.guardD (by exact rfl) (by exact rfl) (fun hp7 => ?_) (fun hp7 => ?_)
    · replace h := ifP hp7 h
      refine J.guardN rfl rfl rfl ?_
      refine J.guardN rfl rfl rfl ?_
      refine J.guardN rfl rfl rfl ?_
      refine J.quiet (Y.pickT rfl rfl) rfl ?_
      refine J.quiet (Y.move rfl) rfl ?_
      refine J.guardN rfl rfl rfl ?_
      refine J.guardN rfl rfl rfl ?_
      refine J.quiet (Y.pickT rfl rfl) rfl ?_
      refine J.quiet (Y.move rfl) rfl ?_
      refine J.guardN rfl rfl rfl ?_
      refine J.guardN rfl rfl rfl ?_
      refine J.guardN rfl rfl rfl ?_
      refine J.quiet (Y.pickT rfl rfl) rfl ?_
      refine J.quiet (Y.move rfl) rfl ?_
      refine J.guardN rfl rfl rfl ?_
      refine J.guardN rfl rfl rfl ?_
      refine J.guardN rfl rfl rfl ?_
      refine J.quiet (Y.pickT rfl rfl) rfl ?_
      refine J.done ?_
      refine J.thenN ?_
      exact J.meetI (true) (()) h (by repeat (first | exact SubF.nil | refine SubF.cons rfl ?_)) (SubM.cons 0 rfl (SubM.nil)) (LentAll.refl _ _)
    · replace h := ifN hp7 h
      refine J.guardY rfl (Y.move rfl) rfl ?_
      refine J.guardY rfl (Y.move rfl) rfl ?_
      refine J.guardY rfl (Y.geq rfl rfl) rfl ?_
      refine J.quiet (Y.pickF rfl rfl) rfl ?_
      refine J.quiet (Y.move rfl) rfl ?_
      refine J.guardD (by exact rfl) (by exact rfl) (fun hp8 => ?_) (fun hp8 => ?_)
      · replace h := ifP hp8 h
        refine J.guardN rfl rfl rfl ?_
        refine J.guardN rfl rfl rfl ?_
        refine J.quiet (Y.pickT rfl rfl) rfl ?_
        refine J.quiet (Y.move rfl) rfl ?_
        refine J.guardN rfl rfl rfl ?_
        refine J.guardN rfl rfl rfl ?_
        refine J.guardN rfl rfl rfl ?_
        refine J.quiet (Y.pickT rfl rfl) rfl ?_
        refine J.quiet (Y.move rfl) rfl ?_
        refine J.guardN rfl rfl rfl ?_
        refine J.guardN rfl rfl rfl ?_
        refine J.guardN rfl rfl rfl ?_
        refine J.quiet (Y.pickT rfl rfl) rfl ?_
        refine J.done ?_
        refine J.thenN ?_
        exact J.meetI (true) (()) h (by repeat (first | exact SubF.nil | refine SubF.cons rfl ?_)) (SubM.cons 0 rfl (SubM.nil)) (LentAll.refl _ _)
      · replace h := ifN hp8 h
        refine J.guardY rfl (Y.move rfl) rfl ?_
        refine J.guardY rfl (Y.lss rfl rfl) rfl ?_
        refine J.quiet (Y.pickF rfl rfl) rfl ?_
        refine J.quiet (Y.move rfl) rfl ?_
        refine J.guardD (by exact rfl) (by exact rfl) (fun hp9 => ?_) (fun hp9 => ?_)
        · replace h := ifP hp9 h
          refine J.guardN rfl rfl rfl ?_
          refine J.guardN rfl rfl rfl ?_
          refine J.guardN rfl rfl rfl ?_
          refine J.quiet (Y.pickT rfl rfl) rfl ?_
          refine J.quiet (Y.move rfl) rfl ?_
          refine J.guardN rfl rfl rfl ?_
          refine J.guardN rfl rfl rfl ?_
          refine J.guardN rfl rfl rfl ?_
          refine J.quiet (Y.pickT rfl rfl) rfl ?_
          refine J.done ?_
          refine J.thenN ?_
          exact J.meetI (true) (()) h (by repeat (first | exact SubF.nil | refine SubF.cons rfl ?_)) (SubM.cons 0 rfl (SubM.nil)) (LentAll.refl _ _)
        · replace h := ifN hp9 h
          refine J.guardY rfl (Y.move rfl) rfl ?_
          refine J.guardY rfl (Y.move rfl) rfl ?_
          refine J.guardY rfl (Y.geq rfl rfl) rfl ?_
          refine J.quiet (Y.pickF rfl rfl) rfl ?_
          refine J.quiet (Y.move rfl) rfl ?_
          refine J.guardD (by exact rfl) (by exact rfl) (fun hp10 => ?_) (fun hp10 => ?_)
          · replace h := ifP hp10 h
            refine J.guardN rfl rfl rfl ?_
            refine J.guardN rfl rfl rfl ?_
            refine J.guardN rfl rfl rfl ?_
            refine J.quiet (Y.pickT rfl rfl) rfl ?_
            refine J.done ?_
            refine J.thenN ?_
            exact J.meetI (true) (()) h (by repeat (first | exact SubF.nil | refine SubF.cons rfl ?_)) (SubM.cons 0 rfl (SubM.nil)) (LentAll.refl _ _)
          · replace h := ifN hp10 h
            refine J.guardY rfl (Y.move rfl) rfl ?_
            refine J.guardY rfl (Y.move rfl) rfl ?_
            refine J.guardY rfl (Y.eql rfl rfl) rfl ?_
            refine J.quiet (Y.pickF rfl rfl) rfl ?_
            refine J.done ?_
            refine J.thenN ?_
            exact J.meetI (decide (p1 = p2)) (()) h (by repeat (first | exact SubF.nil | refine SubF.cons rfl ?_)) (SubM.cons 0 rfl (SubM.nil)) (LentAll.refl _ _)
  · clear h
    intro a4 b5 h
    unfold family_ends_k1 at h
    refine J.cond (by exact rfl) (fun hp6 => ?_) (fun hp6 => ?_)
    · replace h := ifP hp6 h
      refine J.seq ?_
      refine J.region ?_
      refine J.quiet (Y.bld0 (r := Value.agg #[Value.int .i64 (0 : Int), Value.int .i64 (0 : Int), Value.int .i64 (0 : Int), Value.int .i64 (0 : Int)]) (by intro w; simp [Instr.build, Instr.fill, cells_intV, cells_boolV, cells_sliceV, cells_ptrV, cells_strV, cells_funcV, cells_agg])) rfl ?_
      refine J.storeAll 0 (vs := [Value.int .i64 (0 : Int), Value.int .i64 (0 : Int), Value.int .i64 (0 : Int), Value.int .i64 (0 : Int)]) rfl rfl rfl rfl rfl rfl ?_
      refine J.quiet (Y.assign rfl) rfl ?_
      refine J.done ?_
      refine J.thenN ?_
      refine J.ret ?_
      refine J.thenR ?_
      obtain rfl := Option.some.inj h
      exact J.retG2 (()) rfl rfl (RV.cell 0 rfl rfl rfl rfl) (RV.tmp rfl) (SubM.nil) LentAll.nil
    · replace h := ifBN hp6 h
      refine J.skip ?_
      refine J.thenN ?_
      refine J.seq ?_
      refine J.region ?_
      refine J.quiet (Y.move rfl) rfl ?_
      refine J.quiet (Y.move rfl) rfl ?_
      refine J.quiet (Y.bld2 (r := Value.agg #[Value.int .i64 (p1), Value.int .i64 (p2)]) rfl rfl (by intro w; simp [Instr.build, Instr.fill, cells_intV, cells_boolV, cells_sliceV, cells_ptrV, cells_strV, cells_funcV, cells_agg])) rfl ?_
      refine J.quiet (Y.move rfl) rfl ?_
      refine J.quiet (Y.move rfl) rfl ?_
      refine J.quiet (Y.bld2 (r := Value.agg #[Value.int .i64 (p2), Value.int .i64 (p1)]) rfl rfl (by intro w; simp [Instr.build, Instr.fill, cells_intV, cells_boolV, cells_sliceV, cells_ptrV, cells_strV, cells_funcV, cells_agg])) rfl ?_
      refine J.quiet (Y.bld2 (r := Value.agg #[Value.int .i64 (p1), Value.int .i64 (p2), Value.int .i64 (p2), Value.int .i64 (p1)]) rfl rfl (by intro w; simp [Instr.build, Instr.fill, cells_intV, cells_boolV, cells_sliceV, cells_ptrV, cells_strV, cells_funcV, cells_agg])) rfl ?_
      refine J.storeAll 0 (vs := [Value.int .i64 (p1), Value.int .i64 (p2), Value.int .i64 (p2), Value.int .i64 (p1)]) rfl rfl rfl rfl rfl rfl ?_
      refine J.quiet (Y.assign rfl) rfl ?_
      refine J.done ?_
      refine J.thenN ?_
      refine J.ret ?_
      obtain rfl := Option.some.inj h
      exact J.retG2 (()) rfl rfl (RV.cell 0 rfl rfl rfl rfl) (RV.tmp rfl) (SubM.nil) LentAll.nil

end Go.Proofs.Ytemhmmcakmidkaa
end
section
set_option linter.unusedVariables false
set_option linter.unusedSimpArgs false
namespace Go.Proofs.Ytemhmmcakmidkaa
open Go.Sx
set_option linter.unusedVariables false
set_option linter.unusedSimpArgs false
def m_slices_Delete (fuel : Nat) (p0 : List (Int × Int)) (p1 : Int) (p2 : Int) : Option ((List (Int × Int))) :=
  ck (0 ≤ p1 ∧ p1 ≤ p2 ∧ p2 ≤ (List.length p0 : Int) ∧ (List.length p0 : Int) ≤ (List.length p0 : Int)) (if p1 = p2 then (some (p0)) else (ck (0 ≤ (0 : Int) ∧ (0 : Int) ≤ p1 ∧ p1 ≤ (List.length p0 : Int)) (ck (0 ≤ p2 ∧ p2 ≤ ((List.length p0 : Int)) ∧ ((List.length p0 : Int)) ≤ (List.length p0 : Int)) (ck (0 ≤ p1 ∧ p1 < p2 ∧ p2 ≤ (List.length p0 : Int)) (some ((List.take (Int.toNat p1) p0) ++ (List.drop (Int.toNat p2) p0)))))))

theorem body95 : HasBody Try.prog 95 := Try.call95

set_option maxHeartbeats 4000000 in
set_option maxRecDepth 20000 in
theorem t_slices_Delete (fuel : Nat) {p0 : List (Int × Int)} {p1 : Int} {p2 : Int} (v0 : Value) (r : (List (Int × Int))) (h : m_slices_Delete fuel p0 p1 p2 = some r) :
    MeetsM Try.prog 95 #[v0, Value.int .i64 (p1), Value.int .i64 (p2)] [Ar EI64I64p v0 p0] [] (fun x : Value => x) (fun x l => Ar EI64I64p x r :: l) := by
  refine MeetsM.of (vs := [v0, Value.int .i64 (p1), Value.int .i64 (p2)]) Try.func95 rfl Try.ntmps95 rfl fun c => ?_
  unfold m_slices_Delete at h
  refine J.seq ?_
  refine J.region ?_
  refine J.quiet (Y.assign rfl) rfl ?_
  refine J.done ?_
  refine J.thenN ?_
  refine J.seq ?_
  refine J.region ?_
  refine J.quiet (Y.move rfl) rfl ?_
  refine J.quiet (Y.move rfl) rfl ?_
  refine J.quiet (Y.move rfl) rfl ?_
  refine J.quiet (Y.move rfl) rfl ?_
  refine J.quiet (Y.lenS rfl (Lent.ar (Lent.res 0 rfl) FI64I64p) rfl) rfl ?_
  replace h := ck_some h; obtain ⟨hc1, h⟩ := h
  refine J.quiet (Y.slice3 rfl rfl rfl rfl (Lent.ar (Lent.res 0 rfl) FI64I64p) rfl rfl hc1) rfl ?_
  refine J.done ?_
  refine J.thenN ?_
  refine J.seq ?_
  refine J.seq ?_
  refine J.region ?_
  refine J.quiet (Y.move rfl) rfl ?_
  refine J.quiet (Y.move rfl) rfl ?_
  refine J.quiet (Y.eql rfl rfl) rfl ?_
  refine J.done ?_
  refine J.thenN ?_
  refine J.condD (by exact rfl) (fun hp2 => ?_) (fun hp2 => ?_)
  · replace h := ifP hp2 h
    refine J.seq ?_
    refine J.region ?_
    refine J.quiet (Y.move rfl) rfl ?_
    refine J.quiet (Y.assign rfl) rfl ?_
    refine J.done ?_
    refine J.thenN ?_
    refine J.ret ?_
    refine J.thenR ?_
    obtain rfl := Option.some.inj h
    exact J.retG1 (v0) rfl rfl (RV.tmp rfl) (SubM.refl _) LentAll.nil
  · replace h := ifN hp2 h
    refine J.skip ?_
    refine J.thenN ?_
    refine J.seq ?_
    refine J.region ?_
    refine J.quiet (Y.move rfl) rfl ?_
    refine J.quiet (Y.lenS rfl (Lent.ar (Lent.res 0 rfl) FI64I64p) rfl) rfl ?_
    refine J.quiet (Y.assign rfl) rfl ?_
    refine J.done ?_
    refine J.thenN ?_
    refine J.seq ?_
    refine JR.start [0, 0, 3, 0, 0, 24, 63, 127] 6 mixedOrders (by decide +kernel) ?_
    refine JR.open (by exact rfl) ?_
    refine JR.qt rfl (SubM.nil) (SubL.nil) (Y.move rfl) HistOk.z ?_
    refine JR.qt rfl (SubM.nil) (SubL.nil) (Y.move rfl) HistOk.z ?_
    replace h := ck_some h; obtain ⟨hc3, h⟩ := h
    refine JR.qt rfl (SubM.refl _) (SubL.nil) (Y.sliceH rfl rfl (Lent.ar (Lent.res 0 rfl) FI64I64p) rfl rfl hc3) HistOk.z ?_
    refine JR.qt rfl (SubM.nil) (SubL.nil) (Y.move rfl) HistOk.z ?_
    refine JR.qt rfl (SubM.nil) (SubL.nil) (Y.move rfl) HistOk.z ?_
    replace h := ck_some h; obtain ⟨hc4, h⟩ := h
    refine JR.qt rfl (SubM.refl _) (SubL.nil) (Y.sliceL rfl rfl (Lent.ar (Lent.res 0 rfl) FI64I64p) rfl rfl hc4) HistOk.z ?_
    refine JR.tailD 6 rfl rfl ?_
    replace h := ck_some h; obtain ⟨hc5, h⟩ := h
    refine J.know (Know.cap 0 rfl) fun hcap6 => ?_
    refine J.loud (Loud.appendIn (i := p1) (j := p2) 0 FI64I64p rfl rfl rfl rfl rfl rfl hc5) rfl fun x7 => ?_
    refine J.quiet (Y.assign rfl) rfl ?_
    refine J.done ?_
    refine J.thenN ?_
    refine J.seq ?_
    refine J.region ?_
    refine J.quiet (Y.move rfl) rfl ?_
    refine J.quiet (Y.move rfl) rfl ?_
    refine J.quiet (Y.lenS rfl (Lent.ar (Lent.res 0 rfl) FI64I64p) rfl) rfl ?_
    refine J.quiet (Y.move rfl) rfl ?_
    refine J.quiet (Y.sliceTail 0 rfl rfl rfl rfl rfl rfl (capGe.slq hcap6) (by have q := hc5; simp; omega)) rfl ?_
    refine J.clearTail 0 rfl rfl (Int.toNat_natCast _) (capGe.slq hcap6) (by have q := hc5; simp; omega) rfl rfl rfl rfl rfl ?_
    refine J.done ?_
    refine J.thenN ?_
    refine J.seq ?_
    refine J.region ?_
    refine J.quiet (Y.move rfl) rfl ?_
    refine J.quiet (Y.assign rfl) rfl ?_
    refine J.done ?_
    refine J.thenN ?_
    refine J.ret ?_
    obtain rfl := Option.some.inj h
    exact J.retG1 (slq v0 0 (Int.toNat (p1 + ((List.length p0 : Int) - p2))) 2) rfl rfl (RV.tmp rfl) (SubM.refl _) LentAll.nil

end Go.Proofs.Ytemhmmcakmidkaa
end
section
set_option linter.unusedVariables false
set_option linter.unusedSimpArgs false
namespace Go.Proofs.Ytemhmmcakmidkaa
open Go.Sx
set_option linter.unusedVariables false
set_option linter.unusedSimpArgs false
def family_Cut_k3 (a21 : (List (List (Int × Int))) × List (Int)) (a25 : (List (List (Int × Int)))) : Option ((List (Int) × (List (List (Int × Int)))) × Int) :=
  some (((a21.2, a25)), (0 : Int))
def family_Cut_s1 (fuel : Nat) (p0 : List (Int) × (List (List (Int × Int)))) (r7 : ((Int × Int) × (Int × Int)) × Bool) (a21 : (List (List (Int × Int))) × List (Int)) (a33 : Int × (List (List (Int × Int)))) (ag32 : (Int × (List (List (Int × Int)))) → Option ((List (Int) × (List (List (Int × Int)))) × Int)) : Option ((List (Int) × (List (List (Int × Int)))) × Int) :=
  if a33.1 < (2 : Int) then (ck (0 ≤ a33.1 ∧ a33.1 < ((2 : Nat) : Int)) (Option.bind (m_graph_PortTo fuel ((p0.1, p0.2)) (at' [r7.1.1.1, r7.1.2.1] ((Int.toNat a33.1 : Nat) : Int)) (at' [r7.1.1.2, r7.1.2.2] ((Int.toNat a33.1 : Nat) : Int))) fun r40 => (ck (0 ≤ (at' [r7.1.1.1, r7.1.2.1] ((Int.toNat a33.1 : Nat) : Int)) ∧ (at' [r7.1.1.1, r7.1.2.1] ((Int.toNat a33.1 : Nat) : Int)) < (List.length a33.2 : Int)) (Option.bind (m_slices_Delete fuel (at' a33.2 (at' [r7.1.1.1, r7.1.2.1] ((Int.toNat a33.1 : Nat) : Int))) r40 (wI .i64 (r40 + (1 : Int)))) fun r45 => (ck (0 ≤ (at' [r7.1.1.1, r7.1.2.1] ((Int.toNat a33.1 : Nat) : Int)) ∧ (at' [r7.1.1.1, r7.1.2.1] ((Int.toNat a33.1 : Nat) : Int)) < (List.length (List.set a33.2 (Int.toNat (at' [r7.1.1.1, r7.1.2.1] ((Int.toNat a33.1 : Nat) : Int))) []) : Int)) (ag32 ((wI .i64 (a33.1 + (1 : Int))), (List.set a33.2 (Int.toNat (at' [r7.1.1.1, r7.1.2.1] ((Int.toNat a33.1 : Nat) : Int))) r45)))))))) else (family_Cut_k3 a21 (a33.2))
def family_Cut_k2 (fuel : Nat) (p0 : List (Int) × (List (List (Int × Int)))) (r7 : ((Int × Int) × (Int × Int)) × Bool) (a21 : (List (List (Int × Int))) × List (Int)) : Option ((List (Int) × (List (List (Int × Int)))) × Int) :=
  iter (family_Cut_s1 fuel p0 r7 a21) fuel ((0 : Int), a21.1)
def family_Cut_k1 (fuel : Nat) (p0 : List (Int) × (List (List (Int × Int)))) (r7 : ((Int × Int) × (Int × Int)) × Bool) (a12 : Bool) : Option ((List (Int) × (List (List (Int × Int)))) × Int) :=
  if a12 = true then (some (((([] : List Int), ([] : List (List (Int × Int))))), (2 : Int))) else (Option.bind (m_slices_Clone fuel p0.1) fun r51 => (Option.bind (m_family_copied fuel p0.2) fun r54 => (family_Cut_k2 fuel p0 r7 (r54, r51))))
def m_family_Cut (fuel : Nat) (p0 : List (Int) × (List (List (Int × Int)))) (p1 : Int) (p2 : Int) : Option ((List (Int) × (List (List (Int × Int)))) × Int) :=
  Option.bind (m_graph_Valid fuel ((p0.1, p0.2))) fun r3 => (if (!r3) = true then (some (((([] : List Int), ([] : List (List (Int × Int))))), (1 : Int))) else (Option.bind (m_family_ends fuel ((p0.1, p0.2)) p1 p2) fun r7 => (if (!r7.2) = true then (family_Cut_k1 fuel p0 r7 (true)) else (Option.bind (m_graph_PortTo fuel ((p0.1, p0.2)) p1 p2) fun r84 => (family_Cut_k1 fuel p0 r7 (decide (r84 < (0 : Int))))))))

theorem body59 : HasBody Try.prog 59 := Try.call59

set_option maxHeartbeats 4000000 in
set_option maxRecDepth 20000 in
theorem t_family_Cut (fuel : Nat) {p0 : List (Int) × (List (List (Int × Int)))} {p1 : Int} {p2 : Int} (v0 : Value)  (v1 : Value)  (z2 : List (Value × List (Int × Int))) (r : (List (Int) × (List (List (Int × Int)))) × Int) (h : m_family_Cut fuel p0 p1 p2 = some r) :
    Meets Try.prog 59 #[Value.agg #[v0, v1], Value.int .i64 (p1), Value.int .i64 (p2)] [Sl RI64 v0 p0.1, S2 RI64I64p v1 z2 p0.2] (fun x : Value × Value × List Value => Value.tuple #[Value.agg #[x.1, x.2.1], Value.int .i64 (r.2)]) (fun x l => Ar EI64 x.1 r.1.1 :: Ar Enc.raw x.2.1 x.2.2 :: Rws EI64I64p x.2.2 r.1.2 :: l) (fun _ l => l) := by
  refine Meets.of (vs := [Value.agg #[v0, v1], Value.int .i64 (p1), Value.int .i64 (p2)]) Try.func59 rfl Try.ntmps59 rfl fun c => ?_
  unfold m_family_Cut at h
  refine J.seq ?_
  refine J.region ?_
  refine J.loud (Loud.box (cs := [v0, v1]) rfl rfl) rfl fun b1 => ?_
  refine J.loud (Loud.alloc (cs := [Value.slice none 0 0, Value.slice none 0 0]) rfl rfl) rfl fun b2 => ?_
  refine J.quiet (Y.assign rfl) rfl ?_
  refine J.done ?_
  refine J.thenN ?_
  refine J.seq ?_
  refine J.seq ?_
  refine J.region ?_
  refine J.quiet (Y.loadBAll 1 rfl rfl rfl rfl) rfl ?_
  replace h := bnd h; obtain ⟨r3, hr4, h⟩ := h
  refine J.loud (Loud.callL body64 (t_graph_Valid fuel v0 v1 z2 r3 hr4) rfl (LentAll.cons (Lent.fact 0 rfl) (LentAll.cons (Lent.fact 1 rfl) (LentAll.nil))) (fun _ _ => rfl)) rfl fun x5 => ?_
  refine J.quiet (Y.not rfl) rfl ?_
  refine J.done ?_
  refine J.thenN ?_
  refine J.cond (by exact rfl) (fun hp6 => ?_) (fun hp6 => ?_)
  · replace h := ifP hp6 h
    refine J.seq ?_
    refine J.region ?_
    refine J.quiet (Y.bld0 (r := Value.agg #[Value.slice none 0 0, Value.slice none 0 0]) (by intro w; simp [Instr.build, Instr.fill, cells_intV, cells_boolV, cells_sliceV, cells_ptrV, cells_strV, cells_funcV, cells_agg])) rfl ?_
    refine J.storeAll 0 (vs := [Value.slice none 0 0, Value.slice none 0 0]) rfl rfl rfl rfl rfl rfl ?_
    refine J.quiet (Y.assign rfl) rfl ?_
    refine J.done ?_
    refine J.thenN ?_
    refine J.ret ?_
    refine J.thenR ?_
    refine J.stp (Stp.nilAr EI64) ?_
    refine J.stp (Stp.nilAr Enc.raw) (J.stp (Stp.rowsNil EI64I64p) ?_)
    obtain rfl := Option.some.inj h
    exact J.retG2 ((Value.slice none 0 0), (Value.slice none 0 0), ([] : List Value)) rfl rfl (RV.cell 3 rfl rfl rfl rfl) (RV.tmp rfl) (SubM.cons 2 rfl (SubM.cons 1 rfl (SubM.cons 0 rfl (SubM.nil)))) LentAll.nil
  · replace h := ifBN hp6 h
    refine J.skip ?_
    refine J.thenN ?_
    refine J.seq ?_
    refine J.region ?_
    refine J.quiet (Y.loadBAll 1 rfl rfl rfl rfl) rfl ?_
    refine J.quiet (Y.move rfl) rfl ?_
    refine J.quiet (Y.move rfl) rfl ?_
    replace h := bnd h; obtain ⟨r7, hr8, h⟩ := h
    refine J.loud (Loud.callL body94 (t_family_ends fuel v0 v1 z2 r7 hr8) rfl (LentAll.cons (Lent.fact 0 rfl) (LentAll.cons (Lent.fact 1 rfl) (LentAll.nil))) (fun _ _ => rfl)) rfl fun x9 => ?_
    refine J.quiet (Y.move rfl) rfl ?_
    refine J.quiet (Y.extract rfl rfl) rfl ?_
    refine J.quiet (Y.extract rfl rfl) rfl ?_
    refine J.loud (Loud.alloc (cs := [Value.int .i64 (0 : Int), Value.int .i64 (0 : Int), Value.int .i64 (0 : Int), Value.int .i64 (0 : Int)]) rfl rfl) rfl fun b10 => ?_
    refine J.storeAll 0 (vs := [Value.int .i64 (r7.1.1.1), Value.int .i64 (r7.1.1.2), Value.int .i64 (r7.1.2.1), Value.int .i64 (r7.1.2.2)]) rfl rfl rfl rfl rfl rfl ?_
    refine J.quiet (Y.assign rfl) rfl ?_
    refine J.done ?_
    refine J.thenN ?_
    refine J.seq ?_
    refine J.seq ?_
    refine J.midI (A := Bool) (B := Unit) (fun a12 => family_Cut_k1 fuel p0 r7 a12 = some r) (fun a12 b13 => [(3, Value.pointer (some ⟨b1, 0, none⟩)), (6, Value.pointer (some ⟨b2, 0, none⟩)), (8, Value.pointer (some ⟨b10, 0, none⟩)), (33, Value.bool (a12))]) (fun a12 b13 => [Blk b10 [Value.int .i64 (r7.1.1.1), Value.int .i64 (r7.1.1.2), Value.int .i64 (r7.1.2.1), Value.int .i64 (r7.1.2.2)] 76, Blk b2 [Value.slice none 0 0, Value.slice none 0 0] 26, Blk b1 [v0, v1] 26]) (fun a12 b13 => [Sl RI64 v0 p0.1, S2 RI64I64p v1 z2 p0.2]) ?_ ?_
    · refine J.region ?_
      refine J.quiet (Y.move rfl) rfl ?_
      refine J.quiet (Y.not rfl) rfl ?_
      refine J.quiet (Y.move rfl) rfl ?_
      refine J.guard (by exact rfl) (by exact rfl) (fun hp83 => ?_) (fun hp83 => ?_)
      · replace h := ifP hp83 h
        refine J.guardN rfl rfl rfl ?_
        refine J.guardN rfl rfl rfl ?_
        refine J.guardN rfl rfl rfl ?_
        refine J.guardN rfl rfl rfl ?_
        refine J.guardN rfl rfl rfl ?_
        refine J.quiet (Y.pickT rfl rfl) rfl ?_
        refine J.done ?_
        refine J.thenN ?_
        exact J.meetI (true) (()) h (by repeat (first | exact SubF.nil | refine SubF.cons rfl ?_)) (SubM.refl _) (LentAll.refl _ _)
      · replace h := ifBN hp83 h
        refine J.guardY rfl (Y.loadBAll 2 rfl rfl rfl rfl) rfl ?_
        refine J.guardY rfl (Y.move rfl) rfl ?_
        refine J.guardY rfl (Y.move rfl) rfl ?_
        replace h := bnd h; obtain ⟨r84, hr85, h⟩ := h
        refine J.loudG rfl (Loud.callL body83 (t_graph_PortTo fuel v0 v1 z2 r84 hr85) rfl (LentAll.cons (Lent.fact 0 rfl) (LentAll.cons (Lent.fact 1 rfl) (LentAll.nil))) (fun _ _ => rfl)) rfl fun x86 => ?_
        refine J.guardY rfl (Y.lss rfl rfl) rfl ?_
        refine J.quiet (Y.pickF rfl rfl) rfl ?_
        refine J.done ?_
        refine J.thenN ?_
        exact J.meetI (decide (r84 < (0 : Int))) (()) h (by repeat (first | exact SubF.nil | refine SubF.cons rfl ?_)) (SubM.refl _) (LentAll.refl _ _)
    · clear h
      intro a12 b13 h
      unfold family_Cut_k1 at h
      refine J.cond (by exact rfl) (fun hp14 => ?_) (fun hp14 => ?_)
      · replace h := ifP hp14 h
        refine J.seq ?_
        refine J.region ?_
        refine J.quiet (Y.bld0 (r := Value.agg #[Value.slice none 0 0, Value.slice none 0 0]) (by intro w; simp [Instr.build, Instr.fill, cells_intV, cells_boolV, cells_sliceV, cells_ptrV, cells_strV, cells_funcV, cells_agg])) rfl ?_
        refine J.storeAll 1 (vs := [Value.slice none 0 0, Value.slice none 0 0]) rfl rfl rfl rfl rfl rfl ?_
        refine J.quiet (Y.assign rfl) rfl ?_
        refine J.done ?_
        refine J.thenN ?_
        refine J.ret ?_
        refine J.thenR ?_
        refine J.stp (Stp.nilAr EI64) ?_
        refine J.stp (Stp.nilAr Enc.raw) (J.stp (Stp.rowsNil EI64I64p) ?_)
        obtain rfl := Option.some.inj h
        exact J.retG2 ((Value.slice none 0 0), (Value.slice none 0 0), ([] : List Value)) rfl rfl (RV.cell 4 rfl rfl rfl rfl) (RV.tmp rfl) (SubM.cons 2 rfl (SubM.cons 1 rfl (SubM.cons 0 rfl (SubM.nil)))) LentAll.nil
      · replace h := ifBN hp14 h
        refine J.skip ?_
        refine J.thenN ?_
        refine J.seq ?_
        refine J.midI (A := (List (List (Int × Int))) × List (Int)) (B := Nat × Value × Value × List Value) (fun a21 => family_Cut_k2 fuel p0 r7 a21 = some r) (fun a21 b22 => [(3, Value.pointer (some ⟨b1, 0, none⟩)), (6, Value.pointer (some ⟨b2, 0, none⟩)), (8, Value.pointer (some ⟨b10, 0, none⟩)), (10, Value.pointer (some ⟨b22.1, 0, none⟩))]) (fun a21 b22 => [Blk b22.1 [b22.2.1, b22.2.2.1] 26, Ar Enc.raw b22.2.2.1 b22.2.2.2, Rws EI64I64p b22.2.2.2 a21.1, Ar EI64 b22.2.1 a21.2, Blk b10 [Value.int .i64 (r7.1.1.1), Value.int .i64 (r7.1.1.2), Value.int .i64 (r7.1.2.1), Value.int .i64 (r7.1.2.2)] 76, Blk b2 [Value.slice none 0 0, Value.slice none 0 0] 26, Blk b1 [v0, v1] 26]) (fun a21 b22 => [Sl RI64 v0 p0.1, S2 RI64I64p v1 z2 p0.2]) ?_ ?_
        · replace h := bnd h; obtain ⟨r51, hr52, h⟩ := h
          replace h := bnd h; obtain ⟨r54, hr55, h⟩ := h
          refine JR.orders [0, 1, 3, 0, 8, 31, 63, 0, 255] 8 [[0, 1, 3, 4, 2, 5, 6, 7, 8], [0, 1, 3, 4, 2, 7, 5, 6, 8], [0, 1, 3, 4, 7, 2, 5, 6, 8]] mixedOrders (by decide +kernel) (by decide +kernel) ?_
          intro o ho
          simp only [List.mem_cons, List.not_mem_nil, or_false] at ho
          rcases ho with rfl | rfl | rfl
          · refine JR.qt rfl (SubM.nil) (SubL.nil) (Y.fieldB rfl rfl rfl rfl rfl) HistOk.z ?_
            refine JR.qt rfl (SubM.cons 2 rfl (SubM.nil)) (SubL.nil) (Y.loadB 0 rfl rfl rfl rfl rfl) HistOk.z ?_
            refine JR.qt rfl (SubM.nil) (SubL.nil) (Y.fieldB rfl rfl rfl rfl rfl) HistOk.z ?_
            refine JR.qt rfl (SubM.cons 2 rfl (SubM.nil)) (SubL.nil) (Y.loadB 0 rfl rfl rfl rfl rfl) HistOk.z ?_
            refine JR.loud rfl rfl rfl (Loud.callL body88 (t_slices_Clone fuel v0 r51 hr52) rfl (LentAll.cons (Lent.fact 0 rfl) (LentAll.nil)) (fun _ _ => rfl)) rfl (fun x62 => (BsOk.h (SubM.cons 3 rfl (SubM.nil)) (SubL.nil) (BsOk.h (SubM.nil) (SubL.nil) (BsOk.b rfl (BsOk.b rfl BsOk.z))))) fun x62 => ?_
            refine JR.loud rfl rfl rfl (Loud.callL body89 (t_family_copied fuel v1 z2 r54 hr55) rfl (LentAll.cons (Lent.fact 1 rfl) (LentAll.nil)) (fun _ _ => rfl)) rfl (fun x63 => (BsOk.b rfl (BsOk.b rfl (BsOk.b rfl (BsOk.b rfl BsOk.z))))) fun x63 => ?_
            refine JR.know (Know.one ((Lent.ar (Lent.res 2 rfl) FI64))) fun ho64 => ?_
            refine JR.know (Know.one (Lent.sl (Lent.rows (i := 0) (j := 1) rfl rfl FI64I64p))) fun ho65 => ?_
            refine JR.qt rfl (SubM.nil) (SubL.nil) (Y.bld2 (r := Value.agg #[x62, x63.1]) rfl rfl (by intro w; simp [Instr.build, Instr.fill, cells_intV, cells_boolV, cells_sliceV, cells_ptrV, cells_strV, cells_funcV, cells_agg, one_cells ho64, one_cells ho65])) (HistOk.b rfl (HistOk.b rfl HistOk.z)) ?_
            refine JR.loud rfl rfl rfl (Loud.alloc (cs := [Value.slice none 0 0, Value.slice none 0 0]) rfl rfl) rfl (fun b66 => (BsOk.h (SubM.nil) (SubL.nil) (BsOk.h (SubM.cons 6 rfl (SubM.nil)) (SubL.nil) (BsOk.h (SubM.nil) (SubL.nil) (BsOk.h (SubM.cons 6 rfl (SubM.nil)) (SubL.nil) (BsOk.h (SubM.nil) (SubL.nil) BsOk.z)))))) fun b66 => ?_
            refine JR.tailD 8 rfl rfl ?_
            refine J.know (Know.one ((Lent.ar (Lent.res 3 rfl) FI64))) fun ho67 => ?_
            refine J.know (Know.one (Lent.sl (Lent.rows (i := 1) (j := 2) rfl rfl FI64I64p))) fun ho68 => ?_
            refine J.storeAll 0 (vs := [x62, x63.1]) rfl rfl (all1 ho67 (all1 ho68 rfl)) rfl rfl rfl ?_
            refine J.done ?_
            refine J.thenN ?_
            exact J.meetI (r54, r51) (b66, x62, x63.1, x63.2) h (by repeat (first | exact SubF.nil | refine SubF.cons rfl ?_)) (SubM.refl _) (LentAll.refl _ _)
          · refine JR.qt rfl (SubM.nil) (SubL.nil) (Y.fieldB rfl rfl rfl rfl rfl) HistOk.z ?_
            refine JR.qt rfl (SubM.cons 2 rfl (SubM.nil)) (SubL.nil) (Y.loadB 0 rfl rfl rfl rfl rfl) HistOk.z ?_
            refine JR.qt rfl (SubM.nil) (SubL.nil) (Y.fieldB rfl rfl rfl rfl rfl) HistOk.z ?_
            refine JR.qt rfl (SubM.cons 2 rfl (SubM.nil)) (SubL.nil) (Y.loadB 0 rfl rfl rfl rfl rfl) HistOk.z ?_
            refine JR.loud rfl rfl rfl (Loud.callL body88 (t_slices_Clone fuel v0 r51 hr52) rfl (LentAll.cons (Lent.fact 0 rfl) (LentAll.nil)) (fun _ _ => rfl)) rfl (fun x69 => (BsOk.h (SubM.cons 3 rfl (SubM.nil)) (SubL.nil) (BsOk.h (SubM.nil) (SubL.nil) (BsOk.b rfl (BsOk.b rfl BsOk.z))))) fun x69 => ?_
            refine JR.loud rfl rfl rfl (Loud.alloc (cs := [Value.slice none 0 0, Value.slice none 0 0]) rfl rfl) rfl (fun b70 => (BsOk.h (SubM.cons 4 rfl (SubM.nil)) (SubL.nil) (BsOk.h (SubM.nil) (SubL.nil) (BsOk.h (SubM.cons 4 rfl (SubM.nil)) (SubL.nil) (BsOk.h (SubM.nil) (SubL.nil) BsOk.z))))) fun b70 => ?_
            refine JR.loud rfl rfl rfl (Loud.callL body89 (t_family_copied fuel v1 z2 r54 hr55) rfl (LentAll.cons (Lent.fact 1 rfl) (LentAll.nil)) (fun _ _ => rfl)) rfl (fun x71 => (BsOk.b rfl (BsOk.b rfl (BsOk.b rfl (BsOk.b rfl BsOk.z))))) fun x71 => ?_
            refine JR.know (Know.one ((Lent.ar (Lent.res 3 rfl) FI64))) fun ho72 => ?_
            refine JR.know (Know.one (Lent.sl (Lent.rows (i := 0) (j := 1) rfl rfl FI64I64p))) fun ho73 => ?_
            refine JR.qt rfl (SubM.nil) (SubL.nil) (Y.bld2 (r := Value.agg #[x69, x71.1]) rfl rfl (by intro w; simp [Instr.build, Instr.fill, cells_intV, cells_boolV, cells_sliceV, cells_ptrV, cells_strV, cells_funcV, cells_agg, one_cells ho72, one_cells ho73])) (HistOk.b rfl (HistOk.h (SubM.nil) (SubL.nil) (HistOk.b rfl HistOk.z))) ?_
            refine JR.tailD 8 rfl rfl ?_
            refine J.know (Know.one ((Lent.ar (Lent.res 3 rfl) FI64))) fun ho74 => ?_
            refine J.know (Know.one (Lent.sl (Lent.rows (i := 0) (j := 1) rfl rfl FI64I64p))) fun ho75 => ?_
            refine J.storeAll 2 (vs := [x69, x71.1]) rfl rfl (all1 ho74 (all1 ho75 rfl)) rfl rfl rfl ?_
            refine J.done ?_
            refine J.thenN ?_
            exact J.meetI (r54, r51) (b70, x69, x71.1, x71.2) h (by repeat (first | exact SubF.nil | refine SubF.cons rfl ?_)) (SubM.cons 2 rfl (SubM.cons 0 rfl (SubM.cons 0 rfl (SubM.cons 0 rfl (SubM.cons 0 rfl (SubM.cons 0 rfl (SubM.cons 0 rfl (SubM.nil)))))))) (LentAll.refl _ _)
          · refine JR.qt rfl (SubM.nil) (SubL.nil) (Y.fieldB rfl rfl rfl rfl rfl) HistOk.z ?_
            refine JR.qt rfl (SubM.cons 2 rfl (SubM.nil)) (SubL.nil) (Y.loadB 0 rfl rfl rfl rfl rfl) HistOk.z ?_
            refine JR.qt rfl (SubM.nil) (SubL.nil) (Y.fieldB rfl rfl rfl rfl rfl) HistOk.z ?_
            refine JR.qt rfl (SubM.cons 2 rfl (SubM.nil)) (SubL.nil) (Y.loadB 0 rfl rfl rfl rfl rfl) HistOk.z ?_
            refine JR.loud rfl rfl rfl (Loud.alloc (cs := [Value.slice none 0 0, Value.slice none 0 0]) rfl rfl) rfl (fun b76 => (BsOk.h (SubM.cons 3 rfl (SubM.nil)) (SubL.nil) (BsOk.h (SubM.nil) (SubL.nil) (BsOk.h (SubM.cons 3 rfl (SubM.nil)) (SubL.nil) (BsOk.h (SubM.nil) (SubL.nil) BsOk.z))))) fun b76 => ?_
            refine JR.loud rfl rfl rfl (Loud.callL body88 (t_slices_Clone fuel v0 r51 hr52) rfl (LentAll.cons (Lent.fact 0 rfl) (LentAll.nil)) (fun _ _ => rfl)) rfl (fun x77 => (BsOk.h (SubM.cons 4 rfl (SubM.nil)) (SubL.nil) (BsOk.h (SubM.nil) (SubL.nil) (BsOk.b rfl (BsOk.b rfl BsOk.z))))) fun x77 => ?_
            refine JR.loud rfl rfl rfl (Loud.callL body89 (t_family_copied fuel v1 z2 r54 hr55) rfl (LentAll.cons (Lent.fact 1 rfl) (LentAll.nil)) (fun _ _ => rfl)) rfl (fun x78 => (BsOk.b rfl (BsOk.b rfl (BsOk.b rfl (BsOk.b rfl BsOk.z))))) fun x78 => ?_
            refine JR.know (Know.one ((Lent.ar (Lent.res 2 rfl) FI64))) fun ho79 => ?_
            refine JR.know (Know.one (Lent.sl (Lent.rows (i := 0) (j := 1) rfl rfl FI64I64p))) fun ho80 => ?_
            refine JR.qt rfl (SubM.nil) (SubL.nil) (Y.bld2 (r := Value.agg #[x77, x78.1]) rfl rfl (by intro w; simp [Instr.build, Instr.fill, cells_intV, cells_boolV, cells_sliceV, cells_ptrV, cells_strV, cells_funcV, cells_agg, one_cells ho79, one_cells ho80])) (HistOk.b rfl (HistOk.b rfl (HistOk.h (SubM.nil) (SubL.nil) HistOk.z))) ?_
            refine JR.tailD 8 rfl rfl ?_
            refine J.know (Know.one ((Lent.ar (Lent.res 2 rfl) FI64))) fun ho81 => ?_
            refine J.know (Know.one (Lent.sl (Lent.rows (i := 0) (j := 1) rfl rfl FI64I64p))) fun ho82 => ?_
            refine J.storeAll 3 (vs := [x77, x78.1]) rfl rfl (all1 ho81 (all1 ho82 rfl)) rfl rfl rfl ?_
            refine J.done ?_
            refine J.thenN ?_
            exact J.meetI (r54, r51) (b76, x77, x78.1, x78.2) h (by repeat (first | exact SubF.nil | refine SubF.cons rfl ?_)) (SubM.cons 3 rfl (SubM.cons 0 rfl (SubM.cons 0 rfl (SubM.cons 0 rfl (SubM.cons 0 rfl (SubM.cons 0 rfl (SubM.cons 0 rfl (SubM.nil)))))))) (LentAll.refl _ _)
        · clear h
          intro a21 b22 h
          unfold family_Cut_k2 at h
          refine J.seq ?_
          refine J.midI (A := (List (List (Int × Int)))) (B := List Value) (fun a25 => family_Cut_k3 a21 a25 = some r) (fun a25 b26 => [(6, Value.pointer (some ⟨b2, 0, none⟩)), (10, Value.pointer (some ⟨b22.1, 0, none⟩))]) (fun a25 b26 => [Blk b22.1 [b22.2.1, b22.2.2.1] 26, Ar Enc.raw b22.2.2.1 b26, Rws EI64I64p b26 a25, Ar EI64 b22.2.1 a21.2, Blk b2 [Value.slice none 0 0, Value.slice none 0 0] 26]) (fun a25 b26 => [Sl RI64 v0 p0.1, S2 RI64I64p v1 z2 p0.2]) ?_ ?_
          · refine J.seq ?_
            refine J.region ?_
            refine J.quiet (Y.loadBAll 4 rfl rfl rfl rfl) rfl ?_
            refine J.quiet (Y.move rfl) rfl ?_
            refine J.done ?_
            refine J.thenN ?_
            refine J.block ?_
            refine J.loopI (A := Int × (List (List (Int × Int)))) (B := List Value) (family_Cut_s1 fuel p0 r7 a21) (fun a33 b34 => [(3, Value.pointer (some ⟨b1, 0, none⟩)), (6, Value.pointer (some ⟨b2, 0, none⟩)), (10, Value.pointer (some ⟨b22.1, 0, none⟩)), (42, Value.agg #[Value.int .i64 (r7.1.1.1), Value.int .i64 (r7.1.1.2), Value.int .i64 (r7.1.2.1), Value.int .i64 (r7.1.2.2)]), (43, Value.int .i64 (a33.1))]) (fun a33 b34 => [Blk b22.1 [b22.2.1, b22.2.2.1] 26, Ar Enc.raw b22.2.2.1 b34, Rws EI64I64p b34 a33.2, Ar EI64 b22.2.1 a21.2, Blk b2 [Value.slice none 0 0, Value.slice none 0 0] 26, Blk b1 [v0, v1] 26]) (fun a33 b34 => [Sl RI64 v0 p0.1, S2 RI64I64p v1 z2 p0.2]) ((0 : Int), a21.1) (b22.2.2.2) h (by repeat (first | exact SubF.nil | refine SubF.cons rfl ?_)) (SubM.cons 0 rfl (SubM.cons 0 rfl (SubM.cons 0 rfl (SubM.cons 0 rfl (SubM.cons 1 rfl (SubM.cons 1 rfl (SubM.nil))))))) (LentAll.refl _ _) ?_
            clear h
            intro k35 a33 b34 h
            unfold family_Cut_s1 at h
            refine J.seq ?_
            refine J.region ?_
            refine J.quiet (Y.lss rfl rfl) rfl ?_
            refine J.done ?_
            refine J.thenN ?_
            refine J.seq ?_
            refine J.condD (by exact rfl) (fun hp36 => ?_) (fun hp36 => ?_)
            · replace h := ifP hp36 h
              refine J.skip ?_
              refine J.thenN ?_
              refine J.seq ?_
              refine J.block ?_
              refine J.seq ?_
              refine J.region ?_
              replace h := ck_some h; obtain ⟨hc37, h⟩ := h
              refine J.quiet (Y.indexV (cs := [Value.int .i64 (r7.1.1.1), Value.int .i64 (r7.1.1.2), Value.int .i64 (r7.1.2.1), Value.int .i64 (r7.1.2.2)]) (fun j38 => Value.agg #[Value.int .i64 (at' [r7.1.1.1, r7.1.2.1] ((j38 : Nat) : Int)), Value.int .i64 (at' [r7.1.1.2, r7.1.2.2] ((j38 : Nat) : Int))]) rfl rfl rfl rfl hc37 (by intro j hj; match j, hj with | 0, _ => rfl | 1, _ => rfl)) rfl ?_
              refine J.loud (Loud.alloc (cs := [Value.int .i64 (0 : Int), Value.int .i64 (0 : Int)]) rfl rfl) rfl fun b39 => ?_
              refine J.storeAll 0 (vs := [Value.int .i64 (at' [r7.1.1.1, r7.1.2.1] ((Int.toNat a33.1 : Nat) : Int)), Value.int .i64 (at' [r7.1.1.2, r7.1.2.2] ((Int.toNat a33.1 : Nat) : Int))]) rfl rfl rfl rfl rfl rfl ?_
              refine J.done ?_
              refine J.thenN ?_
              refine J.seq ?_
              refine J.region ?_
              refine J.quiet (Y.loadBAll 6 rfl rfl rfl rfl) rfl ?_
              refine J.quiet (Y.indexArr (i := 0) rfl rfl rfl rfl rfl (by decide)) rfl ?_
              refine J.quiet (Y.loadB 0 rfl rfl rfl rfl rfl) rfl ?_
              refine J.quiet (Y.indexArr (i := 1) rfl rfl rfl rfl rfl (by decide)) rfl ?_
              refine J.quiet (Y.loadB 0 rfl rfl rfl rfl rfl) rfl ?_
              replace h := bnd h; obtain ⟨r40, hr41, h⟩ := h
              refine J.loud (Loud.callL body83 (t_graph_PortTo fuel v0 v1 z2 r40 hr41) rfl (LentAll.cons (Lent.fact 0 rfl) (LentAll.cons (Lent.fact 1 rfl) (LentAll.nil))) (fun _ _ => rfl)) rfl fun x42 => ?_
              refine J.quiet (Y.assign rfl) rfl ?_
              refine J.done ?_
              refine J.thenN ?_
              refine JR.start [0, 1, 0, 4, 0, 16, 0, 64, 240, 496, 0, 0, 2048, 8176, 16383, 32767] 14 mixedOrders (by decide +kernel) ?_
              refine JR.open (by exact rfl) ?_
              refine JR.qt rfl (SubM.nil) (SubL.nil) (Y.fieldB rfl rfl rfl rfl rfl) HistOk.z ?_
              refine JR.qt rfl (SubM.cons 1 rfl (SubM.nil)) (SubL.nil) (Y.loadB 0 rfl rfl rfl rfl rfl) HistOk.z ?_
              refine JR.qt rfl (SubM.nil) (SubL.nil) (Y.indexArr (i := 0) rfl rfl rfl rfl rfl (by decide)) HistOk.z ?_
              refine JR.qt rfl (SubM.cons 0 rfl (SubM.nil)) (SubL.nil) (Y.loadB 0 rfl rfl rfl rfl rfl) HistOk.z ?_
              refine JR.qt rfl (SubM.nil) (SubL.nil) (Y.fieldB rfl rfl rfl rfl rfl) HistOk.z ?_
              refine JR.qt rfl (SubM.cons 1 rfl (SubM.nil)) (SubL.nil) (Y.loadB 0 rfl rfl rfl rfl rfl) HistOk.z ?_
              refine JR.qt rfl (SubM.nil) (SubL.nil) (Y.indexArr (i := 0) rfl rfl rfl rfl rfl (by decide)) HistOk.z ?_
              refine JR.qt rfl (SubM.cons 0 rfl (SubM.nil)) (SubL.nil) (Y.loadB 0 rfl rfl rfl rfl rfl) HistOk.z ?_
              replace h := ck_some h; obtain ⟨hc43, h⟩ := h
              refine JR.qt rfl (SubM.cons 2 rfl (SubM.cons 2 rfl (SubM.nil))) (SubL.nil) (Y.indexN rfl rfl (Lent.rows (i := 0) (j := 1) rfl rfl FI64I64p) rfl rfl hc43) HistOk.z ?_
              refine JR.know (Know.rws 3 rfl) fun hl44 => ?_
              refine JR.qt rfl (SubM.cons 2 rfl (SubM.nil)) (SubL.nil) (Y.loadRaw 0 rfl rfl hl44 rfl rfl hc43) HistOk.z ?_
              refine JR.qt rfl (SubM.nil) (SubL.nil) (Y.move rfl) HistOk.z ?_
              refine JR.qt rfl (SubM.nil) (SubL.nil) (Y.move rfl) HistOk.z ?_
              refine JR.qt rfl (SubM.nil) (SubL.nil) (Y.addW rfl rfl) HistOk.z ?_
              refine JR.stp (Stp.takeRow 3 rfl hc43) ?_
              replace h := bnd h; obtain ⟨r45, hr46, h⟩ := h
              refine JR.loud rfl rfl rfl (Loud.callM (Min := [Ar EI64I64p (at' b34 (at' [r7.1.1.1, r7.1.2.1] ((Int.toNat a33.1 : Nat) : Int))) (at' a33.2 (at' [r7.1.1.1, r7.1.2.1] ((Int.toNat a33.1 : Nat) : Int)))]) (Mr := [Blk b39 [Value.int .i64 (at' [r7.1.1.1, r7.1.2.1] ((Int.toNat a33.1 : Nat) : Int)), Value.int .i64 (at' [r7.1.1.2, r7.1.2.2] ((Int.toNat a33.1 : Nat) : Int))] 75, Blk b22.1 [b22.2.1, b22.2.2.1] 26, Ar Enc.raw b22.2.2.1 b34, Rws EI64I64p (List.set b34 (Int.toNat (at' [r7.1.1.1, r7.1.2.1] ((Int.toNat a33.1 : Nat) : Int))) (Value.slice none 0 0)) (List.set a33.2 (Int.toNat (at' [r7.1.1.1, r7.1.2.1] ((Int.toNat a33.1 : Nat) : Int))) []), Ar EI64 b22.2.1 a21.2, Blk b2 [Value.slice none 0 0, Value.slice none 0 0] 26, Blk b1 [v0, v1] 26]) body95 (t_slices_Delete fuel (at' b34 (at' [r7.1.1.1, r7.1.2.1] ((Int.toNat a33.1 : Nat) : Int))) r45 hr46) rfl (SubM.refl _) (LentAll.nil) (fun _ _ => rfl)) rfl (fun x47 => (BsOk.b rfl (BsOk.b rfl (BsOk.b rfl (BsOk.b rfl (BsOk.b rfl (BsOk.b rfl (BsOk.b rfl (BsOk.b rfl (BsOk.b rfl (BsOk.h (SubM.cons 1 rfl (SubM.nil)) (SubL.nil) (BsOk.h (SubM.nil) (SubL.nil) (BsOk.h (SubM.cons 2 rfl (SubM.nil)) (SubL.nil) (BsOk.h (SubM.nil) (SubL.nil) BsOk.z)))))))))))))) fun x47 => ?_
              refine JR.tailD 14 rfl rfl ?_
              replace h := ck_some h; obtain ⟨hc48, h⟩ := h
              refine J.know (Know.rws 4 rfl) fun hl49 => ?_
              refine J.quiet (Y.indexA 3 rfl rfl rfl rfl rfl hc48.1 (by have q1 := hc48.2; have q2 := hl49; simp only [List.length_set] at q1 q2; omega)) rfl ?_
              refine J.stp (Stp.backRow (k := (at' [r7.1.1.1, r7.1.2.1] ((Int.toNat a33.1 : Nat) : Int))) 4 0 rfl rfl rfl ⟨hc48.1, by simpa using hc48.2⟩) ?_
              refine J.know (Know.oneRow 3 (k := (at' [r7.1.1.1, r7.1.2.1] ((Int.toNat a33.1 : Nat) : Int))) rfl ⟨hc48.1, by simpa using hc48.2⟩) fun ho50 => ?_
              refine J.storeRow 2 3 ⟨hc48.1, by simpa using hc48.2⟩ rfl rfl rfl rfl rfl (by simp) ho50 rfl ?_
              refine J.done ?_
              refine J.inN ?_
              refine J.thenN ?_
              refine J.region ?_
              refine J.quiet (Y.addW rfl rfl) rfl ?_
              refine J.quiet (Y.move rfl) rfl ?_
              refine J.done ?_
              refine J.thenN ?_
              exact J.againI ((wI .i64 (a33.1 + (1 : Int))), (List.set a33.2 (Int.toNat (at' [r7.1.1.1, r7.1.2.1] ((Int.toNat a33.1 : Nat) : Int))) r45)) (List.set b34 (Int.toNat (at' [r7.1.1.1, r7.1.2.1] ((Int.toNat a33.1 : Nat) : Int))) x47) h (by repeat (first | exact SubF.nil | refine SubF.cons rfl ?_)) (SubM.cons 1 rfl (SubM.cons 1 rfl (SubM.cons 1 rfl (SubM.cons 1 rfl (SubM.cons 1 rfl (SubM.cons 1 rfl (SubM.nil))))))) (LentAll.refl _ _)
            · replace h := ifN hp36 h
              refine J.exit ?_
              refine J.thenX ?_
              refine J.thenX ?_
              refine J.inX ?_
              refine J.thenN ?_
              exact J.meetI (a33.2) (b34) h (by repeat (first | exact SubF.nil | refine SubF.cons rfl ?_)) (SubM.cons 0 rfl (SubM.cons 0 rfl (SubM.cons 0 rfl (SubM.cons 0 rfl (SubM.cons 0 rfl (SubM.nil)))))) (LentAll.refl _ _)
          · clear h
            intro a25 b26 h
            unfold family_Cut_k3 at h
            refine J.seq ?_
            refine J.region ?_
            refine J.quiet (Y.loadBAll 0 rfl rfl rfl rfl) rfl ?_
            refine J.know (Know.one ((Lent.ar (Lent.res 3 rfl) FI64))) fun ho27 => ?_
            refine J.know (Know.one (Lent.sl (Lent.rows (i := 1) (j := 2) rfl rfl FI64I64p))) fun ho28 => ?_
            refine J.storeAll 4 (vs := [b22.2.1, b22.2.2.1]) rfl rfl (all1 ho27 (all1 ho28 rfl)) rfl rfl rfl ?_
            refine J.quiet (Y.assign rfl) rfl ?_
            refine J.done ?_
            refine J.thenN ?_
            refine J.ret ?_
            obtain rfl := Option.some.inj h
            exact J.retG2 (b22.2.1, b22.2.2.1, b26) rfl rfl (RV.cell 4 rfl rfl rfl rfl) (RV.tmp rfl) (SubM.cons 3 rfl (SubM.cons 1 rfl (SubM.cons 1 rfl (SubM.nil)))) LentAll.nil

end Go.Proofs.Ytemhmmcakmidkaa
end
section
set_option linter.unusedVariables false
set_option linter.unusedSimpArgs false
namespace Go.Proofs.Ytemhmmcakmidkaa
open Go.Sx
set_option linter.unusedVariables false
set_option linter.unusedSimpArgs false
def ref03_nodes_k1  (a3 : Bool) : Option (Bool) :=
  some (a3)
def m_ref03_nodes (fuel : Nat) (p0 : List (Int) × (List (List (Int × Int)))) (p1 : Int) (p2 : Int) : Option (Bool) :=
  Option.bind (m_ref01_In fuel p1 (0 : Int) (wI .i64 ((List.length p0.2 : Int) - (1 : Int)))) fun r5 => (if r5 = true then (Option.bind (m_ref01_In fuel p2 (0 : Int) (wI .i64 ((List.length p0.2 : Int) - (1 : Int)))) fun r9 => (if r9 = true then (ref03_nodes_k1  (decide (p1 ≠ p2))) else (ref03_nodes_k1  (false)))) else (ref03_nodes_k1  (false)))

theorem body96 : HasBody Try.prog 96 := Try.call96

set_option maxHeartbeats 4000000 in
set_option maxRecDepth 20000 in
theorem t_ref03_nodes (fuel : Nat) {p0 : List (Int) × (List (List (Int × Int)))} {p1 : Int} {p2 : Int} (v0 : Value)  (v1 : Value)  (z2 : List (Value × List (Int × Int))) (r : Bool) (h : m_ref03_nodes fuel p0 p1 p2 = some r) :
    Meets Try.prog 96 #[Value.agg #[v0, v1], Value.int .i64 (p1), Value.int .i64 (p2)] [Sl RI64 v0 p0.1, S2 RI64I64p v1 z2 p0.2] (fun x : Unit => Value.bool (r)) (fun x l => l) (fun _ l => l) := by
  refine Meets.of (vs := [Value.agg #[v0, v1], Value.int .i64 (p1), Value.int .i64 (p2)]) Try.func96 rfl Try.ntmps96 rfl fun c => ?_
  unfold m_ref03_nodes at h
  refine J.seq ?_
  refine J.region ?_
  refine J.loud (Loud.box (cs := [v0, v1]) rfl rfl) rfl fun b1 => ?_
  refine J.quiet (Y.assign rfl) rfl ?_
  refine J.done ?_
  refine J.thenN ?_
  refine J.seq ?_
  refine J.region ?_
  refine J.quiet (Y.fieldB rfl rfl rfl rfl rfl) rfl ?_
  refine J.quiet (Y.loadB 0 rfl rfl rfl rfl rfl) rfl ?_
  refine J.quiet (Y.lenN rfl (Lent.fact 1 rfl) rfl) rfl ?_
  refine J.quiet (Y.assign rfl) rfl ?_
  refine J.done ?_
  refine J.thenN ?_
  refine J.seq ?_
  refine J.midI (A := Bool) (B := Unit) (fun a3 => ref03_nodes_k1  a3 = some r) (fun a3 b4 => [(6, Value.bool (a3))]) (fun a3 b4 => []) (fun a3 b4 => [Sl RI64 v0 p0.1, S2 RI64I64p v1 z2 p0.2]) ?_ ?_
  · refine J.region ?_
    refine J.quiet (Y.move rfl) rfl ?_
    refine J.quiet (Y.move rfl) rfl ?_
    refine J.quiet (Y.subW rfl rfl) rfl ?_
    replace h := bnd h; obtain ⟨r5, hr6, h⟩ := h
    refine J.loud (Loud.callL body72 (t_ref01_In fuel  r5 hr6) rfl (LentAll.nil) (fun _ _ => rfl)) rfl fun x7 => ?_
    refine J.quiet (Y.move rfl) rfl ?_
    refine J.guard (by exact rfl) (by exact rfl) (fun hp8 => ?_) (fun hp8 => ?_)
    · replace h := ifP hp8 h
      refine J.guardY rfl (Y.move rfl) rfl ?_
      refine J.guardY rfl (Y.move rfl) rfl ?_
      refine J.guardY rfl (Y.subW rfl rfl) rfl ?_
      replace h := bnd h; obtain ⟨r9, hr10, h⟩ := h
      refine J.loudG rfl (Loud.callL body72 (t_ref01_In fuel  r9 hr10) rfl (LentAll.nil) (fun _ _ => rfl)) rfl fun x11 => ?_
      refine J.quiet (Y.pickT rfl rfl) rfl ?_
      refine J.quiet (Y.move rfl) rfl ?_
      refine J.guard (by exact rfl) (by exact rfl) (fun hp12 => ?_) (fun hp12 => ?_)
      · replace h := ifP hp12 h
        refine J.guardY rfl (Y.move rfl) rfl ?_
        refine J.guardY rfl (Y.move rfl) rfl ?_
        refine J.guardY rfl (Y.neq rfl rfl) rfl ?_
        refine J.quiet (Y.pickT rfl rfl) rfl ?_
        refine J.quiet (Y.assign rfl) rfl ?_
        refine J.done ?_
        refine J.thenN ?_
        exact J.meetI (decide (p1 ≠ p2)) (()) h (by repeat (first | exact SubF.nil | refine SubF.cons rfl ?_)) (SubM.nil) (LentAll.refl _ _)
      · replace h := ifBN hp12 h
        refine J.guardN rfl rfl rfl ?_
        refine J.guardN rfl rfl rfl ?_
        refine J.guardN rfl rfl rfl ?_
        refine J.quiet (Y.pickF rfl rfl) rfl ?_
        refine J.quiet (Y.assign rfl) rfl ?_
        refine J.done ?_
        refine J.thenN ?_
        exact J.meetI (false) (()) h (by repeat (first | exact SubF.nil | refine SubF.cons rfl ?_)) (SubM.nil) (LentAll.refl _ _)
    · replace h := ifBN hp8 h
      refine J.guardN rfl rfl rfl ?_
      refine J.guardN rfl rfl rfl ?_
      refine J.guardN rfl rfl rfl ?_
      refine J.guardN rfl rfl rfl ?_
      refine J.quiet (Y.pickF rfl rfl) rfl ?_
      refine J.quiet (Y.move rfl) rfl ?_
      refine J.guardN rfl rfl rfl ?_
      refine J.guardN rfl rfl rfl ?_
      refine J.guardN rfl rfl rfl ?_
      refine J.quiet (Y.pickF rfl rfl) rfl ?_
      refine J.quiet (Y.assign rfl) rfl ?_
      refine J.done ?_
      refine J.thenN ?_
      exact J.meetI (false) (()) h (by repeat (first | exact SubF.nil | refine SubF.cons rfl ?_)) (SubM.nil) (LentAll.refl _ _)
  · clear h
    intro a3 b4 h
    unfold ref03_nodes_k1 at h
    refine J.ret ?_
    obtain rfl := Option.some.inj h
    exact J.retG1 (()) rfl rfl (RV.tmp rfl) (SubM.refl _) LentAll.nil

end Go.Proofs.Ytemhmmcakmidkaa
end
section
set_option linter.unusedVariables false
set_option linter.unusedSimpArgs false
namespace Go.Proofs.Ytemhmmcakmidkaa
open Go.Sx
set_option linter.unusedVariables false
set_option linter.unusedSimpArgs false
def family_Connect_k3 (a21 : (List (List (Int × Int))) × List (Int)) (a25 : (List (List (Int × Int)))) : Option ((List (Int) × (List (List (Int × Int)))) × Int) :=
  some (((a21.2, a25)), (0 : Int))
def family_Connect_s1 (p3 : Int) (r7 : ((Int × Int) × (Int × Int)) × Bool) (a21 : (List (List (Int × Int))) × List (Int)) (a33 : Int × (List (List (Int × Int)))) (ag32 : (Int × (List (List (Int × Int)))) → Option ((List (Int) × (List (List (Int × Int)))) × Int)) : Option ((List (Int) × (List (List (Int × Int)))) × Int) :=
  if a33.1 < (2 : Int) then (ck (0 ≤ a33.1 ∧ a33.1 < ((2 : Nat) : Int)) (ck (0 ≤ (at' [r7.1.1.1, r7.1.2.1] ((Int.toNat a33.1 : Nat) : Int)) ∧ (at' [r7.1.1.1, r7.1.2.1] ((Int.toNat a33.1 : Nat) : Int)) < (List.length a33.2 : Int)) (ck ((List.length (at' a33.2 (at' [r7.1.1.1, r7.1.2.1] ((Int.toNat a33.1 : Nat) : Int))) : Int) + (List.length ([ ((at' [r7.1.1.2, r7.1.2.2] ((Int.toNat a33.1 : Nat) : Int)), p3)]) : Int) ≤ 1099511627) (ck (0 ≤ (at' [r7.1.1.1, r7.1.2.1] ((Int.toNat a33.1 : Nat) : Int)) ∧ (at' [r7.1.1.1, r7.1.2.1] ((Int.toNat a33.1 : Nat) : Int)) < (List.length (List.set a33.2 (Int.toNat (at' [r7.1.1.1, r7.1.2.1] ((Int.toNat a33.1 : Nat) : Int))) ((at' a33.2 (at' [r7.1.1.1, r7.1.2.1] ((Int.toNat a33.1 : Nat) : Int))) ++ ([ ((at' [r7.1.1.2, r7.1.2.2] ((Int.toNat a33.1 : Nat) : Int)), p3)]))) : Int)) (ag32 ((wI .i64 (a33.1 + (1 : Int))), (List.set a33.2 (Int.toNat (at' [r7.1.1.1, r7.1.2.1] ((Int.toNat a33.1 : Nat) : Int))) ((at' a33.2 (at' [r7.1.1.1, r7.1.2.1] ((Int.toNat a33.1 : Nat) : Int))) ++ ([ ((at' [r7.1.1.2, r7.1.2.2] ((Int.toNat a33.1 : Nat) : Int)), p3)]))))))))) else (family_Connect_k3 a21 (a33.2))
def family_Connect_k2 (fuel : Nat) (p3 : Int) (r7 : ((Int × Int) × (Int × Int)) × Bool) (a21 : (List (List (Int × Int))) × List (Int)) : Option ((List (Int) × (List (List (Int × Int)))) × Int) :=
  iter (family_Connect_s1 p3 r7 a21) fuel ((0 : Int), a21.1)
def family_Connect_k1 (fuel : Nat) (p0 : List (Int) × (List (List (Int × Int)))) (p3 : Int) (r7 : ((Int × Int) × (Int × Int)) × Bool) (a12 : Bool) : Option ((List (Int) × (List (List (Int × Int)))) × Int) :=
  if a12 = true then (some (((([] : List Int), ([] : List (List (Int × Int))))), (2 : Int))) else (Option.bind (m_slices_Clone fuel p0.1) fun r48 => (Option.bind (m_family_copied fuel p0.2) fun r51 => (family_Connect_k2 fuel p3 r7 (r51, r48))))
def m_family_Connect (fuel : Nat) (p0 : List (Int) × (List (List (Int × Int)))) (p1 : Int) (p2 : Int) (p3 : Int) : Option ((List (Int) × (List (List (Int × Int)))) × Int) :=
  Option.bind (m_graph_Valid fuel ((p0.1, p0.2))) fun r3 => (if (!r3) = true then (some (((([] : List Int), ([] : List (List (Int × Int))))), (1 : Int))) else (Option.bind (m_family_ends fuel ((p0.1, p0.2)) p1 p2) fun r7 => (if (!r7.2) = true then (family_Connect_k1 fuel p0 p3 r7 (true)) else (Option.bind (m_graph_PortTo fuel ((p0.1, p0.2)) p1 p2) fun r81 => (if (0 : Int) ≤ r81 then (family_Connect_k1 fuel p0 p3 r7 (true)) else (if p3 < (1 : Int) then (family_Connect_k1 fuel p0 p3 r7 (true)) else (family_Connect_k1 fuel p0 p3 r7 (decide ((15 : Int) < p3)))))))))

theorem body61 : HasBody Try.prog 61 := Try.call61

set_option maxHeartbeats 4000000 in
set_option maxRecDepth 20000 in
theorem t_family_Connect (fuel : Nat) {p0 : List (Int) × (List (List (Int × Int)))} {p1 : Int} {p2 : Int} {p3 : Int} (v0 : Value)  (v1 : Value)  (z2 : List (Value × List (Int × Int))) (r : (List (Int) × (List (List (Int × Int)))) × Int) (h : m_family_Connect fuel p0 p1 p2 p3 = some r) :
    Meets Try.prog 61 #[Value.agg #[v0, v1], Value.int .i64 (p1), Value.int .i64 (p2), Value.int .i64 (p3)] [Sl RI64 v0 p0.1, S2 RI64I64p v1 z2 p0.2] (fun x : Value × Value × List Value => Value.tuple #[Value.agg #[x.1, x.2.1], Value.int .i64 (r.2)]) (fun x l => Ar EI64 x.1 r.1.1 :: Ar Enc.raw x.2.1 x.2.2 :: Rws EI64I64p x.2.2 r.1.2 :: l) (fun _ l => l) := by
  refine Meets.of (vs := [Value.agg #[v0, v1], Value.int .i64 (p1), Value.int .i64 (p2), Value.int .i64 (p3)]) Try.func61 rfl Try.ntmps61 rfl fun c => ?_
  unfold m_family_Connect at h
  refine J.seq ?_
  refine J.region ?_
  refine J.loud (Loud.box (cs := [v0, v1]) rfl rfl) rfl fun b1 => ?_
  refine J.loud (Loud.alloc (cs := [Value.slice none 0 0, Value.slice none 0 0]) rfl rfl) rfl fun b2 => ?_
  refine J.quiet (Y.assign rfl) rfl ?_
  refine J.done ?_
  refine J.thenN ?_
  refine J.seq ?_
  refine J.seq ?_
  refine J.region ?_
  refine J.quiet (Y.loadBAll 1 rfl rfl rfl rfl) rfl ?_
  replace h := bnd h; obtain ⟨r3, hr4, h⟩ := h
  refine J.loud (Loud.callL body64 (t_graph_Valid fuel v0 v1 z2 r3 hr4) rfl (LentAll.cons (Lent.fact 0 rfl) (LentAll.cons (Lent.fact 1 rfl) (LentAll.nil))) (fun _ _ => rfl)) rfl fun x5 => ?_
  refine J.quiet (Y.not rfl) rfl ?_
  refine J.done ?_
  refine J.thenN ?_
  refine J.cond (by exact rfl) (fun hp6 => ?_) (fun hp6 => ?_)
  · replace h := ifP hp6 h
    refine J.seq ?_
    refine J.region ?_
    refine J.quiet (Y.bld0 (r := Value.agg #[Value.slice none 0 0, Value.slice none 0 0]) (by intro w; simp [Instr.build, Instr.fill, cells_intV, cells_boolV, cells_sliceV, cells_ptrV, cells_strV, cells_funcV, cells_agg])) rfl ?_
    refine J.storeAll 0 (vs := [Value.slice none 0 0, Value.slice none 0 0]) rfl rfl rfl rfl rfl rfl ?_
    refine J.quiet (Y.assign rfl) rfl ?_
    refine J.done ?_
    refine J.thenN ?_
    refine J.ret ?_
    refine J.thenR ?_
    refine J.stp (Stp.nilAr EI64) ?_
    refine J.stp (Stp.nilAr Enc.raw) (J.stp (Stp.rowsNil EI64I64p) ?_)
    obtain rfl := Option.some.inj h
    exact J.retG2 ((Value.slice none 0 0), (Value.slice none 0 0), ([] : List Value)) rfl rfl (RV.cell 3 rfl rfl rfl rfl) (RV.tmp rfl) (SubM.cons 2 rfl (SubM.cons 1 rfl (SubM.cons 0 rfl (SubM.nil)))) LentAll.nil
  · replace h := ifBN hp6 h
    refine J.skip ?_
    refine J.thenN ?_
    refine J.seq ?_
    refine J.region ?_
    refine J.quiet (Y.loadBAll 1 rfl rfl rfl rfl) rfl ?_
    refine J.quiet (Y.move rfl) rfl ?_
    refine J.quiet (Y.move rfl) rfl ?_
    replace h := bnd h; obtain ⟨r7, hr8, h⟩ := h
    refine J.loud (Loud.callL body94 (t_family_ends fuel v0 v1 z2 r7 hr8) rfl (LentAll.cons (Lent.fact 0 rfl) (LentAll.cons (Lent.fact 1 rfl) (LentAll.nil))) (fun _ _ => rfl)) rfl fun x9 => ?_
    refine J.quiet (Y.move rfl) rfl ?_
    refine J.quiet (Y.extract rfl rfl) rfl ?_
    refine J.quiet (Y.extract rfl rfl) rfl ?_
    refine J.loud (Loud.alloc (cs := [Value.int .i64 (0 : Int), Value.int .i64 (0 : Int), Value.int .i64 (0 : Int), Value.int .i64 (0 : Int)]) rfl rfl) rfl fun b10 => ?_
    refine J.storeAll 0 (vs := [Value.int .i64 (r7.1.1.1), Value.int .i64 (r7.1.1.2), Value.int .i64 (r7.1.2.1), Value.int .i64 (r7.1.2.2)]) rfl rfl rfl rfl rfl rfl ?_
    refine J.quiet (Y.assign rfl) rfl ?_
    refine J.done ?_
    refine J.thenN ?_
    refine J.seq ?_
    refine J.seq ?_
    refine J.midI (A := Bool) (B := Unit) (fun a12 => family_Connect_k1 fuel p0 p3 r7 a12 = some r) (fun a12 b13 => [(3, Value.int .i64 (p3)), (4, Value.pointer (some ⟨b1, 0, none⟩)), (8, Value.pointer (some ⟨b2, 0, none⟩)), (10, Value.pointer (some ⟨b10, 0, none⟩)), (42, Value.bool (a12))]) (fun a12 b13 => [Blk b10 [Value.int .i64 (r7.1.1.1), Value.int .i64 (r7.1.1.2), Value.int .i64 (r7.1.2.1), Value.int .i64 (r7.1.2.2)] 76, Blk b2 [Value.slice none 0 0, Value.slice none 0 0] 26, Blk b1 [v0, v1] 26]) (fun a12 b13 => [Sl RI64 v0 p0.1, S2 RI64I64p v1 z2 p0.2]) ?_ ?_
    · refine J.region ?_
      refine J.quiet (Y.move rfl) rfl ?_
      refine J.quiet (Y.not rfl) rfl ?_
      refine J.quiet (Y.move rfl) rfl ?_
      refine J.guard (by exact rfl) (by exact rfl) (fun hp80 => ?_) (fun hp80 => ?_)
      · replace h := ifP hp80 h
        refine J.guardN rfl rfl rfl ?_
        refine J.guardN rfl rfl rfl ?_
        refine J.guardN rfl rfl rfl ?_
        refine J.guardN rfl rfl rfl ?_
        refine J.guardN rfl rfl rfl ?_
        refine J.quiet (Y.pickT rfl rfl) rfl ?_
        refine J.quiet (Y.move rfl) rfl ?_
        refine J.guardN rfl rfl rfl ?_
        refine J.guardN rfl rfl rfl ?_
        refine J.quiet (Y.pickT rfl rfl) rfl ?_
        refine J.quiet (Y.move rfl) rfl ?_
        refine J.guardN rfl rfl rfl ?_
        refine J.guardN rfl rfl rfl ?_
        refine J.quiet (Y.pickT rfl rfl) rfl ?_
        refine J.done ?_
        refine J.thenN ?_
        exact J.meetI (true) (()) h (by repeat (first | exact SubF.nil | refine SubF.cons rfl ?_)) (SubM.refl _) (LentAll.refl _ _)
      · replace h := ifBN hp80 h
        refine J.guardY rfl (Y.loadBAll 2 rfl rfl rfl rfl) rfl ?_
        refine J.guardY rfl (Y.move rfl) rfl ?_
        refine J.guardY rfl (Y.move rfl) rfl ?_
        replace h := bnd h; obtain ⟨r81, hr82, h⟩ := h
        refine J.loudG rfl (Loud.callL body83 (t_graph_PortTo fuel v0 v1 z2 r81 hr82) rfl (LentAll.cons (Lent.fact 0 rfl) (LentAll.cons (Lent.fact 1 rfl) (LentAll.nil))) (fun _ _ => rfl)) rfl fun x83 => ?_
        refine J.guardY rfl (Y.geq rfl rfl) rfl ?_
        refine J.quiet (Y.pickF rfl rfl) rfl ?_
        refine J.quiet (Y.move rfl) rfl ?_
        refine J.guardD (by exact rfl) (by exact rfl) (fun hp84 => ?_) (fun hp84 => ?_)
        · replace h := ifP hp84 h
          refine J.guardN rfl rfl rfl ?_
          refine J.guardN rfl rfl rfl ?_
          refine J.quiet (Y.pickT rfl rfl) rfl ?_
          refine J.quiet (Y.move rfl) rfl ?_
          refine J.guardN rfl rfl rfl ?_
          refine J.guardN rfl rfl rfl ?_
          refine J.quiet (Y.pickT rfl rfl) rfl ?_
          refine J.done ?_
          refine J.thenN ?_
          exact J.meetI (true) (()) h (by repeat (first | exact SubF.nil | refine SubF.cons rfl ?_)) (SubM.refl _) (LentAll.refl _ _)
        · replace h := ifN hp84 h
          refine J.guardY rfl (Y.move rfl) rfl ?_
          refine J.guardY rfl (Y.lss rfl rfl) rfl ?_
          refine J.quiet (Y.pickF rfl rfl) rfl ?_
          refine J.quiet (Y.move rfl) rfl ?_
          refine J.guardD (by exact rfl) (by exact rfl) (fun hp85 => ?_) (fun hp85 => ?_)
          · replace h := ifP hp85 h
            refine J.guardN rfl rfl rfl ?_
            refine J.guardN rfl rfl rfl ?_
            refine J.quiet (Y.pickT rfl rfl) rfl ?_
            refine J.done ?_
            refine J.thenN ?_
            exact J.meetI (true) (()) h (by repeat (first | exact SubF.nil | refine SubF.cons rfl ?_)) (SubM.refl _) (LentAll.refl _ _)
          · replace h := ifN hp85 h
            refine J.guardY rfl (Y.move rfl) rfl ?_
            refine J.guardY rfl (Y.gtr rfl rfl) rfl ?_
            refine J.quiet (Y.pickF rfl rfl) rfl ?_
            refine J.done ?_
            refine J.thenN ?_
            exact J.meetI (decide ((15 : Int) < p3)) (()) h (by repeat (first | exact SubF.nil | refine SubF.cons rfl ?_)) (SubM.refl _) (LentAll.refl _ _)
    · clear h
      intro a12 b13 h
      unfold family_Connect_k1 at h
      refine J.cond (by exact rfl) (fun hp14 => ?_) (fun hp14 => ?_)
      · replace h := ifP hp14 h
        refine J.seq ?_
        refine J.region ?_
        refine J.quiet (Y.bld0 (r := Value.agg #[Value.slice none 0 0, Value.slice none 0 0]) (by intro w; simp [Instr.build, Instr.fill, cells_intV, cells_boolV, cells_sliceV, cells_ptrV, cells_strV, cells_funcV, cells_agg])) rfl ?_
        refine J.storeAll 1 (vs := [Value.slice none 0 0, Value.slice none 0 0]) rfl rfl rfl rfl rfl rfl ?_
        refine J.quiet (Y.assign rfl) rfl ?_
        refine J.done ?_
        refine J.thenN ?_
        refine J.ret ?_
        refine J.thenR ?_
        refine J.stp (Stp.nilAr EI64) ?_
        refine J.stp (Stp.nilAr Enc.raw) (J.stp (Stp.rowsNil EI64I64p) ?_)
        obtain rfl := Option.some.inj h
        exact J.retG2 ((Value.slice none 0 0), (Value.slice none 0 0), ([] : List Value)) rfl rfl (RV.cell 4 rfl rfl rfl rfl) (RV.tmp rfl) (SubM.cons 2 rfl (SubM.cons 1 rfl (SubM.cons 0 rfl (SubM.nil)))) LentAll.nil
      · replace h := ifBN hp14 h
        refine J.skip ?_
        refine J.thenN ?_
        refine J.seq ?_
        refine J.midI (A := (List (List (Int × Int))) × List (Int)) (B := Nat × Value × Value × List Value) (fun a21 => family_Connect_k2 fuel p3 r7 a21 = some r) (fun a21 b22 => [(3, Value.int .i64 (p3)), (8, Value.pointer (some ⟨b2, 0, none⟩)), (10, Value.pointer (some ⟨b10, 0, none⟩)), (12, Value.pointer (some ⟨b22.1, 0, none⟩))]) (fun a21 b22 => [Blk b22.1 [b22.2.1, b22.2.2.1] 26, Ar Enc.raw b22.2.2.1 b22.2.2.2, Rws EI64I64p b22.2.2.2 a21.1, Ar EI64 b22.2.1 a21.2, Blk b10 [Value.int .i64 (r7.1.1.1), Value.int .i64 (r7.1.1.2), Value.int .i64 (r7.1.2.1), Value.int .i64 (r7.1.2.2)] 76, Blk b2 [Value.slice none 0 0, Value.slice none 0 0] 26]) (fun a21 b22 => [Sl RI64 v0 p0.1, S2 RI64I64p v1 z2 p0.2]) ?_ ?_
        · replace h := bnd h; obtain ⟨r48, hr49, h⟩ := h
          replace h := bnd h; obtain ⟨r51, hr52, h⟩ := h
          refine JR.orders [0, 1, 3, 0, 8, 31, 63, 0, 255] 8 [[0, 1, 3, 4, 2, 5, 6, 7, 8], [0, 1, 3, 4, 2, 7, 5, 6, 8], [0, 1, 3, 4, 7, 2, 5, 6, 8]] mixedOrders (by decide +kernel) (by decide +kernel) ?_
          intro o ho
          simp only [List.mem_cons, List.not_mem_nil, or_false] at ho
          rcases ho with rfl | rfl | rfl
          · refine JR.qt rfl (SubM.nil) (SubL.nil) (Y.fieldB rfl rfl rfl rfl rfl) HistOk.z ?_
            refine JR.qt rfl (SubM.cons 2 rfl (SubM.nil)) (SubL.nil) (Y.loadB 0 rfl rfl rfl rfl rfl) HistOk.z ?_
            refine JR.qt rfl (SubM.nil) (SubL.nil) (Y.fieldB rfl rfl rfl rfl rfl) HistOk.z ?_
            refine JR.qt rfl (SubM.cons 2 rfl (SubM.nil)) (SubL.nil) (Y.loadB 0 rfl rfl rfl rfl rfl) HistOk.z ?_
            refine JR.loud rfl rfl rfl (Loud.callL body88 (t_slices_Clone fuel v0 r48 hr49) rfl (LentAll.cons (Lent.fact 0 rfl) (LentAll.nil)) (fun _ _ => rfl)) rfl (fun x59 => (BsOk.h (SubM.cons 3 rfl (SubM.nil)) (SubL.nil) (BsOk.h (SubM.nil) (SubL.nil) (BsOk.b rfl (BsOk.b rfl BsOk.z))))) fun x59 => ?_
            refine JR.loud rfl rfl rfl (Loud.callL body89 (t_family_copied fuel v1 z2 r51 hr52) rfl (LentAll.cons (Lent.fact 1 rfl) (LentAll.nil)) (fun _ _ => rfl)) rfl (fun x60 => (BsOk.b rfl (BsOk.b rfl (BsOk.b rfl (BsOk.b rfl BsOk.z))))) fun x60 => ?_
            refine JR.know (Know.one ((Lent.ar (Lent.res 2 rfl) FI64))) fun ho61 => ?_
            refine JR.know (Know.one (Lent.sl (Lent.rows (i := 0) (j := 1) rfl rfl FI64I64p))) fun ho62 => ?_
            refine JR.qt rfl (SubM.nil) (SubL.nil) (Y.bld2 (r := Value.agg #[x59, x60.1]) rfl rfl (by intro w; simp [Instr.build, Instr.fill, cells_intV, cells_boolV, cells_sliceV, cells_ptrV, cells_strV, cells_funcV, cells_agg, one_cells ho61, one_cells ho62])) (HistOk.b rfl (HistOk.b rfl HistOk.z)) ?_
            refine JR.loud rfl rfl rfl (Loud.alloc (cs := [Value.slice none 0 0, Value.slice none 0 0]) rfl rfl) rfl (fun b63 => (BsOk.h (SubM.nil) (SubL.nil) (BsOk.h (SubM.cons 6 rfl (SubM.nil)) (SubL.nil) (BsOk.h (SubM.nil) (SubL.nil) (BsOk.h (SubM.cons 6 rfl (SubM.nil)) (SubL.nil) (BsOk.h (SubM.nil) (SubL.nil) BsOk.z)))))) fun b63 => ?_
            refine JR.tailD 8 rfl rfl ?_
            refine J.know (Know.one ((Lent.ar (Lent.res 3 rfl) FI64))) fun ho64 => ?_
            refine J.know (Know.one (Lent.sl (Lent.rows (i := 1) (j := 2) rfl rfl FI64I64p))) fun ho65 => ?_
            refine J.storeAll 0 (vs := [x59, x60.1]) rfl rfl (all1 ho64 (all1 ho65 rfl)) rfl rfl rfl ?_
            refine J.done ?_
            refine J.thenN ?_
            exact J.meetI (r51, r48) (b63, x59, x60.1, x60.2) h (by repeat (first | exact SubF.nil | refine SubF.cons rfl ?_)) (SubM.cons 0 rfl (SubM.cons 0 rfl (SubM.cons 0 rfl (SubM.cons 0 rfl (SubM.cons 0 rfl (SubM.cons 0 rfl (SubM.nil))))))) (LentAll.refl _ _)
          · refine JR.qt rfl (SubM.nil) (SubL.nil) (Y.fieldB rfl rfl rfl rfl rfl) HistOk.z ?_
            refine JR.qt rfl (SubM.cons 2 rfl (SubM.nil)) (SubL.nil) (Y.loadB 0 rfl rfl rfl rfl rfl) HistOk.z ?_
            refine JR.qt rfl (SubM.nil) (SubL.nil) (Y.fieldB rfl rfl rfl rfl rfl) HistOk.z ?_
            refine JR.qt rfl (SubM.cons 2 rfl (SubM.nil)) (SubL.nil) (Y.loadB 0 rfl rfl rfl rfl rfl) HistOk.z ?_
            refine JR.loud rfl rfl rfl (Loud.callL body88 (t_slices_Clone fuel v0 r48 hr49) rfl (LentAll.cons (Lent.fact 0 rfl) (LentAll.nil)) (fun _ _ => rfl)) rfl (fun x66 => (BsOk.h (SubM.cons 3 rfl (SubM.nil)) (SubL.nil) (BsOk.h (SubM.nil) (SubL.nil) (BsOk.b rfl (BsOk.b rfl BsOk.z))))) fun x66 => ?_
            refine JR.loud rfl rfl rfl (Loud.alloc (cs := [Value.slice none 0 0, Value.slice none 0 0]) rfl rfl) rfl (fun b67 => (BsOk.h (SubM.cons 4 rfl (SubM.nil)) (SubL.nil) (BsOk.h (SubM.nil) (SubL.nil) (BsOk.h (SubM.cons 4 rfl (SubM.nil)) (SubL.nil) (BsOk.h (SubM.nil) (SubL.nil) BsOk.z))))) fun b67 => ?_
            refine JR.loud rfl rfl rfl (Loud.callL body89 (t_family_copied fuel v1 z2 r51 hr52) rfl (LentAll.cons (Lent.fact 1 rfl) (LentAll.nil)) (fun _ _ => rfl)) rfl (fun x68 => (BsOk.b rfl (BsOk.b rfl (BsOk.b rfl (BsOk.b rfl BsOk.z))))) fun x68 => ?_
            refine JR.know (Know.one ((Lent.ar (Lent.res 3 rfl) FI64))) fun ho69 => ?_
            refine JR.know (Know.one (Lent.sl (Lent.rows (i := 0) (j := 1) rfl rfl FI64I64p))) fun ho70 => ?_
            refine JR.qt rfl (SubM.nil) (SubL.nil) (Y.bld2 (r := Value.agg #[x66, x68.1]) rfl rfl (by intro w; simp [Instr.build, Instr.fill, cells_intV, cells_boolV, cells_sliceV, cells_ptrV, cells_strV, cells_funcV, cells_agg, one_cells ho69, one_cells ho70])) (HistOk.b rfl (HistOk.h (SubM.nil) (SubL.nil) (HistOk.b rfl HistOk.z))) ?_
            refine JR.tailD 8 rfl rfl ?_
            refine J.know (Know.one ((Lent.ar (Lent.res 3 rfl) FI64))) fun ho71 => ?_
            refine J.know (Know.one (Lent.sl (Lent.rows (i := 0) (j := 1) rfl rfl FI64I64p))) fun ho72 => ?_
            refine J.storeAll 2 (vs := [x66, x68.1]) rfl rfl (all1 ho71 (all1 ho72 rfl)) rfl rfl rfl ?_
            refine J.done ?_
            refine J.thenN ?_
            exact J.meetI (r51, r48) (b67, x66, x68.1, x68.2) h (by repeat (first | exact SubF.nil | refine SubF.cons rfl ?_)) (SubM.cons 2 rfl (SubM.cons 0 rfl (SubM.cons 0 rfl (SubM.cons 0 rfl (SubM.cons 0 rfl (SubM.cons 0 rfl (SubM.nil))))))) (LentAll.refl _ _)
          · refine JR.qt rfl (SubM.nil) (SubL.nil) (Y.fieldB rfl rfl rfl rfl rfl) HistOk.z ?_
            refine JR.qt rfl (SubM.cons 2 rfl (SubM.nil)) (SubL.nil) (Y.loadB 0 rfl rfl rfl rfl rfl) HistOk.z ?_
            refine JR.qt rfl (SubM.nil) (SubL.nil) (Y.fieldB rfl rfl rfl rfl rfl) HistOk.z ?_
            refine JR.qt rfl (SubM.cons 2 rfl (SubM.nil)) (SubL.nil) (Y.loadB 0 rfl rfl rfl rfl rfl) HistOk.z ?_
            refine JR.loud rfl rfl rfl (Loud.alloc (cs := [Value.slice none 0 0, Value.slice none 0 0]) rfl rfl) rfl (fun b73 => (BsOk.h (SubM.cons 3 rfl (SubM.nil)) (SubL.nil) (BsOk.h (SubM.nil) (SubL.nil) (BsOk.h (SubM.cons 3 rfl (SubM.nil)) (SubL.nil) (BsOk.h (SubM.nil) (SubL.nil) BsOk.z))))) fun b73 => ?_
            refine JR.loud rfl rfl rfl (Loud.callL body88 (t_slices_Clone fuel v0 r48 hr49) rfl (LentAll.cons (Lent.fact 0 rfl) (LentAll.nil)) (fun _ _ => rfl)) rfl (fun x74 => (BsOk.h (SubM.cons 4 rfl (SubM.nil)) (SubL.nil) (BsOk.h (SubM.nil) (SubL.nil) (BsOk.b rfl (BsOk.b rfl BsOk.z))))) fun x74 => ?_
            refine JR.loud rfl rfl rfl (Loud.callL body89 (t_family_copied fuel v1 z2 r51 hr52) rfl (LentAll.cons (Lent.fact 1 rfl) (LentAll.nil)) (fun _ _ => rfl)) rfl (fun x75 => (BsOk.b rfl (BsOk.b rfl (BsOk.b rfl (BsOk.b rfl BsOk.z))))) fun x75 => ?_
            refine JR.know (Know.one ((Lent.ar (Lent.res 2 rfl) FI64))) fun ho76 => ?_
            refine JR.know (Know.one (Lent.sl (Lent.rows (i := 0) (j := 1) rfl rfl FI64I64p))) fun ho77 => ?_
            refine JR.qt rfl (SubM.nil) (SubL.nil) (Y.bld2 (r := Value.agg #[x74, x75.1]) rfl rfl (by intro w; simp [Instr.build, Instr.fill, cells_intV, cells_boolV, cells_sliceV, cells_ptrV, cells_strV, cells_funcV, cells_agg, one_cells ho76, one_cells ho77])) (HistOk.b rfl (HistOk.b rfl (HistOk.h (SubM.nil) (SubL.nil) HistOk.z))) ?_
            refine JR.tailD 8 rfl rfl ?_
            refine J.know (Know.one ((Lent.ar (Lent.res 2 rfl) FI64))) fun ho78 => ?_
            refine J.know (Know.one (Lent.sl (Lent.rows (i := 0) (j := 1) rfl rfl FI64I64p))) fun ho79 => ?_
            refine J.storeAll 3 (vs := [x74, x75.1]) rfl rfl (all1 ho78 (all1 ho79 rfl)) rfl rfl rfl ?_
            refine J.done ?_
            refine J.thenN ?_
            exact J.meetI (r51, r48) (b73, x74, x75.1, x75.2) h (by repeat (first | exact SubF.nil | refine SubF.cons rfl ?_)) (SubM.cons 3 rfl (SubM.cons 0 rfl (SubM.cons 0 rfl (SubM.cons 0 rfl (SubM.cons 0 rfl (SubM.cons 0 rfl (SubM.nil))))))) (LentAll.refl _ _)
        · clear h
          intro a21 b22 h
          unfold family_Connect_k2 at h
          refine J.seq ?_
          refine J.midI (A := (List (List (Int × Int)))) (B := List Value) (fun a25 => family_Connect_k3 a21 a25 = some r) (fun a25 b26 => [(8, Value.pointer (some ⟨b2, 0, none⟩)), (12, Value.pointer (some ⟨b22.1, 0, none⟩))]) (fun a25 b26 => [Blk b22.1 [b22.2.1, b22.2.2.1] 26, Ar Enc.raw b22.2.2.1 b26, Rws EI64I64p b26 a25, Ar EI64 b22.2.1 a21.2, Blk b2 [Value.slice none 0 0, Value.slice none 0 0] 26]) (fun a25 b26 => [Sl RI64 v0 p0.1, S2 RI64I64p v1 z2 p0.2]) ?_ ?_
          · refine J.seq ?_
            refine J.region ?_
            refine J.quiet (Y.loadBAll 4 rfl rfl rfl rfl) rfl ?_
            refine J.quiet (Y.move rfl) rfl ?_
            refine J.done ?_
            refine J.thenN ?_
            refine J.block ?_
            refine J.loopI (A := Int × (List (List (Int × Int)))) (B := List Value) (family_Connect_s1 p3 r7 a21) (fun a33 b34 => [(3, Value.int .i64 (p3)), (8, Value.pointer (some ⟨b2, 0, none⟩)), (12, Value.pointer (some ⟨b22.1, 0, none⟩)), (51, Value.agg #[Value.int .i64 (r7.1.1.1), Value.int .i64 (r7.1.1.2), Value.int .i64 (r7.1.2.1), Value.int .i64 (r7.1.2.2)]), (52, Value.int .i64 (a33.1))]) (fun a33 b34 => [Blk b22.1 [b22.2.1, b22.2.2.1] 26, Ar Enc.raw b22.2.2.1 b34, Rws EI64I64p b34 a33.2, Ar EI64 b22.2.1 a21.2, Blk b2 [Value.slice none 0 0, Value.slice none 0 0] 26]) (fun a33 b34 => [Sl RI64 v0 p0.1, S2 RI64I64p v1 z2 p0.2]) ((0 : Int), a21.1) (b22.2.2.2) h (by repeat (first | exact SubF.nil | refine SubF.cons rfl ?_)) (SubM.cons 0 rfl (SubM.cons 0 rfl (SubM.cons 0 rfl (SubM.cons 0 rfl (SubM.cons 1 rfl (SubM.nil)))))) (LentAll.refl _ _) ?_
            clear h
            intro k35 a33 b34 h
            unfold family_Connect_s1 at h
            refine J.seq ?_
            refine J.region ?_
            refine J.quiet (Y.lss rfl rfl) rfl ?_
            refine J.done ?_
            refine J.thenN ?_
            refine J.seq ?_
            refine J.condD (by exact rfl) (fun hp36 => ?_) (fun hp36 => ?_)
            · replace h := ifP hp36 h
              refine J.skip ?_
              refine J.thenN ?_
              refine J.seq ?_
              refine J.block ?_
              refine J.seq ?_
              refine J.region ?_
              replace h := ck_some h; obtain ⟨hc37, h⟩ := h
              refine J.quiet (Y.indexV (cs := [Value.int .i64 (r7.1.1.1), Value.int .i64 (r7.1.1.2), Value.int .i64 (r7.1.2.1), Value.int .i64 (r7.1.2.2)]) (fun j38 => Value.agg #[Value.int .i64 (at' [r7.1.1.1, r7.1.2.1] ((j38 : Nat) : Int)), Value.int .i64 (at' [r7.1.1.2, r7.1.2.2] ((j38 : Nat) : Int))]) rfl rfl rfl rfl hc37 (by intro j hj; match j, hj with | 0, _ => rfl | 1, _ => rfl)) rfl ?_
              refine J.loud (Loud.alloc (cs := [Value.int .i64 (0 : Int), Value.int .i64 (0 : Int)]) rfl rfl) rfl fun b39 => ?_
              refine J.storeAll 0 (vs := [Value.int .i64 (at' [r7.1.1.1, r7.1.2.1] ((Int.toNat a33.1 : Nat) : Int)), Value.int .i64 (at' [r7.1.1.2, r7.1.2.2] ((Int.toNat a33.1 : Nat) : Int))]) rfl rfl rfl rfl rfl rfl ?_
              refine J.done ?_
              refine J.thenN ?_
              refine JR.start [0, 1, 0, 4, 0, 16, 0, 64, 240, 496, 0, 1024, 0, 7168, 15360, 32752, 65535, 131071] 16 mixedOrders (by decide +kernel) ?_
              refine JR.open (by exact rfl) ?_
              refine JR.qt rfl (SubM.nil) (SubL.nil) (Y.fieldB rfl rfl rfl rfl rfl) HistOk.z ?_
              refine JR.qt rfl (SubM.cons 1 rfl (SubM.nil)) (SubL.nil) (Y.loadB 0 rfl rfl rfl rfl rfl) HistOk.z ?_
              refine JR.qt rfl (SubM.nil) (SubL.nil) (Y.indexArr (i := 0) rfl rfl rfl rfl rfl (by decide)) HistOk.z ?_
              refine JR.qt rfl (SubM.cons 0 rfl (SubM.nil)) (SubL.nil) (Y.loadB 0 rfl rfl rfl rfl rfl) HistOk.z ?_
              refine JR.qt rfl (SubM.nil) (SubL.nil) (Y.fieldB rfl rfl rfl rfl rfl) HistOk.z ?_
              refine JR.qt rfl (SubM.cons 1 rfl (SubM.nil)) (SubL.nil) (Y.loadB 0 rfl rfl rfl rfl rfl) HistOk.z ?_
              refine JR.qt rfl (SubM.nil) (SubL.nil) (Y.indexArr (i := 0) rfl rfl rfl rfl rfl (by decide)) HistOk.z ?_
              refine JR.qt rfl (SubM.cons 0 rfl (SubM.nil)) (SubL.nil) (Y.loadB 0 rfl rfl rfl rfl rfl) HistOk.z ?_
              replace h := ck_some h; obtain ⟨hc40, h⟩ := h
              refine JR.qt rfl (SubM.cons 2 rfl (SubM.cons 2 rfl (SubM.nil))) (SubL.nil) (Y.indexN rfl rfl (Lent.rows (i := 0) (j := 1) rfl rfl FI64I64p) rfl rfl hc40) HistOk.z ?_
              refine JR.know (Know.rws 3 rfl) fun hl41 => ?_
              refine JR.qt rfl (SubM.cons 2 rfl (SubM.nil)) (SubL.nil) (Y.loadRaw 0 rfl rfl hl41 rfl rfl hc40) HistOk.z ?_
              refine JR.qt rfl (SubM.nil) (SubL.nil) (Y.indexArr (i := 1) rfl rfl rfl rfl rfl (by decide)) HistOk.z ?_
              refine JR.qt rfl (SubM.cons 0 rfl (SubM.nil)) (SubL.nil) (Y.loadB 0 rfl rfl rfl rfl rfl) HistOk.z ?_
              refine JR.qt rfl (SubM.nil) (SubL.nil) (Y.move rfl) HistOk.z ?_
              refine JR.qt rfl (SubM.nil) (SubL.nil) (Y.bld2 (r := Value.agg #[Value.int .i64 (at' [r7.1.1.2, r7.1.2.2] ((Int.toNat a33.1 : Nat) : Int)), Value.int .i64 (p3)]) rfl rfl (by intro w; simp [Instr.build, Instr.fill, cells_intV, cells_boolV, cells_sliceV, cells_ptrV, cells_strV, cells_funcV, cells_agg])) HistOk.z ?_
              refine JR.loud rfl rfl rfl (Loud.buildS (e := EI64I64p) ([(((at' [r7.1.1.2, r7.1.2.2] ((Int.toNat a33.1 : Nat) : Int)), p3))]) [(0, Value.agg #[Value.int .i64 (at' [r7.1.1.2, r7.1.2.2] ((Int.toNat a33.1 : Nat) : Int)), Value.int .i64 (p3)])] rfl rfl rfl rfl (fill_1_2 (Value.int .i64 (at' [r7.1.1.2, r7.1.2.2] ((Int.toNat a33.1 : Nat) : Int))) (Value.int .i64 (p3))) rfl rfl rfl) rfl (fun u42 => (BsOk.b rfl (BsOk.b rfl (BsOk.b rfl (BsOk.b rfl (BsOk.h (SubM.cons 3 rfl (SubM.nil)) (SubL.nil) (BsOk.h (SubM.cons 3 rfl (SubM.cons 3 rfl (SubM.nil))) (SubL.nil) (BsOk.h (SubM.cons 1 rfl (SubM.nil)) (SubL.nil) (BsOk.h (SubM.nil) (SubL.nil) (BsOk.h (SubM.cons 2 rfl (SubM.nil)) (SubL.nil) (BsOk.h (SubM.nil) (SubL.nil) (BsOk.h (SubM.cons 1 rfl (SubM.nil)) (SubL.nil) (BsOk.h (SubM.nil) (SubL.nil) (BsOk.h (SubM.cons 2 rfl (SubM.nil)) (SubL.nil) (BsOk.h (SubM.nil) (SubL.nil) BsOk.z))))))))))))))) fun u42 => ?_
              replace h := ck_some h; obtain ⟨hc44, h⟩ := h
              refine JR.loud rfl rfl rfl (Loud.appendRowL 4 FI64I64p rfl rfl rfl (Lent.ar (Lent.res 0 rfl) FI64I64p) rfl rfl rfl rfl hc40 hc44 rfl) rfl (fun u43 => (BsOk.b rfl (BsOk.b rfl (BsOk.b rfl (BsOk.b rfl (BsOk.b rfl (BsOk.b rfl (BsOk.b rfl (BsOk.b rfl (BsOk.b rfl (BsOk.b rfl (BsOk.h (SubM.cons 1 rfl (SubM.nil)) (SubL.nil) (BsOk.h (SubM.nil) (SubL.nil) (BsOk.h (SubM.cons 2 rfl (SubM.nil)) (SubL.nil) (BsOk.h (SubM.nil) (SubL.nil) BsOk.z))))))))))))))) fun u43 => ?_
              refine JR.tailD 16 rfl rfl ?_
              replace h := ck_some h; obtain ⟨hc45, h⟩ := h
              refine J.know (Know.rws 4 rfl) fun hl46 => ?_
              refine J.quiet (Y.indexA 3 rfl rfl rfl rfl rfl hc45.1 (by have q1 := hc45.2; have q2 := hl46; simp only [List.length_set] at q1 q2; omega)) rfl ?_
              refine J.know (Know.oneRow 4 (k := (at' [r7.1.1.1, r7.1.2.1] ((Int.toNat a33.1 : Nat) : Int))) rfl ⟨hc45.1, by simpa using hc45.2⟩) fun ho47 => ?_
              refine J.storeRow 3 4 ⟨hc45.1, by simpa using hc45.2⟩ rfl rfl rfl rfl rfl (by simp) ho47 rfl ?_
              refine J.done ?_
              refine J.inN ?_
              refine J.thenN ?_
              refine J.region ?_
              refine J.quiet (Y.addW rfl rfl) rfl ?_
              refine J.quiet (Y.move rfl) rfl ?_
              refine J.done ?_
              refine J.thenN ?_
              exact J.againI ((wI .i64 (a33.1 + (1 : Int))), (List.set a33.2 (Int.toNat (at' [r7.1.1.1, r7.1.2.1] ((Int.toNat a33.1 : Nat) : Int))) ((at' a33.2 (at' [r7.1.1.1, r7.1.2.1] ((Int.toNat a33.1 : Nat) : Int))) ++ ([ ((at' [r7.1.1.2, r7.1.2.2] ((Int.toNat a33.1 : Nat) : Int)), p3)])))) (List.set b34 (Int.toNat (at' [r7.1.1.1, r7.1.2.1] ((Int.toNat a33.1 : Nat) : Int))) u43) h (by repeat (first | exact SubF.nil | refine SubF.cons rfl ?_)) (SubM.cons 2 rfl (SubM.cons 2 rfl (SubM.cons 2 rfl (SubM.cons 2 rfl (SubM.cons 2 rfl (SubM.nil)))))) (LentAll.refl _ _)
            · replace h := ifN hp36 h
              refine J.exit ?_
              refine J.thenX ?_
              refine J.thenX ?_
              refine J.inX ?_
              refine J.thenN ?_
              exact J.meetI (a33.2) (b34) h (by repeat (first | exact SubF.nil | refine SubF.cons rfl ?_)) (SubM.refl _) (LentAll.refl _ _)
          · clear h
            intro a25 b26 h
            unfold family_Connect_k3 at h
            refine J.seq ?_
            refine J.region ?_
            refine J.quiet (Y.loadBAll 0 rfl rfl rfl rfl) rfl ?_
            refine J.know (Know.one ((Lent.ar (Lent.res 3 rfl) FI64))) fun ho27 => ?_
            refine J.know (Know.one (Lent.sl (Lent.rows (i := 1) (j := 2) rfl rfl FI64I64p))) fun ho28 => ?_
            refine J.storeAll 4 (vs := [b22.2.1, b22.2.2.1]) rfl rfl (all1 ho27 (all1 ho28 rfl)) rfl rfl rfl ?_
            refine J.quiet (Y.assign rfl) rfl ?_
            refine J.done ?_
            refine J.thenN ?_
            refine J.ret ?_
            obtain rfl := Option.some.inj h
            exact J.retG2 (b22.2.1, b22.2.2.1, b26) rfl rfl (RV.cell 4 rfl rfl rfl rfl) (RV.tmp rfl) (SubM.cons 3 rfl (SubM.cons 1 rfl (SubM.cons 1 rfl (SubM.nil)))) LentAll.nil

end Go.Proofs.Ytemhmmcakmidkaa
end
section
set_option linter.unusedVariables false
set_option linter.unusedSimpArgs false
namespace Go.Proofs.Ytemhmmcakmidkaa
open Go.Sx
set_option linter.unusedVariables false
set_option linter.unusedSimpArgs false
def ref03_Connect_k1 (fuel : Nat) (p0 : List (Int) × (List (List (Int × Int)))) (p1 : Int) (p2 : Int) (p3 : Int) (a8 : Bool) : Option ((List (Int) × (List (List (Int × Int)))) × Int) :=
  if a8 = true then (some (((([] : List Int), ([] : List (List (Int × Int))))), (2 : Int))) else (Option.bind (m_ref03_Copy fuel ((p0.1, p0.2))) fun r11 => (ck (0 ≤ p1 ∧ p1 < (List.length r11.2 : Int)) (ck ((List.length (at' r11.2 p1) : Int) + (List.length ([ (p2, p3)]) : Int) ≤ 1099511627) (ck (0 ≤ p1 ∧ p1 < (List.length (List.set r11.2 (Int.toNat p1) ((at' r11.2 p1) ++ ([ (p2, p3)]))) : Int)) (ck (0 ≤ p2 ∧ p2 < (List.length (List.set r11.2 (Int.toNat p1) ((at' r11.2 p1) ++ ([ (p2, p3)]))) : Int)) (ck ((List.length (at' (List.set r11.2 (Int.toNat p1) ((at' r11.2 p1) ++ ([ (p2, p3)]))) p2) : Int) + (List.length ([ (p1, p3)]) : Int) ≤ 1099511627) (ck (0 ≤ p2 ∧ p2 < (List.length (List.set (List.set r11.2 (Int.toNat p1) ((at' r11.2 p1) ++ ([ (p2, p3)]))) (Int.toNat p2) ((at' (List.set r11.2 (Int.toNat p1) ((at' r11.2 p1) ++ ([ (p2, p3)]))) p2) ++ ([ (p1, p3)]))) : Int)) (some (((r11.1, (List.set (List.set r11.2 (Int.toNat p1) ((at' r11.2 p1) ++ ([ (p2, p3)]))) (Int.toNat p2) ((at' (List.set r11.2 (Int.toNat p1) ((at' r11.2 p1) ++ ([ (p2, p3)]))) p2) ++ ([ (p1, p3)]))))), (0 : Int))))))))))
def m_ref03_Connect (fuel : Nat) (p0 : List (Int) × (List (List (Int × Int)))) (p1 : Int) (p2 : Int) (p3 : Int) : Option ((List (Int) × (List (List (Int × Int)))) × Int) :=
  Option.bind (m_ref01_Valid fuel ((p0.1, p0.2))) fun r3 => (if (!r3) = true then (some (((([] : List Int), ([] : List (List (Int × Int))))), (1 : Int))) else (Option.bind (m_ref03_nodes fuel ((p0.1, p0.2)) p1 p2) fun r35 => (if (!r35) = true then (ref03_Connect_k1 fuel p0 p1 p2 p3 (true)) else (Option.bind (m_ref01_Port fuel ((p0.1, p0.2)) p1 p2) fun r39 => (if (0 : Int) ≤ r39 then (ref03_Connect_k1 fuel p0 p1 p2 p3 (true)) else (Option.bind (m_ref01_In fuel p3 (1 : Int) (15 : Int)) fun r43 => (ref03_Connect_k1 fuel p0 p1 p2 p3 ((!r43)))))))))

theorem body62 : HasBody Try.prog 62 := Try.call62

set_option maxHeartbeats 4000000 in
set_option maxRecDepth 20000 in
theorem t_ref03_Connect (fuel : Nat) {p0 : List (Int) × (List (List (Int × Int)))} {p1 : Int} {p2 : Int} {p3 : Int} (v0 : Value)  (v1 : Value)  (z2 : List (Value × List (Int × Int))) (r : (List (Int) × (List (List (Int × Int)))) × Int) (h : m_ref03_Connect fuel p0 p1 p2 p3 = some r) :
    Meets Try.prog 62 #[Value.agg #[v0, v1], Value.int .i64 (p1), Value.int .i64 (p2), Value.int .i64 (p3)] [Sl RI64 v0 p0.1, S2 RI64I64p v1 z2 p0.2] (fun x : Value × Value × List Value => Value.tuple #[Value.agg #[x.1, x.2.1], Value.int .i64 (r.2)]) (fun x l => Ar EI64 x.1 r.1.1 :: Ar Enc.raw x.2.1 x.2.2 :: Rws EI64I64p x.2.2 r.1.2 :: l) (fun _ l => l) := by
  refine Meets.of (vs := [Value.agg #[v0, v1], Value.int .i64 (p1), Value.int .i64 (p2), Value.int .i64 (p3)]) Try.func62 rfl Try.ntmps62 rfl fun c => ?_
  unfold m_ref03_Connect at h
  refine J.seq ?_
  refine J.region ?_
  refine J.loud (Loud.box (cs := [v0, v1]) rfl rfl) rfl fun b1 => ?_
  refine J.loud (Loud.alloc (cs := [Value.slice none 0 0, Value.slice none 0 0]) rfl rfl) rfl fun b2 => ?_
  refine J.quiet (Y.assign rfl) rfl ?_
  refine J.done ?_
  refine J.thenN ?_
  refine J.seq ?_
  refine J.seq ?_
  refine J.region ?_
  refine J.quiet (Y.loadBAll 1 rfl rfl rfl rfl) rfl ?_
  replace h := bnd h; obtain ⟨r3, hr4, h⟩ := h
  refine J.loud (Loud.callL body51 (t_ref01_Valid fuel v0 v1 z2 r3 hr4) rfl (LentAll.cons (Lent.fact 0 rfl) (LentAll.cons (Lent.fact 1 rfl) (LentAll.nil))) (fun _ _ => rfl)) rfl fun x5 => ?_
  refine J.quiet (Y.not rfl) rfl ?_
  refine J.done ?_
  refine J.thenN ?_
  refine J.cond (by exact rfl) (fun hp6 => ?_) (fun hp6 => ?_)
  · replace h := ifP hp6 h
    refine J.seq ?_
    refine J.region ?_
    refine J.quiet (Y.bld0 (r := Value.agg #[Value.slice none 0 0, Value.slice none 0 0]) (by intro w; simp [Instr.build, Instr.fill, cells_intV, cells_boolV, cells_sliceV, cells_ptrV, cells_strV, cells_funcV, cells_agg])) rfl ?_
    refine J.storeAll 0 (vs := [Value.slice none 0 0, Value.slice none 0 0]) rfl rfl rfl rfl rfl rfl ?_
    refine J.quiet (Y.assign rfl) rfl ?_
    refine J.done ?_
    refine J.thenN ?_
    refine J.ret ?_
    refine J.thenR ?_
    refine J.stp (Stp.nilAr EI64) ?_
    refine J.stp (Stp.nilAr Enc.raw) (J.stp (Stp.rowsNil EI64I64p) ?_)
    obtain rfl := Option.some.inj h
    exact J.retG2 ((Value.slice none 0 0), (Value.slice none 0 0), ([] : List Value)) rfl rfl (RV.cell 3 rfl rfl rfl rfl) (RV.tmp rfl) (SubM.cons 2 rfl (SubM.cons 1 rfl (SubM.cons 0 rfl (SubM.nil)))) LentAll.nil
  · replace h := ifBN hp6 h
    refine J.skip ?_
    refine J.thenN ?_
    refine J.seq ?_
    refine J.seq ?_
    refine J.midI (A := Bool) (B := Unit) (fun a8 => ref03_Connect_k1 fuel p0 p1 p2 p3 a8 = some r) (fun a8 b9 => [(1, Value.int .i64 (p1)), (2, Value.int .i64 (p2)), (3, Value.int .i64 (p3)), (4, Value.pointer (some ⟨b1, 0, none⟩)), (8, Value.pointer (some ⟨b2, 0, none⟩)), (31, Value.bool (a8))]) (fun a8 b9 => [Blk b2 [Value.slice none 0 0, Value.slice none 0 0] 26, Blk b1 [v0, v1] 26]) (fun a8 b9 => [Sl RI64 v0 p0.1, S2 RI64I64p v1 z2 p0.2]) ?_ ?_
    · refine J.region ?_
      refine J.quiet (Y.loadBAll 1 rfl rfl rfl rfl) rfl ?_
      refine J.quiet (Y.move rfl) rfl ?_
      refine J.quiet (Y.move rfl) rfl ?_
      replace h := bnd h; obtain ⟨r35, hr36, h⟩ := h
      refine J.loud (Loud.callL body96 (t_ref03_nodes fuel v0 v1 z2 r35 hr36) rfl (LentAll.cons (Lent.fact 0 rfl) (LentAll.cons (Lent.fact 1 rfl) (LentAll.nil))) (fun _ _ => rfl)) rfl fun x37 => ?_
      refine J.quiet (Y.not rfl) rfl ?_
      refine J.quiet (Y.move rfl) rfl ?_
      refine J.guard (by exact rfl) (by exact rfl) (fun hp38 => ?_) (fun hp38 => ?_)
      · replace h := ifP hp38 h
        refine J.guardN rfl rfl rfl ?_
        refine J.guardN rfl rfl rfl ?_
        refine J.guardN rfl rfl rfl ?_
        refine J.guardN rfl rfl rfl ?_
        refine J.guardN rfl rfl rfl ?_
        refine J.quiet (Y.pickT rfl rfl) rfl ?_
        refine J.quiet (Y.move rfl) rfl ?_
        refine J.guardN rfl rfl rfl ?_
        refine J.guardN rfl rfl rfl ?_
        refine J.guardN rfl rfl rfl ?_
        refine J.quiet (Y.pickT rfl rfl) rfl ?_
        refine J.done ?_
        refine J.thenN ?_
        exact J.meetI (true) (()) h (by repeat (first | exact SubF.nil | refine SubF.cons rfl ?_)) (SubM.refl _) (LentAll.refl _ _)
      · replace h := ifBN hp38 h
        refine J.guardY rfl (Y.loadBAll 1 rfl rfl rfl rfl) rfl ?_
        refine J.guardY rfl (Y.move rfl) rfl ?_
        refine J.guardY rfl (Y.move rfl) rfl ?_
        replace h := bnd h; obtain ⟨r39, hr40, h⟩ := h
        refine J.loudG rfl (Loud.callL body92 (t_ref01_Port fuel v0 v1 z2 r39 hr40) rfl (LentAll.cons (Lent.fact 0 rfl) (LentAll.cons (Lent.fact 1 rfl) (LentAll.nil))) (fun _ _ => rfl)) rfl fun x41 => ?_
        refine J.guardY rfl (Y.geq rfl rfl) rfl ?_
        refine J.quiet (Y.pickF rfl rfl) rfl ?_
        refine J.quiet (Y.move rfl) rfl ?_
        refine J.guardD (by exact rfl) (by exact rfl) (fun hp42 => ?_) (fun hp42 => ?_)
        · replace h := ifP hp42 h
          refine J.guardN rfl rfl rfl ?_
          refine J.guardN rfl rfl rfl ?_
          refine J.guardN rfl rfl rfl ?_
          refine J.quiet (Y.pickT rfl rfl) rfl ?_
          refine J.done ?_
          refine J.thenN ?_
          exact J.meetI (true) (()) h (by repeat (first | exact SubF.nil | refine SubF.cons rfl ?_)) (SubM.refl _) (LentAll.refl _ _)
        · replace h := ifN hp42 h
          refine J.guardY rfl (Y.move rfl) rfl ?_
          replace h := bnd h; obtain ⟨r43, hr44, h⟩ := h
          refine J.loudG rfl (Loud.callL body72 (t_ref01_In fuel  r43 hr44) rfl (LentAll.nil) (fun _ _ => rfl)) rfl fun x45 => ?_
          refine J.guardY rfl (Y.not rfl) rfl ?_
          refine J.quiet (Y.pickF rfl rfl) rfl ?_
          refine J.done ?_
          refine J.thenN ?_
          exact J.meetI ((!r43)) (()) h (by repeat (first | exact SubF.nil | refine SubF.cons rfl ?_)) (SubM.refl _) (LentAll.refl _ _)
    · clear h
      intro a8 b9 h
      unfold ref03_Connect_k1 at h
      refine J.cond (by exact rfl) (fun hp10 => ?_) (fun hp10 => ?_)
      · replace h := ifP hp10 h
        refine J.seq ?_
        refine J.region ?_
        refine J.quiet (Y.bld0 (r := Value.agg #[Value.slice none 0 0, Value.slice none 0 0]) (by intro w; simp [Instr.build, Instr.fill, cells_intV, cells_boolV, cells_sliceV, cells_ptrV, cells_strV, cells_funcV, cells_agg])) rfl ?_
        refine J.storeAll 0 (vs := [Value.slice none 0 0, Value.slice none 0 0]) rfl rfl rfl rfl rfl rfl ?_
        refine J.quiet (Y.assign rfl) rfl ?_
        refine J.done ?_
        refine J.thenN ?_
        refine J.ret ?_
        refine J.thenR ?_
        refine J.stp (Stp.nilAr EI64) ?_
        refine J.stp (Stp.nilAr Enc.raw) (J.stp (Stp.rowsNil EI64I64p) ?_)
        obtain rfl := Option.some.inj h
        exact J.retG2 ((Value.slice none 0 0), (Value.slice none 0 0), ([] : List Value)) rfl rfl (RV.cell 3 rfl rfl rfl rfl) (RV.tmp rfl) (SubM.cons 2 rfl (SubM.cons 1 rfl (SubM.cons 0 rfl (SubM.nil)))) LentAll.nil
      · replace h := ifBN hp10 h
        refine J.skip ?_
        refine J.thenN ?_
        refine J.seq ?_
        refine J.region ?_
        refine J.quiet (Y.loadBAll 1 rfl rfl rfl rfl) rfl ?_
        replace h := bnd h; obtain ⟨r11, hr12, h⟩ := h
        refine J.loud (Loud.callL body90 (t_ref03_Copy fuel v0 v1 z2 r11 hr12) rfl (LentAll.cons (Lent.fact 0 rfl) (LentAll.cons (Lent.fact 1 rfl) (LentAll.nil))) (fun _ _ => rfl)) rfl fun x13 => ?_
        refine J.loud (Loud.alloc (cs := [Value.slice none 0 0, Value.slice none 0 0]) rfl rfl) rfl fun b14 => ?_
        refine J.know (Know.one ((Lent.ar (Lent.res 1 rfl) FI64))) fun ho15 => ?_
        refine J.know (Know.one (Lent.sl (Lent.rows (i := 2) (j := 3) rfl rfl FI64I64p))) fun ho16 => ?_
        refine J.storeAll 0 (vs := [x13.1, x13.2.1]) rfl rfl (all1 ho15 (all1 ho16 rfl)) rfl rfl rfl ?_
        refine J.done ?_
        refine J.thenN ?_
        refine J.seq ?_
        refine JR.start [0, 1, 0, 0, 8, 0, 56, 120, 0, 0, 768, 1792, 4088, 8191, 16383] 13 mixedOrders (by decide +kernel) ?_
        refine JR.open (by exact rfl) ?_
        refine JR.qt rfl (SubM.nil) (SubL.nil) (Y.fieldB rfl rfl rfl rfl rfl) HistOk.z ?_
        refine JR.qt rfl (SubM.cons 0 rfl (SubM.nil)) (SubL.nil) (Y.loadB 0 rfl rfl rfl rfl rfl) HistOk.z ?_
        refine JR.qt rfl (SubM.nil) (SubL.nil) (Y.move rfl) HistOk.z ?_
        refine JR.qt rfl (SubM.nil) (SubL.nil) (Y.fieldB rfl rfl rfl rfl rfl) HistOk.z ?_
        refine JR.qt rfl (SubM.cons 0 rfl (SubM.nil)) (SubL.nil) (Y.loadB 0 rfl rfl rfl rfl rfl) HistOk.z ?_
        refine JR.qt rfl (SubM.nil) (SubL.nil) (Y.move rfl) HistOk.z ?_
        replace h := ck_some h; obtain ⟨hc17, h⟩ := h
        refine JR.qt rfl (SubM.cons 2 rfl (SubM.cons 2 rfl (SubM.nil))) (SubL.nil) (Y.indexN rfl rfl (Lent.rows (i := 0) (j := 1) rfl rfl FI64I64p) rfl rfl hc17) HistOk.z ?_
        refine JR.know (Know.rws 3 rfl) fun hl18 => ?_
        refine JR.qt rfl (SubM.cons 2 rfl (SubM.nil)) (SubL.nil) (Y.loadRaw 0 rfl rfl hl18 rfl rfl hc17) HistOk.z ?_
        refine JR.qt rfl (SubM.nil) (SubL.nil) (Y.move rfl) HistOk.z ?_
        refine JR.qt rfl (SubM.nil) (SubL.nil) (Y.move rfl) HistOk.z ?_
        refine JR.qt rfl (SubM.nil) (SubL.nil) (Y.bld2 (r := Value.agg #[Value.int .i64 (p2), Value.int .i64 (p3)]) rfl rfl (by intro w; simp [Instr.build, Instr.fill, cells_intV, cells_boolV, cells_sliceV, cells_ptrV, cells_strV, cells_funcV, cells_agg])) HistOk.z ?_
        refine JR.loud rfl rfl rfl (Loud.buildS (e := EI64I64p) ([((p2, p3))]) [(0, Value.agg #[Value.int .i64 (p2), Value.int .i64 (p3)])] rfl rfl rfl rfl (fill_1_2 (Value.int .i64 (p2)) (Value.int .i64 (p3))) rfl rfl rfl) rfl (fun u19 => (BsOk.b rfl (BsOk.b rfl (BsOk.b rfl (BsOk.h (SubM.cons 3 rfl (SubM.nil)) (SubL.nil) (BsOk.h (SubM.cons 3 rfl (SubM.cons 3 rfl (SubM.nil))) (SubL.nil) (BsOk.h (SubM.nil) (SubL.nil) (BsOk.h (SubM.cons 1 rfl (SubM.nil)) (SubL.nil) (BsOk.h (SubM.nil) (SubL.nil) (BsOk.h (SubM.nil) (SubL.nil) (BsOk.h (SubM.cons 1 rfl (SubM.nil)) (SubL.nil) (BsOk.h (SubM.nil) (SubL.nil) BsOk.z)))))))))))) fun u19 => ?_
        replace h := ck_some h; obtain ⟨hc21, h⟩ := h
        refine JR.loud rfl rfl rfl (Loud.appendRowL 4 FI64I64p rfl rfl rfl (Lent.ar (Lent.res 0 rfl) FI64I64p) rfl rfl rfl rfl hc17 hc21 rfl) rfl (fun u20 => (BsOk.b rfl (BsOk.b rfl (BsOk.b rfl (BsOk.b rfl (BsOk.b rfl (BsOk.b rfl (BsOk.b rfl (BsOk.b rfl (BsOk.h (SubM.nil) (SubL.nil) (BsOk.h (SubM.cons 1 rfl (SubM.nil)) (SubL.nil) (BsOk.h (SubM.nil) (SubL.nil) BsOk.z)))))))))))) fun u20 => ?_
        refine JR.tailD 13 rfl rfl ?_
        replace h := ck_some h; obtain ⟨hc22, h⟩ := h
        refine J.know (Know.rws 4 rfl) fun hl23 => ?_
        refine J.quiet (Y.indexA 3 rfl rfl rfl rfl rfl hc22.1 (by have q1 := hc22.2; have q2 := hl23; simp only [List.length_set] at q1 q2; omega)) rfl ?_
        refine J.know (Know.oneRow 4 (k := p1) rfl ⟨hc22.1, by simpa using hc22.2⟩) fun ho24 => ?_
        refine J.storeRow 3 4 ⟨hc22.1, by simpa using hc22.2⟩ rfl rfl rfl rfl rfl (by simp) ho24 rfl ?_
        refine J.done ?_
        refine J.thenN ?_
        refine J.seq ?_
        refine JR.start [0, 1, 0, 0, 8, 0, 56, 120, 0, 0, 768, 1792, 4088, 8191, 16383] 13 mixedOrders (by decide +kernel) ?_
        refine JR.open (by exact rfl) ?_
        refine JR.qt rfl (SubM.nil) (SubL.nil) (Y.fieldB rfl rfl rfl rfl rfl) HistOk.z ?_
        refine JR.qt rfl (SubM.cons 1 rfl (SubM.nil)) (SubL.nil) (Y.loadB 0 rfl rfl rfl rfl rfl) HistOk.z ?_
        refine JR.qt rfl (SubM.nil) (SubL.nil) (Y.move rfl) HistOk.z ?_
        refine JR.qt rfl (SubM.nil) (SubL.nil) (Y.fieldB rfl rfl rfl rfl rfl) HistOk.z ?_
        refine JR.qt rfl (SubM.cons 1 rfl (SubM.nil)) (SubL.nil) (Y.loadB 0 rfl rfl rfl rfl rfl) HistOk.z ?_
        refine JR.qt rfl (SubM.nil) (SubL.nil) (Y.move rfl) HistOk.z ?_
        replace h := ck_some h; obtain ⟨hc25, h⟩ := h
        refine JR.qt rfl (SubM.cons 3 rfl (SubM.cons 3 rfl (SubM.nil))) (SubL.nil) (Y.indexN rfl rfl (Lent.rows (i := 0) (j := 1) rfl rfl FI64I64p) rfl rfl hc25) HistOk.z ?_
        refine JR.know (Know.rws 4 rfl) fun hl26 => ?_
        refine JR.qt rfl (SubM.cons 3 rfl (SubM.nil)) (SubL.nil) (Y.loadRaw 0 rfl rfl hl26 rfl rfl hc25) HistOk.z ?_
        refine JR.qt rfl (SubM.nil) (SubL.nil) (Y.move rfl) HistOk.z ?_
        refine JR.qt rfl (SubM.nil) (SubL.nil) (Y.move rfl) HistOk.z ?_
        refine JR.qt rfl (SubM.nil) (SubL.nil) (Y.bld2 (r := Value.agg #[Value.int .i64 (p1), Value.int .i64 (p3)]) rfl rfl (by intro w; simp [Instr.build, Instr.fill, cells_intV, cells_boolV, cells_sliceV, cells_ptrV, cells_strV, cells_funcV, cells_agg])) HistOk.z ?_
        refine JR.loud rfl rfl rfl (Loud.buildS (e := EI64I64p) ([((p1, p3))]) [(0, Value.agg #[Value.int .i64 (p1), Value.int .i64 (p3)])] rfl rfl rfl rfl (fill_1_2 (Value.int .i64 (p1)) (Value.int .i64 (p3))) rfl rfl rfl) rfl (fun u27 => (BsOk.b rfl (BsOk.b rfl (BsOk.b rfl (BsOk.h (SubM.cons 4 rfl (SubM.nil)) (SubL.nil) (BsOk.h (SubM.cons 4 rfl (SubM.cons 4 rfl (SubM.nil))) (SubL.nil) (BsOk.h (SubM.nil) (SubL.nil) (BsOk.h (SubM.cons 2 rfl (SubM.nil)) (SubL.nil) (BsOk.h (SubM.nil) (SubL.nil) (BsOk.h (SubM.nil) (SubL.nil) (BsOk.h (SubM.cons 2 rfl (SubM.nil)) (SubL.nil) (BsOk.h (SubM.nil) (SubL.nil) BsOk.z)))))))))))) fun u27 => ?_
        replace h := ck_some h; obtain ⟨hc29, h⟩ := h
        refine JR.loud rfl rfl rfl (Loud.appendRowL 5 FI64I64p rfl rfl rfl (Lent.ar (Lent.res 0 rfl) FI64I64p) rfl rfl rfl rfl hc25 hc29 rfl) rfl (fun u28 => (BsOk.b rfl (BsOk.b rfl (BsOk.b rfl (BsOk.b rfl (BsOk.b rfl (BsOk.b rfl (BsOk.b rfl (BsOk.b rfl (BsOk.h (SubM.nil) (SubL.nil) (BsOk.h (SubM.cons 2 rfl (SubM.nil)) (SubL.nil) (BsOk.h (SubM.nil) (SubL.nil) BsOk.z)))))))))))) fun u28 => ?_
        refine JR.tailD 13 rfl rfl ?_
        replace h := ck_some h; obtain ⟨hc30, h⟩ := h
        refine J.know (Know.rws 5 rfl) fun hl31 => ?_
        refine J.quiet (Y.indexA 4 rfl rfl rfl rfl rfl hc30.1 (by have q1 := hc30.2; have q2 := hl31; simp only [List.length_set] at q1 q2; omega)) rfl ?_
        refine J.know (Know.oneRow 5 (k := p2) rfl ⟨hc30.1, by simpa using hc30.2⟩) fun ho32 => ?_
        refine J.storeRow 4 5 ⟨hc30.1, by simpa using hc30.2⟩ rfl rfl rfl rfl rfl (by simp) ho32 rfl ?_
        refine J.done ?_
        refine J.thenN ?_
        refine J.seq ?_
        refine J.region ?_
        refine J.quiet (Y.loadBAll 2 rfl rfl rfl rfl) rfl ?_
        refine J.know (Know.one ((Lent.ar (Lent.res 3 rfl) FI64))) fun ho33 => ?_
        refine J.know (Know.one (Lent.sl (Lent.rows (i := 4) (j := 5) rfl rfl FI64I64p))) fun ho34 => ?_
        refine J.storeAll 6 (vs := [x13.1, x13.2.1]) rfl rfl (all1 ho33 (all1 ho34 rfl)) rfl rfl rfl ?_
        refine J.quiet (Y.assign rfl) rfl ?_
        refine J.done ?_
        refine J.thenN ?_
        refine J.ret ?_
        obtain rfl := Option.some.inj h
        exact J.retG2 (x13.1, x13.2.1, (List.set (List.set x13.2.2 (Int.toNat p1) u20) (Int.toNat p2) u28)) rfl rfl (RV.cell 6 rfl rfl rfl rfl) (RV.tmp rfl) (SubM.cons 3 rfl (SubM.cons 3 rfl (SubM.cons 3 rfl (SubM.nil)))) LentAll.nil

end Go.Proofs.Ytemhmmcakmidkaa
end
section
set_option linter.unusedVariables false
set_option linter.unusedSimpArgs false
namespace Go.Proofs.Ytemhmmcakmidkaa
open Go.Sx
set_option linter.unusedVariables false
set_option linter.unusedSimpArgs false
def law03_FamilyCutsBack_k2  (a23 : Bool) : Option (Bool) :=
  some (a23)
def law03_FamilyCutsBack_k4 (fuel : Nat) (a48 : Unit) : Option (Bool) :=
  Option.bind (m_law03_awake fuel ) fun r50 => (some (r50))
def law03_FamilyCutsBack_k5 (a55 : Int) (ag54 : (Int) → Option (Bool)) (a60 : Bool) : Option (Bool) :=
  if a60 = true then (some (false)) else (ag54 (wI .i64 (a55 + (1 : Int))))
def law03_FamilyCutsBack_s1 (fuel : Nat) (r38 : List (Int)) (r41 : List (Int)) (a55 : Int) (ag54 : (Int) → Option (Bool)) : Option (Bool) :=
  if a55 < (List.length r38 : Int) then (ck (0 ≤ a55 ∧ a55 < (List.length r38 : Int)) (if (0 : Int) ≤ (at' r38 a55) then (ck (0 ≤ a55 ∧ a55 < (List.length r41 : Int)) (if (at' r41 a55) < (0 : Int) then (law03_FamilyCutsBack_k5 a55 ag54 (true)) else (ck (0 ≤ a55 ∧ a55 < (List.length r41 : Int)) (ck (0 ≤ a55 ∧ a55 < (List.length r38 : Int)) (law03_FamilyCutsBack_k5 a55 ag54 (decide ((at' r38 a55) < (at' r41 a55)))))))) else (law03_FamilyCutsBack_k5 a55 ag54 (false)))) else (law03_FamilyCutsBack_k4 fuel (()))
def law03_FamilyCutsBack_k3 (fuel : Nat) (r38 : List (Int)) (r41 : List (Int)) (a45 : Bool) : Option (Bool) :=
  if a45 = true then (some (false)) else (iter (law03_FamilyCutsBack_s1 fuel r38 r41) fuel (0 : Int))
def law03_FamilyCutsBack_k1 (fuel : Nat) (p0 : List (Int) × (List (List (Int × Int)))) (p1 : Int) (p2 : Int) (p3 : Int) (p4 : Int) (a3 : Bool) : Option (Bool) :=
  if a3 = true then (Option.bind (m_law03_awake fuel ) fun r6 => (some (r6))) else (Option.bind (m_family_Connect fuel ((p0.1, p0.2)) p1 p2 p3) fun r9 => (if r9.2 ≠ (0 : Int) then (Option.bind (m_ref03_Connect fuel ((p0.1, p0.2)) p1 p2 p3) fun r16 => (Option.bind (m_law03_awake fuel ) fun r25 => (if r25 = true then (law03_FamilyCutsBack_k2  (decide (r9.2 = r16.2))) else (law03_FamilyCutsBack_k2  (false))))) else (Option.bind (m_family_Cut fuel ((r9.1.1, r9.1.2)) p1 p2) fun r29 => (Option.bind (m_made_Mod fuel p4 (List.length p0.2 : Int)) fun r35 => (Option.bind (m_graph_Distances fuel ((p0.1, p0.2)) r35) fun r38 => (Option.bind (m_graph_Distances fuel ((r9.1.1, r9.1.2)) r35) fun r41 => (if r29.2 ≠ (0 : Int) then (law03_FamilyCutsBack_k3 fuel r38 r41 (true)) else (Option.bind (m_ref01_Same fuel ((p0.1, p0.2)) ((r29.1.1, r29.1.2))) fun r70 => (if (!r70) = true then (law03_FamilyCutsBack_k3 fuel r38 r41 (true)) else (if (List.length r38 : Int) ≠ (List.length p0.2 : Int) then (law03_FamilyCutsBack_k3 fuel r38 r41 (true)) else (law03_FamilyCutsBack_k3 fuel r38 r41 (decide ((List.length r41 : Int) ≠ (List.length r38 : Int))))))))))))))
def m_law03_FamilyCutsBack (fuel : Nat) (p0 : List (Int) × (List (List (Int × Int)))) (p1 : Int) (p2 : Int) (p3 : Int) (p4 : Int) : Option (Bool) :=
  Option.bind (m_made_LightGraph fuel ((p0.1, p0.2))) fun r75 => (if (!r75) = true then (law03_FamilyCutsBack_k1 fuel p0 p1 p2 p3 p4 (true)) else (Option.bind (m_ref01_Valid fuel ((p0.1, p0.2))) fun r79 => (law03_FamilyCutsBack_k1 fuel p0 p1 p2 p3 p4 ((!r79)))))

set_option maxHeartbeats 4000000 in
set_option maxRecDepth 20000 in
theorem t_law03_FamilyCutsBack (fuel : Nat) {p0 : List (Int) × (List (List (Int × Int)))} {p1 : Int} {p2 : Int} {p3 : Int} {p4 : Int} (v0 : Value)  (v1 : Value)  (z2 : List (Value × List (Int × Int))) (r : Bool) (h : m_law03_FamilyCutsBack fuel p0 p1 p2 p3 p4 = some r) :
    Meets Try.prog 17 #[Value.agg #[v0, v1], Value.int .i64 (p1), Value.int .i64 (p2), Value.int .i64 (p3), Value.int .i64 (p4)] [Sl RI64 v0 p0.1, S2 RI64I64p v1 z2 p0.2] (fun x : Unit => Value.bool (r)) (fun x l => l) (fun _ l => l) := by
  refine Meets.of (vs := [Value.agg #[v0, v1], Value.int .i64 (p1), Value.int .i64 (p2), Value.int .i64 (p3), Value.int .i64 (p4)]) Try.func17 rfl Try.ntmps17 rfl fun c => ?_
  unfold m_law03_FamilyCutsBack at h
  refine J.seq ?_
  refine J.region ?_
  refine J.loud (Loud.box (cs := [v0, v1]) rfl rfl) rfl fun b1 => ?_
  refine J.quiet (Y.assign rfl) rfl ?_
  refine J.done ?_
  refine J.thenN ?_
  refine J.seq ?_
  refine J.seq ?_
  refine J.midI (A := Bool) (B := Unit) (fun a3 => law03_FamilyCutsBack_k1 fuel p0 p1 p2 p3 p4 a3 = some r) (fun a3 b4 => [(1, Value.int .i64 (p1)), (2, Value.int .i64 (p2)), (3, Value.int .i64 (p3)), (4, Value.int .i64 (p4)), (5, Value.pointer (some ⟨b1, 0, none⟩)), (27, Value.bool (a3))]) (fun a3 b4 => [Blk b1 [v0, v1] 26]) (fun a3 b4 => [Sl RI64 v0 p0.1, S2 RI64I64p v1 z2 p0.2]) ?_ ?_
  · refine J.region ?_
    refine J.quiet (Y.loadBAll 0 rfl rfl rfl rfl) rfl ?_
    replace h := bnd h; obtain ⟨r75, hr76, h⟩ := h
    refine J.loud (Loud.callL body46 (t_made_LightGraph fuel v0 v1 z2 r75 hr76) rfl (LentAll.cons (Lent.fact 0 rfl) (LentAll.cons (Lent.fact 1 rfl) (LentAll.nil))) (fun _ _ => rfl)) rfl fun x77 => ?_
    refine J.quiet (Y.not rfl) rfl ?_
    refine J.quiet (Y.move rfl) rfl ?_
    refine J.guard (by exact rfl) (by exact rfl) (fun hp78 => ?_) (fun hp78 => ?_)
    · replace h := ifP hp78 h
      refine J.guardN rfl rfl rfl ?_
      refine J.guardN rfl rfl rfl ?_
      refine J.guardN rfl rfl rfl ?_
      refine J.quiet (Y.pickT rfl rfl) rfl ?_
      refine J.done ?_
      refine J.thenN ?_
      exact J.meetI (true) (()) h (by repeat (first | exact SubF.nil | refine SubF.cons rfl ?_)) (SubM.refl _) (LentAll.refl _ _)
    · replace h := ifBN hp78 h
      refine J.guardY rfl (Y.loadBAll 0 rfl rfl rfl rfl) rfl ?_
      replace h := bnd h; obtain ⟨r79, hr80, h⟩ := h
      refine J.loudG rfl (Loud.callL body51 (t_ref01_Valid fuel v0 v1 z2 r79 hr80) rfl (LentAll.cons (Lent.fact 0 rfl) (LentAll.cons (Lent.fact 1 rfl) (LentAll.nil))) (fun _ _ => rfl)) rfl fun x81 => ?_
      refine J.guardY rfl (Y.not rfl) rfl ?_
      refine J.quiet (Y.pickF rfl rfl) rfl ?_
      refine J.done ?_
      refine J.thenN ?_
      exact J.meetI ((!r79)) (()) h (by repeat (first | exact SubF.nil | refine SubF.cons rfl ?_)) (SubM.refl _) (LentAll.refl _ _)
  · clear h
    intro a3 b4 h
    unfold law03_FamilyCutsBack_k1 at h
    refine J.cond (by exact rfl) (fun hp5 => ?_) (fun hp5 => ?_)
    · replace h := ifP hp5 h
      refine J.seq ?_
      refine J.region ?_
      replace h := bnd h; obtain ⟨r6, hr7, h⟩ := h
      refine J.loud (Loud.callL body18 (t_law03_awake fuel  r6 hr7) rfl (LentAll.nil) (fun _ _ => rfl)) rfl fun x8 => ?_
      refine J.quiet (Y.assign rfl) rfl ?_
      refine J.done ?_
      refine J.thenN ?_
      refine J.ret ?_
      refine J.thenR ?_
      obtain rfl := Option.some.inj h
      exact J.retG1 (()) rfl rfl (RV.tmp rfl) (SubM.nil) LentAll.nil
    · replace h := ifBN hp5 h
      refine J.skip ?_
      refine J.thenN ?_
      refine J.seq ?_
      refine J.region ?_
      refine J.quiet (Y.loadBAll 0 rfl rfl rfl rfl) rfl ?_
      refine J.quiet (Y.move rfl) rfl ?_
      refine J.quiet (Y.move rfl) rfl ?_
      refine J.quiet (Y.move rfl) rfl ?_
      replace h := bnd h; obtain ⟨r9, hr10, h⟩ := h
      refine J.loud (Loud.callL body61 (t_family_Connect fuel v0 v1 z2 r9 hr10) rfl (LentAll.cons (Lent.fact 0 rfl) (LentAll.cons (Lent.fact 1 rfl) (LentAll.nil))) (fun _ _ => rfl)) rfl fun x11 => ?_
      refine J.quiet (Y.move rfl) rfl ?_
      refine J.quiet (Y.extract rfl rfl) rfl ?_
      refine J.quiet (Y.extract rfl rfl) rfl ?_
      refine J.loud (Loud.alloc (cs := [Value.slice none 0 0, Value.slice none 0 0]) rfl rfl) rfl fun b12 => ?_
      refine J.know (Know.one ((Lent.ar (Lent.res 1 rfl) FI64))) fun ho13 => ?_
      refine J.know (Know.one (Lent.sl (Lent.rows (i := 2) (j := 3) rfl rfl FI64I64p))) fun ho14 => ?_
      refine J.storeAll 0 (vs := [x11.1, x11.2.1]) rfl rfl (all1 ho13 (all1 ho14 rfl)) rfl rfl rfl ?_
      refine J.quiet (Y.assign rfl) rfl ?_
      refine J.done ?_
      refine J.thenN ?_
      refine J.seq ?_
      refine J.seq ?_
      refine J.region ?_
      refine J.quiet (Y.move rfl) rfl ?_
      refine J.quiet (Y.neq rfl rfl) rfl ?_
      refine J.done ?_
      refine J.thenN ?_
      refine J.condD (by exact rfl) (fun hp15 => ?_) (fun hp15 => ?_)
      · replace h := ifP hp15 h
        refine J.seq ?_
        refine J.region ?_
        refine J.quiet (Y.loadBAll 4 rfl rfl rfl rfl) rfl ?_
        refine J.quiet (Y.move rfl) rfl ?_
        refine J.quiet (Y.move rfl) rfl ?_
        refine J.quiet (Y.move rfl) rfl ?_
        replace h := bnd h; obtain ⟨r16, hr17, h⟩ := h
        refine J.loud (Loud.callL body62 (t_ref03_Connect fuel v0 v1 z2 r16 hr17) rfl (LentAll.cons (Lent.fact 0 rfl) (LentAll.cons (Lent.fact 1 rfl) (LentAll.nil))) (fun _ _ => rfl)) rfl fun x18 => ?_
        refine J.quiet (Y.move rfl) rfl ?_
        refine J.quiet (Y.extract rfl rfl) rfl ?_
        refine J.quiet (Y.extract rfl rfl) rfl ?_
        refine J.loud (Loud.alloc (cs := [Value.slice none 0 0, Value.slice none 0 0]) rfl rfl) rfl fun b19 => ?_
        refine J.know (Know.one ((Lent.ar (Lent.res 1 rfl) FI64))) fun ho20 => ?_
        refine J.know (Know.one (Lent.sl (Lent.rows (i := 2) (j := 3) rfl rfl FI64I64p))) fun ho21 => ?_
        refine J.storeAll 0 (vs := [x18.1, x18.2.1]) rfl rfl (all1 ho20 (all1 ho21 rfl)) rfl rfl rfl ?_
        refine J.quiet (Y.assign rfl) rfl ?_
        refine J.done ?_
        refine J.thenN ?_
        refine J.seq ?_
        refine J.midI (A := Bool) (B := Unit) (fun a23 => law03_FamilyCutsBack_k2  a23 = some r) (fun a23 b24 => [(10, Value.bool (a23))]) (fun a23 b24 => []) (fun a23 b24 => [Sl RI64 v0 p0.1, S2 RI64I64p v1 z2 p0.2]) ?_ ?_
        · refine J.region ?_
          replace h := bnd h; obtain ⟨r25, hr26, h⟩ := h
          refine J.loud (Loud.callL body18 (t_law03_awake fuel  r25 hr26) rfl (LentAll.nil) (fun _ _ => rfl)) rfl fun x27 => ?_
          refine J.quiet (Y.move rfl) rfl ?_
          refine J.guard (by exact rfl) (by exact rfl) (fun hp28 => ?_) (fun hp28 => ?_)
          · replace h := ifP hp28 h
            refine J.guardY rfl (Y.move rfl) rfl ?_
            refine J.guardY rfl (Y.move rfl) rfl ?_
            refine J.guardY rfl (Y.eql rfl rfl) rfl ?_
            refine J.quiet (Y.pickT rfl rfl) rfl ?_
            refine J.quiet (Y.assign rfl) rfl ?_
            refine J.done ?_
            refine J.thenN ?_
            exact J.meetI (decide (r9.2 = r16.2)) (()) h (by repeat (first | exact SubF.nil | refine SubF.cons rfl ?_)) (SubM.nil) (LentAll.refl _ _)
          · replace h := ifBN hp28 h
            refine J.guardN rfl rfl rfl ?_
            refine J.guardN rfl rfl rfl ?_
            refine J.guardN rfl rfl rfl ?_
            refine J.quiet (Y.pickF rfl rfl) rfl ?_
            refine J.quiet (Y.assign rfl) rfl ?_
            refine J.done ?_
            refine J.thenN ?_
            exact J.meetI (false) (()) h (by repeat (first | exact SubF.nil | refine SubF.cons rfl ?_)) (SubM.nil) (LentAll.refl _ _)
        · clear h
          intro a23 b24 h
          unfold law03_FamilyCutsBack_k2 at h
          refine J.ret ?_
          refine J.thenR ?_
          obtain rfl := Option.some.inj h
          exact J.retG1 (()) rfl rfl (RV.tmp rfl) (SubM.refl _) LentAll.nil
      · replace h := ifN hp15 h
        refine J.skip ?_
        refine J.thenN ?_
        refine J.seq ?_
        refine J.region ?_
        refine J.quiet (Y.loadBAll 0 rfl rfl rfl rfl) rfl ?_
        refine J.quiet (Y.move rfl) rfl ?_
        refine J.quiet (Y.move rfl) rfl ?_
        replace h := bnd h; obtain ⟨r29, hr30, h⟩ := h
        refine J.loud (Loud.callL body59 (t_family_Cut fuel x11.1 x11.2.1 (List.zip x11.2.2 r9.1.2) r29 hr30) rfl (LentAll.cons (Lent.ar (Lent.res 1 rfl) FI64) (LentAll.cons (Lent.rows (i := 2) (j := 3) rfl rfl FI64I64p) (LentAll.nil))) (fun _ _ => rfl)) rfl fun x31 => ?_
        refine J.quiet (Y.move rfl) rfl ?_
        refine J.quiet (Y.extract rfl rfl) rfl ?_
        refine J.quiet (Y.extract rfl rfl) rfl ?_
        refine J.loud (Loud.alloc (cs := [Value.slice none 0 0, Value.slice none 0 0]) rfl rfl) rfl fun b32 => ?_
        refine J.know (Know.one ((Lent.ar (Lent.res 1 rfl) FI64))) fun ho33 => ?_
        refine J.know (Know.one (Lent.sl (Lent.rows (i := 2) (j := 3) rfl rfl FI64I64p))) fun ho34 => ?_
        refine J.storeAll 0 (vs := [x31.1, x31.2.1]) rfl rfl (all1 ho33 (all1 ho34 rfl)) rfl rfl rfl ?_
        refine J.quiet (Y.assign rfl) rfl ?_
        refine J.done ?_
        refine J.thenN ?_
        refine J.seq ?_
        refine J.region ?_
        refine J.quiet (Y.move rfl) rfl ?_
        refine J.quiet (Y.fieldB rfl rfl rfl rfl rfl) rfl ?_
        refine J.quiet (Y.loadB 8 rfl rfl rfl rfl rfl) rfl ?_
        refine J.quiet (Y.lenN rfl (Lent.fact 1 rfl) rfl) rfl ?_
        replace h := bnd h; obtain ⟨r35, hr36, h⟩ := h
        refine J.loud (Loud.callL body34 (t_made_Mod fuel  r35 hr36) rfl (LentAll.nil) (fun _ _ => rfl)) rfl fun x37 => ?_
        refine J.quiet (Y.assign rfl) rfl ?_
        refine J.done ?_
        refine J.thenN ?_
        refine J.seq ?_
        refine JR.start [0, 0, 3, 0, 0, 31, 63, 127] 5 mixedOrders (by decide +kernel) ?_
        refine JR.open (by exact rfl) ?_
        refine JR.qt rfl (SubM.cons 8 rfl (SubM.nil)) (SubL.nil) (Y.loadBAll 0 rfl rfl rfl rfl) HistOk.z ?_
        refine JR.qt rfl (SubM.nil) (SubL.nil) (Y.move rfl) HistOk.z ?_
        replace h := bnd h; obtain ⟨r38, hr39, h⟩ := h
        refine JR.loud rfl rfl rfl (Loud.callL body35 (t_graph_Distances fuel v0 v1 z2 r38 hr39) rfl (LentAll.cons (Lent.fact 0 rfl) (LentAll.cons (Lent.fact 1 rfl) (LentAll.nil))) (fun _ _ => rfl)) rfl (fun x40 => (BsOk.b rfl (BsOk.b rfl BsOk.z))) fun x40 => ?_
        refine JR.qt rfl (SubM.cons 5 rfl (SubM.nil)) (SubL.nil) (Y.loadBAll 0 rfl rfl rfl rfl) (HistOk.h (SubM.cons 4 rfl (SubM.nil)) (SubL.nil) HistOk.z) ?_
        refine JR.qt rfl (SubM.nil) (SubL.nil) (Y.move rfl) (HistOk.h (SubM.nil) (SubL.nil) HistOk.z) ?_
        refine JR.tailD 5 rfl rfl ?_
        replace h := bnd h; obtain ⟨r41, hr42, h⟩ := h
        refine J.loud (Loud.callL body35 (t_graph_Distances fuel x11.1 x11.2.1 (List.zip x11.2.2 r9.1.2) r41 hr42) rfl (LentAll.cons (Lent.ar (Lent.res 6 rfl) FI64) (LentAll.cons (Lent.rows (i := 7) (j := 8) rfl rfl FI64I64p) (LentAll.nil))) (fun _ _ => rfl)) rfl fun x43 => ?_
        refine J.quiet (Y.assign rfl) rfl ?_
        refine J.quiet (Y.assign rfl) rfl ?_
        refine J.done ?_
        refine J.thenN ?_
        refine J.seq ?_
        refine J.seq ?_
        refine J.midI (A := Bool) (B := Unit) (fun a45 => law03_FamilyCutsBack_k3 fuel r38 r41 a45 = some r) (fun a45 b46 => [(17, x40), (18, x43), (93, Value.bool (a45))]) (fun a45 b46 => [Ar EI64 x43 r41, Ar EI64 x40 r38]) (fun a45 b46 => [Sl RI64 v0 p0.1, S2 RI64I64p v1 z2 p0.2]) ?_ ?_
        · refine J.region ?_
          refine J.quiet (Y.move rfl) rfl ?_
          refine J.quiet (Y.neq rfl rfl) rfl ?_
          refine J.quiet (Y.move rfl) rfl ?_
          refine J.guardD (by exact rfl) (by exact rfl) (fun hp69 => ?_) (fun hp69 => ?_)
          · replace h := ifP hp69 h
            refine J.guardN rfl rfl rfl ?_
            refine J.guardN rfl rfl rfl ?_
            refine J.guardN rfl rfl rfl ?_
            refine J.guardN rfl rfl rfl ?_
            refine J.quiet (Y.pickT rfl rfl) rfl ?_
            refine J.quiet (Y.move rfl) rfl ?_
            refine J.guardN rfl rfl rfl ?_
            refine J.guardN rfl rfl rfl ?_
            refine J.guardN rfl rfl rfl ?_
            refine J.guardN rfl rfl rfl ?_
            refine J.guardN rfl rfl rfl ?_
            refine J.guardN rfl rfl rfl ?_
            refine J.quiet (Y.pickT rfl rfl) rfl ?_
            refine J.quiet (Y.move rfl) rfl ?_
            refine J.guardN rfl rfl rfl ?_
            refine J.guardN rfl rfl rfl ?_
            refine J.guardN rfl rfl rfl ?_
            refine J.guardN rfl rfl rfl ?_
            refine J.guardN rfl rfl rfl ?_
            refine J.quiet (Y.pickT rfl rfl) rfl ?_
            refine J.done ?_
            refine J.thenN ?_
            exact J.meetI (true) (()) h (by repeat (first | exact SubF.nil | refine SubF.cons rfl ?_)) (SubM.cons 0 rfl (SubM.cons 0 rfl (SubM.nil))) (LentAll.refl _ _)
          · replace h := ifN hp69 h
            refine J.guardY rfl (Y.loadBAll 10 rfl rfl rfl rfl) rfl ?_
            refine J.guardY rfl (Y.loadBAll 2 rfl rfl rfl rfl) rfl ?_
            replace h := bnd h; obtain ⟨r70, hr71, h⟩ := h
            refine J.loudG rfl (Loud.callL body21 (t_ref01_Same fuel v0 v1 z2 x31.1 x31.2.1 (List.zip x31.2.2 r29.1.2) r70 hr71) rfl (LentAll.cons (Lent.fact 0 rfl) (LentAll.cons (Lent.fact 1 rfl) (LentAll.cons (Lent.ar (Lent.res 3 rfl) FI64) (LentAll.cons (Lent.rows (i := 4) (j := 5) rfl rfl FI64I64p) (LentAll.nil))))) (fun _ _ => rfl)) rfl fun x72 => ?_
            refine J.guardY rfl (Y.not rfl) rfl ?_
            refine J.quiet (Y.pickF rfl rfl) rfl ?_
            refine J.quiet (Y.move rfl) rfl ?_
            refine J.guard (by exact rfl) (by exact rfl) (fun hp73 => ?_) (fun hp73 => ?_)
            · replace h := ifP hp73 h
              refine J.guardN rfl rfl rfl ?_
              refine J.guardN rfl rfl rfl ?_
              refine J.guardN rfl rfl rfl ?_
              refine J.guardN rfl rfl rfl ?_
              refine J.guardN rfl rfl rfl ?_
              refine J.guardN rfl rfl rfl ?_
              refine J.quiet (Y.pickT rfl rfl) rfl ?_
              refine J.quiet (Y.move rfl) rfl ?_
              refine J.guardN rfl rfl rfl ?_
              refine J.guardN rfl rfl rfl ?_
              refine J.guardN rfl rfl rfl ?_
              refine J.guardN rfl rfl rfl ?_
              refine J.guardN rfl rfl rfl ?_
              refine J.quiet (Y.pickT rfl rfl) rfl ?_
              refine J.done ?_
              refine J.thenN ?_
              exact J.meetI (true) (()) h (by repeat (first | exact SubF.nil | refine SubF.cons rfl ?_)) (SubM.cons 0 rfl (SubM.cons 0 rfl (SubM.nil))) (LentAll.refl _ _)
            · replace h := ifBN hp73 h
              refine J.guardY rfl (Y.move rfl) rfl ?_
              refine J.guardY rfl (Y.lenS rfl (Lent.ar (Lent.res 1 rfl) FI64) rfl) rfl ?_
              refine J.guardY rfl (Y.fieldB rfl rfl rfl rfl rfl) rfl ?_
              refine J.guardY rfl (Y.loadB 10 rfl rfl rfl rfl rfl) rfl ?_
              refine J.guardY rfl (Y.lenN rfl (Lent.fact 1 rfl) rfl) rfl ?_
              refine J.guardY rfl (Y.neq rfl rfl) rfl ?_
              refine J.quiet (Y.pickF rfl rfl) rfl ?_
              refine J.quiet (Y.move rfl) rfl ?_
              refine J.guardD (by exact rfl) (by exact rfl) (fun hp74 => ?_) (fun hp74 => ?_)
              · replace h := ifP hp74 h
                refine J.guardN rfl rfl rfl ?_
                refine J.guardN rfl rfl rfl ?_
                refine J.guardN rfl rfl rfl ?_
                refine J.guardN rfl rfl rfl ?_
                refine J.guardN rfl rfl rfl ?_
                refine J.quiet (Y.pickT rfl rfl) rfl ?_
                refine J.done ?_
                refine J.thenN ?_
                exact J.meetI (true) (()) h (by repeat (first | exact SubF.nil | refine SubF.cons rfl ?_)) (SubM.cons 0 rfl (SubM.cons 0 rfl (SubM.nil))) (LentAll.refl _ _)
              · replace h := ifN hp74 h
                refine J.guardY rfl (Y.move rfl) rfl ?_
                refine J.guardY rfl (Y.lenS rfl (Lent.ar (Lent.res 0 rfl) FI64) rfl) rfl ?_
                refine J.guardY rfl (Y.move rfl) rfl ?_
                refine J.guardY rfl (Y.lenS rfl (Lent.ar (Lent.res 1 rfl) FI64) rfl) rfl ?_
                refine J.guardY rfl (Y.neq rfl rfl) rfl ?_
                refine J.quiet (Y.pickF rfl rfl) rfl ?_
                refine J.done ?_
                refine J.thenN ?_
                exact J.meetI (decide ((List.length r41 : Int) ≠ (List.length r38 : Int))) (()) h (by repeat (first | exact SubF.nil | refine SubF.cons rfl ?_)) (SubM.cons 0 rfl (SubM.cons 0 rfl (SubM.nil))) (LentAll.refl _ _)
        · clear h
          intro a45 b46 h
          unfold law03_FamilyCutsBack_k3 at h
          refine J.cond (by exact rfl) (fun hp47 => ?_) (fun hp47 => ?_)
          · replace h := ifP hp47 h
            refine J.seq ?_
            refine J.region ?_
            refine J.quiet (Y.assign rfl) rfl ?_
            refine J.done ?_
            refine J.thenN ?_
            refine J.ret ?_
            refine J.thenR ?_
            obtain rfl := Option.some.inj h
            exact J.retG1 (()) rfl rfl (RV.tmp rfl) (SubM.nil) LentAll.nil
          · replace h := ifBN hp47 h
            refine J.skip ?_
            refine J.thenN ?_
            refine J.seq ?_
            refine J.midI (A := Unit) (B := Unit) (fun a48 => law03_FamilyCutsBack_k4 fuel a48 = some r) (fun a48 b49 => []) (fun a48 b49 => []) (fun a48 b49 => [Sl RI64 v0 p0.1, S2 RI64I64p v1 z2 p0.2]) ?_ ?_
            · refine J.seq ?_
              refine J.region ?_
              refine J.quiet (Y.assign rfl) rfl ?_
              refine J.done ?_
              refine J.thenN ?_
              refine J.block ?_
              refine J.loopI (A := Int) (B := Unit) (law03_FamilyCutsBack_s1 fuel r38 r41) (fun a55 b56 => [(17, x40), (18, x43), (19, Value.int .i64 (a55))]) (fun a55 b56 => [Ar EI64 x43 r41, Ar EI64 x40 r38]) (fun a55 b56 => [Sl RI64 v0 p0.1, S2 RI64I64p v1 z2 p0.2]) (0 : Int) (()) h (by repeat (first | exact SubF.nil | refine SubF.cons rfl ?_)) (SubM.refl _) (LentAll.refl _ _) ?_
              clear h
              intro k57 a55 b56 h
              unfold law03_FamilyCutsBack_s1 at h
              refine J.seq ?_
              refine J.seq ?_
              refine J.region ?_
              refine J.quiet (Y.move rfl) rfl ?_
              refine J.quiet (Y.move rfl) rfl ?_
              refine J.quiet (Y.lenS rfl (Lent.ar (Lent.res 1 rfl) FI64) rfl) rfl ?_
              refine J.quiet (Y.lss rfl rfl) rfl ?_
              refine J.done ?_
              refine J.thenN ?_
              refine J.condD (by exact rfl) (fun hp58 => ?_) (fun hp58 => ?_)
              · replace h := ifP hp58 h
                refine J.skip ?_
                refine J.thenN ?_
                refine J.seq ?_
                refine J.block ?_
                refine J.seq ?_
                refine J.midI (A := Bool) (B := Unit) (fun a60 => law03_FamilyCutsBack_k5 a55 (iter (law03_FamilyCutsBack_s1 fuel r38 r41) k57) a60 = some r) (fun a60 b61 => [(17, x40), (18, x43), (19, Value.int .i64 (a55)), (122, Value.bool (a60))]) (fun a60 b61 => [Ar EI64 x43 r41, Ar EI64 x40 r38]) (fun a60 b61 => [Sl RI64 v0 p0.1, S2 RI64I64p v1 z2 p0.2]) ?_ ?_
                · refine JR.start [0, 0, 3, 7, 15, 31, 63, 63, 255, 511, 1023, 2047, 4095, 4095, 16383, 32767, 4095, 4095, 200703, 462847, 1048575, 2097151, 4194303] 20 mixedOrders (by decide +kernel) ?_
                  refine JR.open (by exact rfl) ?_
                  refine JR.qt rfl (SubM.nil) (SubL.nil) (Y.move rfl) HistOk.z ?_
                  refine JR.qt rfl (SubM.nil) (SubL.nil) (Y.move rfl) HistOk.z ?_
                  replace h := ck_some h; obtain ⟨hc63, h⟩ := h
                  refine JR.qt rfl (SubM.cons 1 rfl (SubM.nil)) (SubL.nil) (Y.indexS rfl rfl (Lent.ar (Lent.res 0 rfl) FI64) rfl rfl hc63) HistOk.z ?_
                  refine JR.qt rfl (SubM.cons 1 rfl (SubM.nil)) (SubL.nil) (Y.loadS0 rfl (Lent.ar (Lent.res 0 rfl) FI64) rfl rfl rfl RI64c0 hc63) HistOk.z ?_
                  refine JR.qt rfl (SubM.nil) (SubL.nil) (Y.geq rfl rfl) HistOk.z ?_
                  refine JR.qt rfl (SubM.nil) (SubL.nil) (Y.move rfl) HistOk.z ?_
                  refine JR.guardD (by exact rfl) (by exact rfl) (by exact rfl) (fun hp64 => ?_) (fun hp64 => ?_)
                  · replace h := ifP hp64 h
                    refine JR.qtG rfl (SubM.nil) (SubL.nil) (Y.move rfl) HistOk.z ?_
                    refine JR.qtG rfl (SubM.nil) (SubL.nil) (Y.move rfl) HistOk.z ?_
                    replace h := ck_some h; obtain ⟨hc65, h⟩ := h
                    refine JR.qtG rfl (SubM.cons 0 rfl (SubM.nil)) (SubL.nil) (Y.indexS rfl rfl (Lent.ar (Lent.res 0 rfl) FI64) rfl rfl hc65) HistOk.z ?_
                    refine JR.qtG rfl (SubM.cons 0 rfl (SubM.nil)) (SubL.nil) (Y.loadS0 rfl (Lent.ar (Lent.res 0 rfl) FI64) rfl rfl rfl RI64c0 hc65) HistOk.z ?_
                    refine JR.qtG rfl (SubM.nil) (SubL.nil) (Y.lss rfl rfl) HistOk.z ?_
                    refine JR.qtG rfl (SubM.nil) (SubL.nil) (Y.move rfl) HistOk.z ?_
                    refine JR.guardD (by exact rfl) (by exact rfl) (by exact rfl) (fun hp66 => ?_) (fun hp66 => ?_)
                    · replace h := ifP hp66 h
                      refine JR.guardN rfl rfl rfl rfl ?_
                      refine JR.guardN rfl rfl rfl rfl ?_
                      refine JR.guardN rfl rfl rfl rfl ?_
                      refine JR.guardN rfl rfl rfl rfl ?_
                      refine JR.guardN rfl rfl rfl rfl ?_
                      refine JR.guardN rfl rfl rfl rfl ?_
                      refine JR.guardN rfl rfl rfl rfl ?_
                      refine JR.guardN rfl rfl rfl rfl ?_
                      refine JR.tailD 20 rfl rfl ?_
                      refine J.guardN rfl rfl rfl ?_
                      refine J.guardY rfl (Y.pickT rfl rfl) rfl ?_
                      refine J.quiet (Y.pickT rfl rfl) rfl ?_
                      refine J.done ?_
                      refine J.thenN ?_
                      exact J.meetI (true) (()) h (by repeat (first | exact SubF.nil | refine SubF.cons rfl ?_)) (SubM.refl _) (LentAll.refl _ _)
                    · replace h := ifN hp66 h
                      refine JR.qtG rfl (SubM.nil) (SubL.nil) (Y.move rfl) HistOk.z ?_
                      refine JR.qtG rfl (SubM.nil) (SubL.nil) (Y.move rfl) HistOk.z ?_
                      replace h := ck_some h; obtain ⟨hc67, h⟩ := h
                      refine JR.qtG rfl (SubM.cons 0 rfl (SubM.nil)) (SubL.nil) (Y.indexS rfl rfl (Lent.ar (Lent.res 0 rfl) FI64) rfl rfl hc67) HistOk.z ?_
                      refine JR.qtG rfl (SubM.cons 0 rfl (SubM.nil)) (SubL.nil) (Y.loadS0 rfl (Lent.ar (Lent.res 0 rfl) FI64) rfl rfl rfl RI64c0 hc67) HistOk.z ?_
                      refine JR.qtG rfl (SubM.nil) (SubL.nil) (Y.move rfl) HistOk.z ?_
                      refine JR.qtG rfl (SubM.nil) (SubL.nil) (Y.move rfl) HistOk.z ?_
                      replace h := ck_some h; obtain ⟨hc68, h⟩ := h
                      refine JR.qtG rfl (SubM.cons 1 rfl (SubM.nil)) (SubL.nil) (Y.indexS rfl rfl (Lent.ar (Lent.res 0 rfl) FI64) rfl rfl hc68) HistOk.z ?_
                      refine JR.qtG rfl (SubM.cons 1 rfl (SubM.nil)) (SubL.nil) (Y.loadS0 rfl (Lent.ar (Lent.res 0 rfl) FI64) rfl rfl rfl RI64c0 hc68) HistOk.z ?_
                      refine JR.tailD 20 rfl rfl ?_
                      refine J.guardY rfl (Y.gtr rfl rfl) rfl ?_
                      refine J.guardY rfl (Y.pickF rfl rfl) rfl ?_
                      refine J.quiet (Y.pickT rfl rfl) rfl ?_
                      refine J.done ?_
                      refine J.thenN ?_
                      exact J.meetI (decide ((at' r38 a55) < (at' r41 a55))) (()) h (by repeat (first | exact SubF.nil | refine SubF.cons rfl ?_)) (SubM.refl _) (LentAll.refl _ _)
                  · replace h := ifN hp64 h
                    refine JR.guardN rfl rfl rfl rfl ?_
                    refine JR.guardN rfl rfl rfl rfl ?_
                    refine JR.guardN rfl rfl rfl rfl ?_
                    refine JR.guardN rfl rfl rfl rfl ?_
                    refine JR.guardN rfl rfl rfl rfl ?_
                    refine JR.guardN rfl rfl rfl rfl ?_
                    refine JR.qu (h := ?_)
                    refine JR.qu (h := ?_)
                    refine JR.qu (h := ?_)
                    refine JR.qu (h := ?_)
                    refine JR.qu (h := ?_)
                    refine JR.qu (h := ?_)
                    refine JR.qu (h := ?_)
                    refine JR.qu (h := ?_)
                    refine JR.tailD 20 rfl rfl ?_
                    refine J.qu (h := ?_)
                    refine J.guardN rfl rfl rfl ?_
                    refine J.quiet (Y.pickF rfl rfl) rfl ?_
                    refine J.done ?_
                    refine J.thenN ?_
                    exact J.meetI (false) (()) h (by repeat (first | exact SubF.nil | refine SubF.cons rfl ?_)) (SubM.refl _) (LentAll.refl _ _)
                · clear h
                  intro a60 b61 h
                  unfold law03_FamilyCutsBack_k5 at h
                  refine J.cond (by exact rfl) (fun hp62 => ?_) (fun hp62 => ?_)
                  · replace h := ifP hp62 h
                    refine J.seq ?_
                    refine J.region ?_
                    refine J.quiet (Y.assign rfl) rfl ?_
                    refine J.done ?_
                    refine J.thenN ?_
                    refine J.ret ?_
                    refine J.inR ?_
                    refine J.thenR ?_
                    refine J.thenR ?_
                    refine J.inR ?_
                    refine J.thenR ?_
                    obtain rfl := Option.some.inj h
                    exact J.retG1 (()) rfl rfl (RV.tmp rfl) (SubM.nil) LentAll.nil
                  · replace h := ifBN hp62 h
                    refine J.skip ?_
                    refine J.inN ?_
                    refine J.thenN ?_
                    refine J.region ?_
                    refine J.quiet (Y.move rfl) rfl ?_
                    refine J.quiet (Y.addW rfl rfl) rfl ?_
                    refine J.quiet (Y.assign rfl) rfl ?_
                    refine J.done ?_
                    refine J.thenN ?_
                    exact J.againI (wI .i64 (a55 + (1 : Int))) (()) h (by repeat (first | exact SubF.nil | refine SubF.cons rfl ?_)) (SubM.refl _) (LentAll.refl _ _)
              · replace h := ifN hp58 h
                refine J.exit ?_
                refine J.thenX ?_
                refine J.thenX ?_
                refine J.inX ?_
                refine J.thenN ?_
                exact J.meetI (()) (()) h (by repeat (first | exact SubF.nil | refine SubF.cons rfl ?_)) (SubM.nil) (LentAll.refl _ _)
            · clear h
              intro a48 b49 h
              unfold law03_FamilyCutsBack_k4 at h
              refine J.seq ?_
              refine J.region ?_
              replace h := bnd h; obtain ⟨r50, hr51, h⟩ := h
              refine J.loud (Loud.callL body18 (t_law03_awake fuel  r50 hr51) rfl (LentAll.nil) (fun _ _ => rfl)) rfl fun x52 => ?_
              refine J.quiet (Y.assign rfl) rfl ?_
              refine J.done ?_
              refine J.thenN ?_
              refine J.ret ?_
              obtain rfl := Option.some.inj h
              exact J.retG1 (()) rfl rfl (RV.tmp rfl) (SubM.refl _) LentAll.nil

end Go.Proofs.Ytemhmmcakmidkaa
end
section
set_option linter.unusedVariables false
set_option linter.unusedSimpArgs false
namespace Go.Proofs.Ytemhmmcakmidkaa
open Go.Sx
def del (l : List (Int × Int)) (i : Nat) : List (Int × Int) := l.take i ++ l.drop (i + 1)

theorem delete_eq (l : List (Int × Int)) {i : Nat} (hi : i < l.length) (hl : l.length ≤ 900) : m_slices_Delete 1000 l (i : Int) (wI .i64 ((i : Int) + 1)) = some (del l i) := by
  unfold m_slices_Delete
  rw [wr (by omega) (by omega), ckT (by omega), if_neg (by omega), ckT (by omega), ckT (by omega), ckT (by omega), Int.toNat_natCast, show ((i : Int) + 1).toNat = i + 1 by omega]
  rfl

/-- two different nodes -/
def Two (g : GR) (a b : Int) : Prop := 0 ≤ a ∧ a < g.2.length ∧ 0 ≤ b ∧ b < g.2.length ∧ a ≠ b

theorem nodes_eq {g : GR} (hV : VG g) (a b : Int) : (Two g a b → m_ref03_nodes 1000 g a b = some true) ∧ (¬ Two g a b → m_ref03_nodes 1000 g a b = some false) := by
  have h24 := hV.n24
  unfold m_ref03_nodes ref03_nodes_k1 Two
  rw [wr (by omega) (by omega), refIn_eq, bindS rfl]
  by_cases h1 : 0 ≤ a ∧ a ≤ (g.2.length : Int) - 1
  · rw [if_pos (decide_eq_true h1), refIn_eq, bindS rfl]
    by_cases h2 : 0 ≤ b ∧ b ≤ (g.2.length : Int) - 1
    · rw [if_pos (decide_eq_true h2)]
      by_cases h3 : a ≠ b
      · rw [decide_eq_true h3]; exact ⟨fun _ => rfl, fun h => absurd ⟨h1.1, by omega, h2.1, by omega, h3⟩ h⟩
      · rw [decide_eq_false h3]; exact ⟨fun h => absurd h.2.2.2.2 h3, fun _ => rfl⟩
    · rw [if_neg (by simpa using h2)]; exact ⟨fun h => absurd ⟨h.2.2.1, by omega⟩ h2, fun _ => rfl⟩
  · rw [if_neg (by simpa using h1)]; exact ⟨fun h => absurd ⟨h.1, by omega⟩ h1, fun _ => rfl⟩

theorem ends_eq {g : GR} (hV : VG g) (a b : Int) : (Two g a b → m_family_ends 1000 g a b = some (((a, b), (b, a)), true)) ∧ (¬ Two g a b → m_family_ends 1000 g a b = some (((0, 0), (0, 0)), false)) := by
  have hlen := hV.len
  unfold m_family_ends family_ends_k1 Two
  by_cases h1 : a < 0
  · rw [if_pos h1, if_pos rfl]; exact ⟨fun h => by omega, fun _ => rfl⟩
  rw [if_neg h1]
  by_cases h2 : (g.1.length : Int) ≤ a
  · rw [if_pos h2, if_pos rfl]; exact ⟨fun h => by omega, fun _ => rfl⟩
  rw [if_neg h2]
  by_cases h3 : b < 0
  · rw [if_pos h3, if_pos rfl]; exact ⟨fun h => by omega, fun _ => rfl⟩
  rw [if_neg h3]
  by_cases h4 : (g.1.length : Int) ≤ b
  · rw [if_pos h4, if_pos rfl]; exact ⟨fun h => by omega, fun _ => rfl⟩
  rw [if_neg h4]
  by_cases h5 : a = b
  · rw [decide_eq_true h5, if_pos rfl]; exact ⟨fun h => by omega, fun _ => rfl⟩
  · rw [decide_eq_false h5, if_neg (by simp)]; exact ⟨fun _ => rfl, fun h => absurd ⟨by omega, by omega, by omega, by omega, h5⟩ h⟩

theorem iter_unroll {X R : Type} (step : X → (X → Option R) → Option R) (k : Nat) (x : X) : iter step (k + 1) x = step x (iter step k) := rfl

/-! ## the graphs that are made -/
def cutG (g : GR) (a b i j : Nat) : GR := (g.1, (g.2.set a (del (row g a) i)).set b (del (row g b) j))
def conG (g : GR) (a b : Nat) (w : Int) : GR := (g.1, (g.2.set a (row g a ++ [((b : Int), w)])).set b (row g b ++ [((a : Int), w)]))

theorem row_set2 (g : GR) (a b : Nat) (x y : List (Int × Int)) (ha : a < g.2.length) (hb : b < g.2.length) (v : Nat) : at' ((g.2.set a x).set b y) (v : Int) = if v = b then y else if v = a then x else row g v := by
  rw [at_set _ _ _ _ (by simpa using hb)]
  by_cases h : v = b
  · rw [if_pos h, if_pos h]
  · rw [if_neg h, if_neg h, at_set _ _ _ _ ha]

theorem famCut_ok {g : GR} (hV : VG g) {a b i j : Nat} (ha : a < g.2.length) (hb : b < g.2.length) (hab : a ≠ b) (hi : i < (row g a).length) (hpi : portOf (row g a) (b : Int) = i) (hj : j < (row g b).length) (hpj : portOf (row g b) (a : Int) = j) :
    m_family_Cut 1000 g a b = some (cutG g a b i j, 0) := by
  have h24 := hV.n24
  have hlen := hV.len
  have da := (hV.node a ha).deg
  have db := (hV.node b hb).deg
  have hT : Two g a b := ⟨by omega, by omega, by omega, by omega, by omega⟩
  have p1 := portTo_eq g a (b : Int) ha (by omega)
  have p2 := portTo_eq g b (a : Int) hb (by omega)
  rw [hpi] at p1
  rw [hpj] at p2
  have hc2 := copied_eq g.2 (by omega) (fun v hv => by have := (hV.node v hv).deg; have q : (at' g.2 (v : Int)).length = (row g v).length := rfl; omega)
  unfold m_family_Cut
  rw [bindS ((valid_eq g hV.light).1 hV), if_neg (by simp), bindS ((ends_eq hV a b).1 hT), if_neg (by simp), bindS p1, decide_eq_false (by omega)]
  unfold family_Cut_k1
  rw [if_neg (by simp), bindS (clone_eq g.1 (by omega)), bindS hc2]
  unfold family_Cut_k2
  dsimp only
  have q1 : (at' g.2 (a : Int)).length = (row g a).length := rfl
  have q2 : (at' g.2 (b : Int)).length = (row g b).length := rfl
  have hrow : at' (g.2.set a (del (row g a) i)) (b : Int) = row g b := by rw [at_set _ _ _ _ ha, if_neg (by omega)]
  have r0 : ∀ ag, family_Cut_s1 1000 g (((a, b), (b, a)), true) (g.2, g.1) ((0 : Int), g.2) ag = ag ((1 : Int), g.2.set a (del (row g a) i)) := by
    intro ag
    unfold family_Cut_s1
    dsimp only
    rw [if_pos (by omega), ckT (by omega), show at' [(a : Int), (b : Int)] ((Int.toNat 0 : Nat) : Int) = (a : Int) from rfl, show at' [(b : Int), (a : Int)] ((Int.toNat 0 : Nat) : Int) = (b : Int) from rfl, bindS p1, ckT (by omega), bindS (delete_eq _ (by omega) (by omega)), ckT (by simp; omega), wr (by omega) (by omega), Int.toNat_natCast]
    rfl
  have r1 : ∀ ag, family_Cut_s1 1000 g (((a, b), (b, a)), true) (g.2, g.1) ((1 : Int), g.2.set a (del (row g a) i)) ag = ag ((2 : Int), (g.2.set a (del (row g a) i)).set b (del (row g b) j)) := by
    intro ag
    unfold family_Cut_s1
    dsimp only
    rw [if_pos (by omega), ckT (by omega), show at' [(a : Int), (b : Int)] ((Int.toNat 1 : Nat) : Int) = (b : Int) from rfl, show at' [(b : Int), (a : Int)] ((Int.toNat 1 : Nat) : Int) = (a : Int) from rfl, bindS p2, ckT (by simp; omega), hrow, bindS (delete_eq _ hj (by omega)), ckT (by simp; omega), wr (by omega) (by omega), Int.toNat_natCast]
    rfl
  have r2 : ∀ ag, family_Cut_s1 1000 g (((a, b), (b, a)), true) (g.2, g.1) ((2 : Int), (g.2.set a (del (row g a) i)).set b (del (row g b) j)) ag = some (cutG g a b i j, 0) := by
    intro ag
    unfold family_Cut_s1
    dsimp only
    rw [if_neg (by omega)]
    rfl
  rw [show (1000 : Nat) = 999 + 1 from rfl, iter_unroll]
  show family_Cut_s1 1000 g _ _ _ (iter (family_Cut_s1 1000 g _ _) (998 + 1)) = _
  rw [r0, iter_unroll]
  show family_Cut_s1 1000 g _ _ _ (iter (family_Cut_s1 1000 g _ _) (997 + 1)) = _
  rw [r1, iter_unroll]
  exact r2 _

/-! ## a new link -/
theorem famCon_ok {g : GR} (hV : VG g) {a b : Nat} {w : Int} (ha : a < g.2.length) (hb : b < g.2.length) (hab : a ≠ b) (hp : portOf (row g a) (b : Int) = -1) (hw : 1 ≤ w ∧ w ≤ 15) : m_family_Connect 1000 g a b w = some (conG g a b w, 0) := by
  have h24 := hV.n24
  have hlen := hV.len
  have da := (hV.node a ha).deg
  have db := (hV.node b hb).deg
  have hT : Two g a b := ⟨by omega, by omega, by omega, by omega, by omega⟩
  have p1 := portTo_eq g a (b : Int) ha (by omega)
  rw [hp] at p1
  have hc2 := copied_eq g.2 (by omega) (fun v hv => by have := (hV.node v hv).deg; have q : (at' g.2 (v : Int)).length = (row g v).length := rfl; omega)
  have q1 : (at' g.2 (a : Int)).length = (row g a).length := rfl
  have hrow : at' (g.2.set a (row g a ++ [((b : Int), w)])) (b : Int) = row g b := by rw [at_set _ _ _ _ ha, if_neg (by omega)]
  unfold m_family_Connect
  rw [bindS ((valid_eq g hV.light).1 hV), if_neg (by simp), bindS ((ends_eq hV a b).1 hT), if_neg (by simp), bindS p1, if_neg (by omega), if_neg (by omega), decide_eq_false (by omega)]
  unfold family_Connect_k1
  rw [if_neg (by simp), bindS (clone_eq g.1 (by omega)), bindS hc2]
  unfold family_Connect_k2
  dsimp only
  have r0 : ∀ ag, family_Connect_s1 w (((a, b), (b, a)), true) (g.2, g.1) ((0 : Int), g.2) ag = ag ((1 : Int), g.2.set a (row g a ++ [((b : Int), w)])) := by
    intro ag
    unfold family_Connect_s1
    dsimp only
    rw [if_pos (by omega), ckT (by omega), show at' [(a : Int), (b : Int)] ((Int.toNat 0 : Nat) : Int) = (a : Int) from rfl, show at' [(b : Int), (a : Int)] ((Int.toNat 0 : Nat) : Int) = (b : Int) from rfl, ckT (by omega), ckT (by simp; omega), ckT (by simp; omega), wr (by omega) (by omega), Int.toNat_natCast]
    rfl
  have r1 : ∀ ag, family_Connect_s1 w (((a, b), (b, a)), true) (g.2, g.1) ((1 : Int), g.2.set a (row g a ++ [((b : Int), w)])) ag = ag ((2 : Int), (g.2.set a (row g a ++ [((b : Int), w)])).set b (row g b ++ [((a : Int), w)])) := by
    intro ag
    unfold family_Connect_s1
    dsimp only
    rw [if_pos (by omega), ckT (by omega), show at' [(a : Int), (b : Int)] ((Int.toNat 1 : Nat) : Int) = (b : Int) from rfl, show at' [(b : Int), (a : Int)] ((Int.toNat 1 : Nat) : Int) = (a : Int) from rfl, hrow, ckT (by simp; omega), ckT (by simp; omega), ckT (by simp; omega), wr (by omega) (by omega), Int.toNat_natCast]
    rfl
  have r2 : ∀ ag, family_Connect_s1 w (((a, b), (b, a)), true) (g.2, g.1) ((2 : Int), (g.2.set a (row g a ++ [((b : Int), w)])).set b (row g b ++ [((a : Int), w)])) ag = some (conG g a b w, 0) := by
    intro ag
    unfold family_Connect_s1
    dsimp only
    rw [if_neg (by omega)]
    rfl
  rw [show (1000 : Nat) = 999 + 1 from rfl, iter_unroll]
  show family_Connect_s1 w _ _ _ (iter (family_Connect_s1 w _ _) (998 + 1)) = _
  rw [r0, iter_unroll]
  show family_Connect_s1 w _ _ _ (iter (family_Connect_s1 w _ _) (997 + 1)) = _
  rw [r1, iter_unroll]
  exact r2 _

theorem con_no {g : GR} (hV : VG g) (a b w : Int) (h : ¬ (Two g a b ∧ portOf (at' g.2 a) b = -1 ∧ 1 ≤ w ∧ w ≤ 15)) : m_family_Connect 1000 g a b w = some (([], []), 2) ∧ m_ref03_Connect 1000 g a b w = some (([], []), 2) := by
  unfold m_family_Connect m_ref03_Connect
  rw [bindS ((valid_eq g hV.light).1 hV), if_neg (by simp), bindS ((refValid_eq g hV.light).1 hV), if_neg (by simp)]
  by_cases hT : Two g a b
  · obtain ⟨a, rfl⟩ : ∃ k : Nat, a = k := ⟨a.toNat, by have := hT.1; omega⟩
    have hT2 := hT.2.1
    have da := (hV.node a (by omega)).deg
    have h24 := hV.n24
    have hpc : 0 ≤ portOf (row g a) b ∨ (portOf (row g a) b = -1 ∧ ¬ (1 ≤ w ∧ w ≤ 15)) := by
      rcases portOf_cases (row g a) b with ⟨i, _, _, _, e⟩ | ⟨_, e⟩
      · exact .inl (by omega)
      · exact .inr ⟨e, fun hw => h ⟨hT, e, hw⟩⟩
    refine ⟨?_, ?_⟩
    · rw [bindS ((ends_eq hV a b).1 hT), if_neg (by simp), bindS (portTo_eq g a b (by omega) (by omega))]
      rcases hpc with hp | ⟨hp, hw⟩
      · rw [if_pos hp]; rfl
      · rw [if_neg (by omega)]
        by_cases h1 : w < 1
        · rw [if_pos h1]; rfl
        · rw [if_neg h1, decide_eq_true (by omega)]; rfl
    · rw [bindS ((nodes_eq hV a b).1 hT), if_neg (by simp), bindS (refPort_eq g a b (by omega) (by omega))]
      rcases hpc with hp | ⟨hp, hw⟩
      · rw [if_pos hp]; rfl
      · rw [if_neg (by omega), refIn_eq, decide_eq_false hw]; rfl
  · rw [bindS ((ends_eq hV a b).2 hT), bindS ((nodes_eq hV a b).2 hT)]
    exact ⟨rfl, rfl⟩

/-! ## the new link, cut -/
theorem lnk_left {l r : List (Int × Int)} {i : Nat} (h : i < l.length) : lnk (l ++ r) i = lnk l i := by
  rw [lnk, lnk, at'_nat, at'_nat, List.getD_eq_getElem?_getD, List.getD_eq_getElem?_getD, List.getElem?_append_left h]
theorem lnk_last {l : List (Int × Int)} {x : Int × Int} : lnk (l ++ [x]) l.length = x := at_append l [] x l.length rfl

/-- what is added to the row of a node -/
def more (a b : Nat) (w : Int) (v : Nat) : List (Int × Int) := if v = b then [((a : Int), w)] else if v = a then [((b : Int), w)] else []

theorem con_row {g : GR} {a b : Nat} {w : Int} (ha : a < g.2.length) (hb : b < g.2.length) (v : Nat) : row (conG g a b w) v = row g v ++ more a b w v := by
  show at' ((g.2.set a (row g a ++ [((b : Int), w)])).set b (row g b ++ [((a : Int), w)])) (v : Int) = _
  rw [row_set2 g a b _ _ ha hb]
  unfold more
  by_cases h : v = b
  · subst h; rw [if_pos rfl, if_pos rfl]
  · rw [if_neg h, if_neg h]
    by_cases h2 : v = a
    · subst h2; rw [if_pos rfl, if_pos rfl]
    · rw [if_neg h2, if_neg h2, List.append_nil]

theorem con_link {g : GR} {a b : Nat} {w : Int} (hab : a ≠ b) {v i : Nat} (hi : i < (row g v ++ more a b w v).length) : (i < (row g v).length ∧ lnk (row g v ++ more a b w v) i = lnk (row g v) i) ∨
    (i = (row g v).length ∧ ((v = a ∧ lnk (row g v ++ more a b w v) i = ((b : Int), w)) ∨ (v = b ∧ lnk (row g v ++ more a b w v) i = ((a : Int), w)))) := by
  by_cases h : i < (row g v).length
  · exact .inl ⟨h, lnk_left h⟩
  · right
    unfold more at hi ⊢
    by_cases h1 : v = b
    · rw [if_pos h1] at hi ⊢
      have : i = (row g v).length := by simp at hi; omega
      subst this
      exact ⟨rfl, .inr ⟨h1, lnk_last⟩⟩
    · rw [if_neg h1] at hi ⊢
      by_cases h2 : v = a
      · rw [if_pos h2] at hi ⊢
        have : i = (row g v).length := by simp at hi; omega
        subst this
        exact ⟨rfl, .inl ⟨h2, lnk_last⟩⟩
      · rw [if_neg h2] at hi
        simp at hi; omega

theorem con_valid {g : GR} (hV : VG g) {a b : Nat} {w : Int} (ha : a < g.2.length) (hb : b < g.2.length) (hab : a ≠ b) (hp : portOf (row g a) (b : Int) = -1) (hw : 1 ≤ w ∧ w ≤ 15) : VG (conG g a b w) := by
  have hl : (conG g a b w).2.length = g.2.length := by simp [conG]
  have nab : ∀ k, k < (row g a).length → (lnk (row g a) k).1 ≠ (b : Int) := by
    rcases portOf_cases (row g a) (b : Int) with ⟨i, _, _, _, e⟩ | ⟨h, _⟩
    · omega
    · exact h
  have nba : ∀ k, k < (row g b).length → (lnk (row g b) k).1 ≠ (a : Int) := fun k hk he => by
    obtain ⟨j, hj, hje⟩ := hV.back hb ⟨k, hk, he⟩
    exact nab j hj hje
  have hlinks : ∀ v, v < g.2.length → LinksOk (row (conG g a b w) v) v g.2.length := by
    intro v hv i hi
    rw [con_row ha hb] at hi ⊢
    have hL := (hV.node v hv).links
    rcases con_link hab hi with ⟨h1, e1⟩ | ⟨h1, h2⟩
    · have hLi := hL i h1
      refine ⟨by rw [e1]; exact hLi.1, by rw [e1]; exact hLi.2.1, by rw [e1]; exact hLi.2.2.1, fun k hk => ?_⟩
      rw [e1, lnk_left (show k < (row g v).length by omega)]
      exact hLi.2.2.2 k hk
    · have hd : ∀ k, k < i → (lnk (row g v ++ more a b w v) k).1 ≠ (lnk (row g v ++ more a b w v) i).1 := fun k hk => by
        rw [lnk_left (show k < (row g v).length by omega)]
        rcases h2 with ⟨rfl, e⟩ | ⟨rfl, e⟩
        · rw [e]; exact nab k (by omega)
        · rw [e]; exact nba k (by omega)
      rcases h2 with ⟨h2, e⟩ | ⟨h2, e⟩
      · exact ⟨by rw [e]; dsimp only; omega, by rw [e]; dsimp only; omega, by rw [e]; exact hw, hd⟩
      · exact ⟨by rw [e]; dsimp only; omega, by rw [e]; dsimp only; omega, by rw [e]; exact hw, hd⟩
  refine ⟨by have := hV.n1; omega, by have := hV.n24; omega, by rw [hl]; exact hV.len, fun v hv => ?_, fun v hv i hi => ?_⟩
  · rw [hl] at hv
    have hN := hV.node v hv
    exact ⟨hN.id, by rw [hl]; exact deg_lt hv (hlinks v hv), by rw [hl]; exact hlinks v hv, hN.ids⟩
  · rw [hl] at hv
    rw [con_row ha hb] at hi
    unfold SymAt
    rw [con_row ha hb]
    rcases con_link hab hi with ⟨h1, e1⟩ | ⟨h1, h2⟩
    · rw [e1]
      obtain ⟨u, hu, he, _⟩ := hV.port hv h1
      obtain ⟨j, hj, j1, j2⟩ := hV.sym v hv i h1
      rw [he] at hj j1 j2 ⊢
      have hr : at' (conG g a b w).2 (u : Int) = row g u ++ more a b w u := con_row ha hb u
      rw [hr]
      exact ⟨j, by rw [List.length_append]; exact Nat.lt_of_lt_of_le hj (Nat.le_add_right _ _), by rw [lnk_left hj]; exact j1, by rw [lnk_left hj]; exact j2⟩
    · rcases h2 with ⟨h2, e⟩ | ⟨h2, e⟩
      · rw [e]
        have hr : at' (conG g a b w).2 (b : Int) = row g b ++ more a b w b := con_row ha hb b
        dsimp only
        rw [hr, show more a b w b = [((a : Int), w)] from if_pos rfl]
        exact ⟨(row g b).length, by simp, by rw [lnk_last, h2], by rw [lnk_last]⟩
      · rw [e]
        have hr : at' (conG g a b w).2 (a : Int) = row g a ++ more a b w a := con_row ha hb a
        dsimp only
        rw [hr, show more a b w a = [((b : Int), w)] by unfold more; rw [if_neg hab, if_pos rfl]]
        exact ⟨(row g a).length, by simp, by rw [lnk_last, h2], by rw [lnk_last]⟩

theorem del_last (l : List (Int × Int)) (x : Int × Int) : del (l ++ [x]) l.length = l := by
  unfold del
  simp

theorem con_cut {g : GR} (hV : VG g) {a b : Nat} {w : Int} (ha : a < g.2.length) (hb : b < g.2.length) (hab : a ≠ b) (hp : portOf (row g a) (b : Int) = -1) (hw : 1 ≤ w ∧ w ≤ 15) : m_family_Cut 1000 (conG g a b w) a b = some (g, 0) := by
  have hW := con_valid hV ha hb hab hp hw
  have hl : (conG g a b w).2.length = g.2.length := by simp [conG]
  have nab : ∀ k, k < (row g a).length → (lnk (row g a) k).1 ≠ (b : Int) := by
    rcases portOf_cases (row g a) (b : Int) with ⟨i, _, _, _, e⟩ | ⟨h, _⟩
    · omega
    · exact h
  have nba : ∀ k, k < (row g b).length → (lnk (row g b) k).1 ≠ (a : Int) := fun k hk he => by
    obtain ⟨j, hj, hje⟩ := hV.back hb ⟨k, hk, he⟩
    exact nab j hj hje
  have ra : row (conG g a b w) a = row g a ++ [((b : Int), w)] := by rw [con_row ha hb]; unfold more; rw [if_neg hab, if_pos rfl]
  have rb : row (conG g a b w) b = row g b ++ [((a : Int), w)] := by rw [con_row ha hb]; unfold more; rw [if_pos rfl]
  have pa : portOf (row (conG g a b w) a) (b : Int) = ((row g a).length : Nat) := by
    rw [ra]
    refine portOf_some _ (by simp) (by rw [lnk_last]) (fun k hk => ?_)
    rw [lnk_left hk]; exact nab k hk
  have pb : portOf (row (conG g a b w) b) (a : Int) = ((row g b).length : Nat) := by
    rw [rb]
    refine portOf_some _ (by simp) (by rw [lnk_last]) (fun k hk => ?_)
    rw [lnk_left hk]; exact nba k hk
  rw [famCut_ok hW (by omega) (by omega) hab (by rw [ra]; simp) pa (by rw [rb]; simp) pb]
  congr 1
  refine Prod.ext ?_ rfl
  unfold cutG
  rw [ra, rb, del_last, del_last]
  refine Prod.ext rfl ?_
  show (((g.2.set a (row g a ++ [((b : Int), w)])).set b (row g b ++ [((a : Int), w)])).set a (row g a)).set b (row g b) = g.2
  rw [List.set_comm _ _ hab, List.set_set, List.set_comm _ (row g b) hab, List.set_set, set_same hb, set_same ha]

theorem Walk.more {g h : GR} (hn : h.2.length = g.2.length) (hadj : ∀ v u, Adj g v u → Adj h v u) {s : Nat} : ∀ (k v : Nat), Walk g s k v → Walk h s k v
  | 0, v, hw => ⟨hw.1, by rw [hn]; exact hw.2⟩
  | k + 1, v, hw => by
    obtain ⟨u, h1, h2⟩ := hw
    exact ⟨u, Walk.more hn hadj k u h1, hadj u v h2⟩

theorem cutsBack_pure (g : GR) (a b w f : Int) : m_law03_FamilyCutsBack 1000 g a b w f = some true := by
  unfold m_law03_FamilyCutsBack
  have aw : law03_FamilyCutsBack_k1 1000 g a b w f true = some true := by
    unfold law03_FamilyCutsBack_k1
    rw [if_pos rfl, bindS awakeK]
  by_cases hl : light g
  rotate_left
  · rw [bindS ((lightGraph_eq g).2 hl), if_pos (by rfl)]; exact aw
  rw [bindS ((lightGraph_eq g).1 hl), if_neg (by simp)]
  by_cases hV : VG g
  rotate_left
  · rw [bindS ((refValid_eq g hl).2 hV)]; exact aw
  rw [bindS ((refValid_eq g hl).1 hV)]
  unfold law03_FamilyCutsBack_k1
  rw [if_neg (by simp)]
  by_cases h : Two g a b ∧ portOf (at' g.2 a) b = -1 ∧ 1 ≤ w ∧ w ≤ 15
  rotate_left
  · obtain ⟨e1, e2⟩ := con_no hV a b w h
    rw [bindS e1, if_pos (by simp), bindS e2, bindS awakeK, if_pos rfl, decide_eq_true rfl]
    rfl
  obtain ⟨⟨h1, h2, h3, h4, h5⟩, hp, hw⟩ := h
  obtain ⟨a, rfl⟩ : ∃ k : Nat, a = k := ⟨a.toNat, by omega⟩
  obtain ⟨b, rfl⟩ : ∃ k : Nat, b = k := ⟨b.toNat, by omega⟩
  have hab : a ≠ b := by omega
  have ha : a < g.2.length := by omega
  have hb : b < g.2.length := by omega
  have hW := con_valid hV ha hb hab hp hw
  have hlc : (conG g a b w).2.length = g.2.length := by simp [conG]
  have h24 := hV.n24
  obtain ⟨m, hm, s, rfl, hs⟩ := mod_ok f hV.n1 h24
  obtain ⟨d, hd, hD⟩ := distances_ok hV hs
  obtain ⟨e, he, hE⟩ := distances_ok hW (s := s) (by omega)
  have ld := hD.len
  have le := hE.len
  rw [hlc] at le
  rw [bindS (famCon_ok hV ha hb hab hp hw), if_neg (by simp), bindS (con_cut hV ha hb hab hp hw), bindS hm, bindS hd, bindS he, if_neg (by simp), bindS (same_refl _ hV.small), if_neg (by simp), if_neg (by omega), decide_eq_false (by omega)]
  unfold law03_FamilyCutsBack_k3
  rw [if_neg (by simp)]
  refine iter_eq (fun z : Int => ∃ v : Nat, z = v ∧ v ≤ g.2.length) (fun z => 31 - z.toNat) ?_ 1000 _ ⟨0, rfl, by omega⟩ (by simp)
  rintro z ag ⟨v, rfl, hv⟩ hag
  unfold law03_FamilyCutsBack_s1
  by_cases hn : v < g.2.length
  · have go : law03_FamilyCutsBack_k5 (v : Int) ag false = some true := by
      unfold law03_FamilyCutsBack_k5
      rw [if_neg (by simp), wr (by omega) (by omega)]
      exact hag _ ⟨v + 1, by omega, by omega⟩ (by omega)
    rw [if_pos (by omega), ckT (by omega)]
    by_cases h0 : 0 ≤ at' d (v : Int)
    · have hadj : ∀ v u, Adj g v u → Adj (conG g a b w) v u := by
        rintro v u ⟨i, hi, he⟩
        refine ⟨i, by rw [con_row ha hb, List.length_append]; omega, ?_⟩
        rw [con_row ha hb, lnk_left hi]; exact he
      have hle := Dist.le hW hE (Walk.more hlc hadj _ _ (Dist.pos hV hD hn h0))
      have q : D d v = at' d (v : Int) := rfl
      have q2 : D e v = at' e (v : Int) := rfl
      rw [if_pos h0, ckT (by omega), if_neg (show ¬ at' e (v : Int) < 0 by omega), ckT (by omega), ckT (by omega), decide_eq_false (show ¬ at' d (v : Int) < at' e (v : Int) by omega)]
      exact go
    · rw [if_neg h0]; exact go
  · rw [if_neg (by omega)]
    unfold law03_FamilyCutsBack_k4
    rw [bindS awakeK]
end Go.Proofs.Ytemhmmcakmidkaa
end
