/- Models of functions with their proofs, by program (gen/xt.py), and plain laws, in one text. Conditions: none. -/
import Derived.Test.YtemhmmcakmidkaaZFReBa1
import Derived.Test.YtemhmmcakmidkaaXp
import Derived.KernelRfl
section
set_option linter.unusedVariables false
set_option linter.unusedSimpArgs false
namespace Go.Proofs.Ytemhmmcakmidkaa
set_option linter.unusedVariables false
set_option linter.unusedSimpArgs false
open Go.Sx
abbrev D (d : List Int) (v : Nat) : Int := at' d (v : Int)

/-- node v has a link to u -/
def Adj (g : GR) (v u : Nat) : Prop := ∃ i, i < (row g v).length ∧ (lnk (row g v) i).1 = (u : Int)

theorem VG.port {g : GR} (h : VG g) {v i : Nat} (hv : v < g.2.length) (hi : i < (row g v).length) : ∃ u : Nat, u < g.2.length ∧ (lnk (row g v) i).1 = (u : Int) ∧ Adj g v u := by
  have hu := ((h.node v hv).links i hi).1
  exact ⟨(lnk (row g v) i).1.toNat, by omega, by omega, i, hi, by omega⟩

theorem VG.back {g : GR} (h : VG g) {v u : Nat} (hv : v < g.2.length) (ha : Adj g v u) : Adj g u v := by
  obtain ⟨i, hi, hu⟩ := ha
  obtain ⟨j, hj, hjv, _⟩ := h.sym v hv i hi
  rw [hu] at hj hjv
  exact ⟨j, hj, hjv⟩

theorem VG.adj_lt {g : GR} (h : VG g) {v u : Nat} (hv : v < g.2.length) (ha : Adj g v u) : u < g.2.length := by
  obtain ⟨i, hi, hu⟩ := ha
  have := ((h.node v hv).links i hi).1
  omega

def cneg (d : List Int) : Nat := d.countP fun x => decide (x < 0)

/-- what holds of the numbers at all times of the search from s -/
structure Core (g : GR) (s : Nat) (d : List Int) : Prop where
  len : d.length = g.2.length
  lo : ∀ v, v < g.2.length → -1 ≤ D d v
  zero : ∀ v, v < g.2.length → (D d v = 0 ↔ v = s)
  near : ∀ v, v < g.2.length → 0 < D d v → ∃ u, u < g.2.length ∧ Adj g v u ∧ D d u = D d v - 1
  hi : ∀ v, v < g.2.length → D d v + (cneg d : Int) ≤ (g.2.length : Int)

structure Qu (g : GR) (q d : List Int) (b : Int) (done : Nat → Prop) : Prop where
  mem : ∀ y ∈ q, ∃ v, v < g.2.length ∧ y = ((v : Nat) : Int) ∧ 0 ≤ D d v
  top : ∀ v, v < g.2.length → D d v ≤ b
  sort : q.Pairwise fun a c => at' d a ≤ at' d c
  done : ∀ v, v < g.2.length → 0 ≤ D d v → ((v : Nat) : Int) ∉ q → done v → ∀ u, u < g.2.length → Adj g v u → 0 ≤ D d u ∧ D d u ≤ D d v + 1

theorem D_getElem {d : List Int} {v : Nat} (h : v < d.length) : D d v = d[v] := by
  rw [D, at'_nat, List.getD_eq_getElem?_getD, List.getElem?_eq_getElem h]; rfl

theorem cneg_set {d : List Int} {u : Nat} {x : Int} (hu : u < d.length) (hn : D d u < 0) (hx : 0 ≤ x) : cneg (d.set u x) + 1 = cneg d := by
  unfold cneg
  rw [List.countP_set hu]
  have hp : 0 < d.countP fun x => decide (x < 0) := by
    rw [List.countP_pos_iff]
    exact ⟨d[u], List.getElem_mem hu, by rw [← D_getElem hu]; simpa using hn⟩
  rw [D_getElem hu] at hn
  rw [if_pos (by simpa using hn), if_neg (by simp; omega)]
  omega

/-- a node without a number gets one -/
theorem assign {g : GR} {s : Nat} {q d : List Int} {b : Int} {done : Nat → Prop} (hV : VG g) (hC : Core g s d) {x u : Nat} (hQ : Qu g q d (D d x + 1) done) (hx : x < g.2.length) (hx0 : 0 ≤ D d x) (hu : u < g.2.length) (hun : D d u < 0) (ha : Adj g x u) :
    Core g s (d.set u (D d x + 1)) ∧ Qu g (q ++ [(u : Int)]) (d.set u (D d x + 1)) (D d x + 1) done := by
  have hlen := hC.len
  have hat : ∀ v, D (d.set u (D d x + 1)) v = if v = u then D d x + 1 else D d v := fun v => at_set _ _ _ _ (by omega)
  have hcn := cneg_set (x := D d x + 1) (by omega : u < d.length) hun (by omega)
  refine ⟨⟨by simp [hlen], fun v hv => ?_, fun v hv => ?_, fun v hv => ?_, fun v hv => ?_⟩, ⟨fun y hy => ?_, fun v hv => ?_, ?_, fun v hv h0 hq hd w hw hadj => ?_⟩⟩
  · rw [hat]; split
    · omega
    · exact hC.lo v hv
  · rw [hat]; split
    · rename_i h; subst h
      have := (hC.zero v hv)
      constructor
      · intro; omega
      · intro h; have := this.2 h; omega
    · exact hC.zero v hv
  · rw [hat]; split
    · rename_i h; subst h
      intro _
      refine ⟨x, hx, hV.back hx ha, ?_⟩
      rw [hat, if_neg (by intro h; subst h; omega)]; omega
    · intro h0
      obtain ⟨w, hw, hadj, he⟩ := hC.near v hv h0
      refine ⟨w, hw, hadj, ?_⟩
      rw [hat, if_neg (by intro h; subst h; omega)]; exact he
  · rw [hat]; split
    · have := hC.hi x hx; omega
    · have := hC.hi v hv; omega
  · rcases List.mem_append.1 hy with hy | hy
    · obtain ⟨v, hv, rfl, h0⟩ := hQ.mem y hy
      refine ⟨v, hv, rfl, ?_⟩
      rw [hat]; split <;> omega
    · simp only [List.mem_singleton] at hy
      refine ⟨u, hu, hy, ?_⟩
      rw [hat, if_pos rfl]; omega
  · rw [hat]; split
    · omega
    · exact hQ.top v hv
  · rw [List.pairwise_append]
    have hq : ∀ y ∈ q, at' (d.set u (D d x + 1)) y = at' d y := by
      intro y hy
      obtain ⟨v, hv, rfl, h0⟩ := hQ.mem y hy
      have := hat v
      rw [if_neg (by intro h; subst h; omega)] at this
      exact this
    refine ⟨hQ.sort.imp_of_mem fun {a c} h1 h2 h => ?_, List.pairwise_singleton .., fun y hy z hz => ?_⟩
    · rw [hq a h1, hq c h2]; exact h
    · simp only [List.mem_singleton] at hz
      subst hz
      rw [hq y hy]
      have h2 := hat u
      rw [if_pos rfl] at h2
      obtain ⟨v, hv, rfl, h0⟩ := hQ.mem y hy
      have := hQ.top v hv
      show D d v ≤ D (d.set u (D d x + 1)) u
      omega
  · have hvu : v ≠ u := by
      rintro rfl
      exact hq (by simp)
    rw [hat, if_neg hvu] at h0
    rw [hat v, if_neg hvu]
    have := hQ.done v hv h0 (fun h => hq (List.mem_append_left _ h)) hd w hw hadj
    rw [hat w, if_neg (by rintro rfl; omega)]
    exact this

/-- the ports of node x one after another -/
theorem search_inner {g : GR} (hV : VG g) {s x : Nat} (hx : x < g.2.length) (rest d0 : List Int) (ag : List Int × List Int → Option (List Int)) (r : List Int → Prop)
    (hC : Core g s d0) (hx0 : 0 ≤ D d0 x) (hQ : Qu g rest d0 (D d0 x + 1) (fun v => v ≠ x)) (hm : rest.length + cneg d0 ≤ g.2.length)
    (hag : ∀ q d, Core g s d → D d x = D d0 x → Qu g q d (D d x + 1) (fun _ => True) → q.length + cneg d = rest.length + cneg d0 → (∀ y ∈ q, D d0 x ≤ at' d y) → OK r (ag (q, d)))
    (hge : ∀ y ∈ rest, D d0 x ≤ at' d0 y) :
    OK r (iter (graph_search_s2 g ((x : Int) :: rest, d0) ag) 1000 ((0 : Int), rest, d0)) := by
  have hdeg := (hV.node x hx).deg
  have h24 := hV.n24
  refine iter_ok (fun z : Int × List Int × List Int => ∃ k : Nat, z.1 = k ∧ k ≤ (row g x).length ∧ Core g s z.2.2 ∧ D z.2.2 x = D d0 x ∧ Qu g z.2.1 z.2.2 (D d0 x + 1) (fun v => v ≠ x) ∧ z.2.1.length + cneg z.2.2 = rest.length + cneg d0 ∧ (∀ i, i < k → ∀ u : Nat, (lnk (row g x) i).1 = u → 0 ≤ D z.2.2 u) ∧ (∀ y ∈ z.2.1, D d0 x ≤ at' z.2.2 y)) (fun z => 31 - z.1.toNat) ?_ 1000 _ ⟨0, rfl, by omega, hC, rfl, hQ, rfl, fun i hi => by omega, hge⟩ (by simp)
  rintro ⟨z1, q, d⟩ ag2 ⟨k, hz, hk, hC, hdx, hQ, hm2, hp, hge⟩ hag2
  dsimp only at hz hC hdx hQ hm2 hp hge
  subst hz
  have hlen := hC.len
  have e0 : at' ((x : Int) :: rest) 0 = (x : Int) := rfl
  unfold graph_search_s2 graph_search_k3
  dsimp only
  rw [e0]
  by_cases hlt : k < (row g x).length
  · rw [if_pos (show (k : Int) < ((row g x).length : Int) by omega), ckT (show 0 ≤ (k : Int) ∧ (k : Int) < ((row g x).length : Int) by omega)]
    obtain ⟨u, hu, hue, hadj⟩ := hV.port hx hlt
    rw [show at' (at' g.2 (x : Int)) (k : Int) = lnk (row g x) k from rfl, hue, ckT (by omega)]
    have hhi := hC.hi x hx
    by_cases hneg : at' d (u : Int) < 0
    · have hQ' : Qu g q d (D d x + 1) (fun v => v ≠ x) := by rw [hdx]; exact hQ
      obtain ⟨c1, c2⟩ := assign (b := 0) hV hC hQ' hx (by omega) hu hneg hadj
      have hcn := cneg_set (x := D d x + 1) (by omega : u < d.length) hneg (by omega)
      have hat : ∀ v, D (d.set u (D d x + 1)) v = if v = u then D d x + 1 else D d v := fun v => at_set _ _ _ _ (by omega)
      have hxu : x ≠ u := by rintro rfl; have : D d x < 0 := hneg; omega
      rw [if_pos hneg, ckT (by omega), ckT (by omega), ckT (by simp only [List.length_singleton]; omega), wr (x := (k : Int) + 1) (by omega) (by omega), wr (x := at' d (x : Int) + 1) (by show -9223372036854775808 ≤ D d x + 1; omega) (by show D d x + 1 ≤ _; omega)]
      refine hag2 _ ⟨k + 1, by simp, by omega, c1, ?_, ?_, ?_, ?_, ?_⟩ (by dsimp only; omega)
      · show D (d.set u (D d x + 1)) x = _
        rw [hat, if_neg hxu]; exact hdx
      · rw [← hdx]; exact c2
      · show (q ++ [(u : Int)]).length + cneg (d.set u (D d x + 1)) = _
        simp only [List.length_append, List.length_singleton]
        omega
      · intro i hi w hw
        show 0 ≤ D (d.set u (D d x + 1)) w
        rw [hat]
        split
        · omega
        · by_cases hik : i = k
          · subst hik; omega
          · exact hp i (by omega) w hw
      · intro y hy
        show D d0 x ≤ at' (d.set u (D d x + 1)) y
        rcases List.mem_append.1 hy with hy | hy
        · have h1 := hge y hy
          obtain ⟨v, hv, rfl, h0⟩ := hQ.mem y hy
          have h2 := hat v
          rw [if_neg (by intro h; subst h; have : D d v < 0 := hneg; omega)] at h2
          rw [show at' (d.set u (D d x + 1)) (v : Int) = D d v from h2]
          exact h1
        · simp only [List.mem_singleton] at hy
          subst hy
          rw [show at' (d.set u (D d x + 1)) (u : Int) = D d x + 1 from (hat u).trans (if_pos rfl)]
          omega
    · rw [if_neg hneg, wr (by omega) (by omega)]
      refine hag2 _ ⟨k + 1, by simp, by omega, hC, hdx, hQ, hm2, ?_, hge⟩ (by dsimp only; omega)
      intro i hi w hw
      by_cases hik : i = k
      · subst hik
        have : w = u := by omega
        subst this
        show 0 ≤ at' d (w : Int)
        omega
      · exact hp i (by omega) w hw
  · rw [if_neg (show ¬ (k : Int) < ((row g x).length : Int) by omega)]
    have hke : k = (row g x).length := by omega
    refine hag q d hC hdx ⟨hQ.mem, fun v hv => by rw [hdx]; exact hQ.top v hv, hQ.sort, fun v hv h0 hq _ u hu hadj => ?_⟩ hm2 hge
    by_cases hvx : v = x
    · subst hvx
      obtain ⟨i, hi, hie⟩ := hadj
      exact ⟨hp i (by omega) u hie, by rw [hdx]; exact hQ.top u hu⟩
    · exact hQ.done v hv h0 hq hvx u hu hadj

/-- what the search returns: the numbers are the steps from s -/
structure Dist (g : GR) (s : Nat) (d : List Int) : Prop where
  len : d.length = g.2.length
  lo : ∀ v, v < g.2.length → -1 ≤ D d v
  zero : ∀ v, v < g.2.length → (D d v = 0 ↔ v = s)
  near : ∀ v, v < g.2.length → 0 < D d v → ∃ u, u < g.2.length ∧ Adj g v u ∧ D d u = D d v - 1
  next : ∀ v, v < g.2.length → 0 ≤ D d v → ∀ u, u < g.2.length → Adj g v u → 0 ≤ D d u ∧ D d u ≤ D d v + 1
  hi : ∀ v, v < g.2.length → D d v ≤ (g.2.length : Int)

theorem search_loop {g : GR} (hV : VG g) {s : Nat} (d0 : List Int) (q0 : List Int) (hC : Core g s d0) (hQ : Qu g q0 d0 (match q0 with | [] => 1000 | y :: _ => at' d0 y + 1) (fun _ => True)) (hm : q0.length + cneg d0 ≤ g.2.length) :
    OK (Dist g s) (iter (graph_search_s1 1000 g) 1000 (q0, d0)) := by
  have h24 := hV.n24
  refine iter_ok (fun z : List Int × List Int => Core g s z.2 ∧ Qu g z.1 z.2 (match z.1 with | [] => 1000 | y :: _ => at' z.2 y + 1) (fun _ => True) ∧ z.1.length + cneg z.2 ≤ g.2.length) (fun z => z.1.length + cneg z.2) ?_ 1000 _ ⟨hC, hQ, hm⟩ (by dsimp only; omega)
  rintro ⟨q, d⟩ ag ⟨hC, hQ, hm⟩ hag
  dsimp only at hC hQ hm
  unfold graph_search_s1 graph_search_k2
  dsimp only
  cases q with
  | nil =>
    rw [if_neg (by simp)]
    exact ⟨d, rfl, hC.len, hC.lo, hC.zero, hC.near, fun v hv h0 u hu hadj => hQ.done v hv h0 (by simp) trivial u hu hadj, fun v hv => by have := hC.hi v hv; omega⟩
  | cons y rest =>
    obtain ⟨x, hx, rfl, hx0⟩ := hQ.mem y (List.mem_cons_self ..)
    have e0 : at' ((x : Int) :: rest) 0 = (x : Int) := rfl
    rw [if_pos (by simp only [List.length_cons]; omega), ckT (by simp only [List.length_cons]; omega), ckT (by simp only [List.length_cons]; omega), e0, ckT (by omega)]
    have hs := List.pairwise_cons.1 hQ.sort
    simp only [List.length_cons] at hm
    refine search_inner hV hx rest d ag _ hC hx0 ⟨fun z hz => hQ.mem z (List.mem_cons_of_mem _ hz), hQ.top, hs.2, fun v hv h0 hq hvx u hu hadj => hQ.done v hv h0 (fun h => ?_) trivial u hu hadj⟩ (by omega) (fun q' d' c1 c2 c3 c4 c5 => ?_) hs.1
    · rcases List.mem_cons.1 h with h | h
      · exact hvx (by omega)
      · exact hq h
    · refine hag (q', d') ⟨c1, ⟨c3.mem, fun v hv => ?_, c3.sort, c3.done⟩, by dsimp only; omega⟩ (by simp only [List.length_cons]; omega)
      dsimp only
      have ht := c3.top v hv
      cases q' with
      | nil =>
        dsimp only
        have := c1.hi x hx
        omega
      | cons z zs =>
        dsimp only
        have := c5 z (List.mem_cons_self ..)
        omega

theorem search_ok {g : GR} (hV : VG g) {s : Nat} (hs : s < g.2.length) : OK (Dist g s) (m_graph_search 1000 g (s : Int)) := by
  have h24 := hV.n24
  unfold m_graph_search
  rw [ckT (by omega)]
  refine iter_ok (fun z : Int × List Int => ∃ k : Nat, z.1 = k ∧ k ≤ g.2.length ∧ z.2.length = g.2.length ∧ ∀ v, v < k → D z.2 v = -1) (fun z => 31 - z.1.toNat) ?_ 1000 _ ⟨0, rfl, by omega, by simp, fun v hv => by omega⟩ (by simp)
  rintro ⟨z1, d⟩ ag ⟨k, hz, hk, hlen, hd⟩ hag
  dsimp only at hz hlen hd
  subst hz
  unfold graph_search_s3
  simp only [List.length_replicate, Int.toNat_natCast]
  by_cases hlt : k < g.2.length
  · rw [if_pos (by omega), ckT (by omega), wr (by omega) (by omega)]
    refine hag _ ⟨k + 1, by simp, by omega, by simp [hlen], fun v hv => ?_⟩ (by dsimp only; omega)
    show at' (d.set k (-1)) (v : Int) = -1
    rw [at_set _ _ _ _ (by omega)]
    split
    · rfl
    · exact hd v (by omega)
  · rw [if_neg (by omega)]
    unfold graph_search_k1
    rw [ckT (by omega)]
    have hd' : ∀ v, v < g.2.length → D d v = -1 := fun v hv => hd v (by omega)
    have hat : ∀ v, D (d.set s 0) v = if v = s then 0 else D d v := fun v => at_set _ _ _ _ (by omega)
    have hcn := cneg_set (x := 0) (by omega : s < d.length) (by rw [hd' s hs]; omega) (by omega)
    have hcl : cneg d ≤ d.length := List.countP_le_length ..
    refine search_loop hV _ _ ⟨by simp [hlen], fun v hv => ?_, fun v hv => ?_, fun v hv => ?_, fun v hv => ?_⟩ ⟨fun y hy => ?_, fun v hv => ?_, List.pairwise_singleton .., fun v hv h0 hq => ?_⟩ ?_
    · rw [Int.toNat_natCast, hat]; split
      · omega
      · rw [hd' v hv]; omega
    · rw [Int.toNat_natCast, hat]; split
      · rename_i h; exact ⟨fun _ => h, fun _ => rfl⟩
      · rename_i h; rw [hd' v hv]; exact ⟨fun h2 => by omega, fun h2 => absurd h2 h⟩
    · rw [Int.toNat_natCast, hat]; split
      · omega
      · rw [hd' v hv]; omega
    · rw [Int.toNat_natCast, hat]; split
      · omega
      · rw [hd' v hv]; omega
    · simp only [List.mem_singleton] at hy
      refine ⟨s, hs, hy, ?_⟩
      rw [Int.toNat_natCast, hat, if_pos rfl]; omega
    · rw [Int.toNat_natCast]
      have h2 : at' (d.set s 0) (s : Int) = 0 := (hat s).trans (if_pos rfl)
      show D (d.set s 0) v ≤ at' (d.set s 0) (s : Int) + 1
      rw [h2, hat]; split
      · omega
      · rw [hd' v hv]; omega
    · rw [Int.toNat_natCast, hat, if_neg (by rintro rfl; exact hq (by simp)), hd' v hv] at h0
      omega
    · rw [Int.toNat_natCast]
      simp only [List.length_singleton]
      omega
end Go.Proofs.Ytemhmmcakmidkaa
end
section
set_option linter.unusedVariables false
set_option linter.unusedSimpArgs false
namespace Go.Proofs.Ytemhmmcakmidkaa
open Go.Sx
set_option linter.unusedVariables false
set_option linter.unusedSimpArgs false
def graph_Degree_k1 (p0 : List (Int) × (List (List (Int × Int)))) (p1 : Int) (a3 : Bool) : Option (Int) :=
  if a3 = true then (some (0 : Int)) else (ck (0 ≤ p1 ∧ p1 < (List.length p0.2 : Int)) (some (List.length (at' p0.2 p1) : Int)))
def m_graph_Degree (fuel : Nat) (p0 : List (Int) × (List (List (Int × Int)))) (p1 : Int) : Option (Int) :=
  Option.bind (m_graph_Valid fuel ((p0.1, p0.2))) fun r7 => (if (!r7) = true then (graph_Degree_k1 p0 p1 (true)) else (if p1 < (0 : Int) then (graph_Degree_k1 p0 p1 (true)) else (graph_Degree_k1 p0 p1 (decide ((List.length p0.2 : Int) ≤ p1)))))

theorem body40 : HasBody Try.prog 40 := Try.call40

set_option maxHeartbeats 4000000 in
set_option maxRecDepth 20000 in
theorem t_graph_Degree (fuel : Nat) {p0 : List (Int) × (List (List (Int × Int)))} {p1 : Int} (v0 : Value)  (v1 : Value)  (z2 : List (Value × List (Int × Int))) (r : Int) (h : m_graph_Degree fuel p0 p1 = some r) :
    Meets Try.prog 40 #[Value.agg #[v0, v1], Value.int .i64 (p1)] [Sl RI64 v0 p0.1, S2 RI64I64p v1 z2 p0.2] (fun x : Unit => Value.int .i64 (r)) (fun x l => l) (fun _ l => l) := by
  refine Meets.of (vs := [Value.agg #[v0, v1], Value.int .i64 (p1)]) Try.func40 rfl Try.ntmps40 rfl fun c => ?_
  unfold m_graph_Degree at h
  refine J.seq ?_
  refine J.region ?_
  refine J.loud (Loud.box (cs := [v0, v1]) rfl rfl) rfl fun b1 => ?_
  refine J.quiet (Y.assign rfl) rfl ?_
  refine J.done ?_
  refine J.thenN ?_
  refine J.seq ?_
  refine J.seq ?_
  refine J.midI (A := Bool) (B := Unit) (fun a3 => graph_Degree_k1 p0 p1 a3 = some r) (fun a3 b4 => [(1, Value.int .i64 (p1)), (2, Value.pointer (some ⟨b1, 0, none⟩)), (18, Value.bool (a3))]) (fun a3 b4 => [Blk b1 [v0, v1] 26]) (fun a3 b4 => [Sl RI64 v0 p0.1, S2 RI64I64p v1 z2 p0.2]) ?_ ?_
  · refine J.region ?_
    refine J.quiet (Y.loadBAll 0 rfl rfl rfl rfl) rfl ?_
    replace h := bnd h; obtain ⟨r7, hr8, h⟩ := h
    refine J.loud (Loud.callL body64 (t_graph_Valid fuel v0 v1 z2 r7 hr8) rfl (LentAll.cons (Lent.fact 0 rfl) (LentAll.cons (Lent.fact 1 rfl) (LentAll.nil))) (fun _ _ => rfl)) rfl fun x9 => ?_
    refine J.quiet (Y.not rfl) rfl ?_
    refine J.quiet (Y.move rfl) rfl ?_
    refine J.guard (by exact rfl) (by exact rfl) (fun hp10 => ?_) (fun hp10 => ?_)
    · replace h := ifP hp10 h
      refine J.guardN rfl rfl rfl ?_
      refine J.guardN rfl rfl rfl ?_
      refine J.quiet (Y.pickT rfl rfl) rfl ?_
      refine J.quiet (Y.move rfl) rfl ?_
      refine J.guardN rfl rfl rfl ?_
      refine J.guardN rfl rfl rfl ?_
      refine J.guardN rfl rfl rfl ?_
      refine J.guardN rfl rfl rfl ?_
      refine J.guardN rfl rfl rfl ?_
      refine J.quiet (Y.pickT rfl rfl) rfl ?_
      refine J.done ?_
      refine J.thenN ?_
      exact J.meetI (true) (()) h (by repeat (first | exact SubF.nil | refine SubF.cons rfl ?_)) (SubM.refl _) (LentAll.refl _ _)
    · replace h := ifBN hp10 h
      refine J.guardY rfl (Y.move rfl) rfl ?_
      refine J.guardY rfl (Y.lss rfl rfl) rfl ?_
      refine J.quiet (Y.pickF rfl rfl) rfl ?_
      refine J.quiet (Y.move rfl) rfl ?_
      refine J.guardD (by exact rfl) (by exact rfl) (fun hp11 => ?_) (fun hp11 => ?_)
      · replace h := ifP hp11 h
        refine J.guardN rfl rfl rfl ?_
        refine J.guardN rfl rfl rfl ?_
        refine J.guardN rfl rfl rfl ?_
        refine J.guardN rfl rfl rfl ?_
        refine J.guardN rfl rfl rfl ?_
        refine J.quiet (Y.pickT rfl rfl) rfl ?_
        refine J.done ?_
        refine J.thenN ?_
        exact J.meetI (true) (()) h (by repeat (first | exact SubF.nil | refine SubF.cons rfl ?_)) (SubM.refl _) (LentAll.refl _ _)
      · replace h := ifN hp11 h
        refine J.guardY rfl (Y.move rfl) rfl ?_
        refine J.guardY rfl (Y.fieldB rfl rfl rfl rfl rfl) rfl ?_
        refine J.guardY rfl (Y.loadB 0 rfl rfl rfl rfl rfl) rfl ?_
        refine J.guardY rfl (Y.lenN rfl (Lent.fact 1 rfl) rfl) rfl ?_
        refine J.guardY rfl (Y.geq rfl rfl) rfl ?_
        refine J.quiet (Y.pickF rfl rfl) rfl ?_
        refine J.done ?_
        refine J.thenN ?_
        exact J.meetI (decide ((List.length p0.2 : Int) ≤ p1)) (()) h (by repeat (first | exact SubF.nil | refine SubF.cons rfl ?_)) (SubM.refl _) (LentAll.refl _ _)
  · clear h
    intro a3 b4 h
    unfold graph_Degree_k1 at h
    refine J.cond (by exact rfl) (fun hp5 => ?_) (fun hp5 => ?_)
    · replace h := ifP hp5 h
      refine J.seq ?_
      refine J.region ?_
      refine J.quiet (Y.assign rfl) rfl ?_
      refine J.done ?_
      refine J.thenN ?_
      refine J.ret ?_
      refine J.thenR ?_
      obtain rfl := Option.some.inj h
      exact J.retG1 (()) rfl rfl (RV.tmp rfl) (SubM.nil) LentAll.nil
    · replace h := ifBN hp5 h
      refine J.skip ?_
      refine J.thenN ?_
      refine J.seq ?_
      refine J.region ?_
      refine J.quiet (Y.fieldB rfl rfl rfl rfl rfl) rfl ?_
      refine J.quiet (Y.loadB 0 rfl rfl rfl rfl rfl) rfl ?_
      refine J.quiet (Y.move rfl) rfl ?_
      replace h := ck_some h; obtain ⟨hc6, h⟩ := h
      refine J.quiet (Y.indexN rfl rfl (Lent.fact 1 rfl) rfl rfl hc6) rfl ?_
      refine J.quiet (Y.loadRow rfl (Lent.fact 1 rfl) rfl rfl hc6) rfl ?_
      refine J.quiet (Y.lenS rfl (Lent.el (Lent.fact 1 rfl) hc6.1 hc6.2) rfl) rfl ?_
      refine J.quiet (Y.assign rfl) rfl ?_
      refine J.done ?_
      refine J.thenN ?_
      refine J.ret ?_
      obtain rfl := Option.some.inj h
      exact J.retG1 (()) rfl rfl (RV.tmp rfl) (SubM.nil) LentAll.nil

end Go.Proofs.Ytemhmmcakmidkaa
end
section
set_option linter.unusedVariables false
set_option linter.unusedSimpArgs false
namespace Go.Proofs.Ytemhmmcakmidkaa
open Go.Sx
set_option linter.unusedVariables false
set_option linter.unusedSimpArgs false
def made_Mod_k1  (a3 : Int) : Option (Int) :=
  some (a3)
def m_made_Mod (fuel : Nat) (p0 : Int) (p1 : Int) : Option (Int) :=
  ck (p1 ≠ 0) (if (Int.tmod p0 p1) < (0 : Int) then (made_Mod_k1  (wI .i64 ((Int.tmod p0 p1) + p1))) else (made_Mod_k1  (Int.tmod p0 p1)))

theorem body34 : HasBody Try.prog 34 := Try.call34

set_option maxHeartbeats 4000000 in
set_option maxRecDepth 20000 in
theorem t_made_Mod (fuel : Nat) {p0 : Int} {p1 : Int} (r : Int) (h : m_made_Mod fuel p0 p1 = some r) :
    Meets Try.prog 34 #[Value.int .i64 (p0), Value.int .i64 (p1)] [] (fun x : Unit => Value.int .i64 (r)) (fun x l => l) (fun _ l => l) := by
  refine Meets.of (vs := [Value.int .i64 (p0), Value.int .i64 (p1)]) Try.func34 rfl Try.ntmps34 rfl fun c => ?_
  unfold m_made_Mod at h
  refine J.seq ?_
  refine J.region ?_
  refine J.quiet (Y.assign rfl) rfl ?_
  refine J.done ?_
  refine J.thenN ?_
  refine J.seq ?_
  refine J.region ?_
  refine J.quiet (Y.move rfl) rfl ?_
  refine J.quiet (Y.move rfl) rfl ?_
  replace h := ck_some h; obtain ⟨hc1, h⟩ := h
  refine J.quiet (Y.rem rfl rfl hc1) rfl ?_
  refine J.quiet (Y.assign rfl) rfl ?_
  refine J.done ?_
  refine J.thenN ?_
  refine J.seq ?_
  refine J.midI (A := Int) (B := Unit) (fun a3 => made_Mod_k1  a3 = some r) (fun a3 b4 => [(5, Value.int .i64 (a3))]) (fun a3 b4 => []) (fun a3 b4 => []) ?_ ?_
  · refine J.seq ?_
    refine J.region ?_
    refine J.quiet (Y.move rfl) rfl ?_
    refine J.quiet (Y.lss rfl rfl) rfl ?_
    refine J.done ?_
    refine J.thenN ?_
    refine J.condD (by exact rfl) (fun hp5 => ?_) (fun hp5 => ?_)
    · replace h := ifP hp5 h
      refine J.region ?_
      refine J.quiet (Y.move rfl) rfl ?_
      refine J.quiet (Y.move rfl) rfl ?_
      refine J.quiet (Y.addW rfl rfl) rfl ?_
      refine J.quiet (Y.assign rfl) rfl ?_
      refine J.done ?_
      refine J.thenN ?_
      exact J.meetI (wI .i64 ((Int.tmod p0 p1) + p1)) (()) h (by repeat (first | exact SubF.nil | refine SubF.cons rfl ?_)) (SubM.refl _) (LentAll.refl _ _)
    · replace h := ifN hp5 h
      refine J.skip ?_
      refine J.thenN ?_
      exact J.meetI (Int.tmod p0 p1) (()) h (by repeat (first | exact SubF.nil | refine SubF.cons rfl ?_)) (SubM.refl _) (LentAll.refl _ _)
  · clear h
    intro a3 b4 h
    unfold made_Mod_k1 at h
    refine J.seq ?_
    refine J.region ?_
    refine J.quiet (Y.move rfl) rfl ?_
    refine J.quiet (Y.assign rfl) rfl ?_
    refine J.done ?_
    refine J.thenN ?_
    refine J.ret ?_
    obtain rfl := Option.some.inj h
    exact J.retG1 (()) rfl rfl (RV.tmp rfl) (SubM.refl _) LentAll.nil

end Go.Proofs.Ytemhmmcakmidkaa
end
section
set_option linter.unusedVariables false
set_option linter.unusedSimpArgs false
namespace Go.Proofs.Ytemhmmcakmidkaa
open Go.Sx
set_option linter.unusedVariables false
set_option linter.unusedSimpArgs false
def graph_Distances_k1 (fuel : Nat) (p0 : List (Int) × (List (List (Int × Int)))) (p1 : Int) (a3 : Bool) : Option (List (Int)) :=
  if a3 = true then (some ([] : List Int)) else (Option.bind (m_graph_search fuel ((p0.1, p0.2)) p1) fun r6 => (some (r6)))
def m_graph_Distances (fuel : Nat) (p0 : List (Int) × (List (List (Int × Int)))) (p1 : Int) : Option (List (Int)) :=
  Option.bind (m_graph_Valid fuel ((p0.1, p0.2))) fun r9 => (if (!r9) = true then (graph_Distances_k1 fuel p0 p1 (true)) else (if p1 < (0 : Int) then (graph_Distances_k1 fuel p0 p1 (true)) else (graph_Distances_k1 fuel p0 p1 (decide ((List.length p0.2 : Int) ≤ p1)))))

theorem body35 : HasBody Try.prog 35 := Try.call35

set_option maxHeartbeats 4000000 in
set_option maxRecDepth 20000 in
theorem t_graph_Distances (fuel : Nat) {p0 : List (Int) × (List (List (Int × Int)))} {p1 : Int} (v0 : Value)  (v1 : Value)  (z2 : List (Value × List (Int × Int))) (r : List (Int)) (h : m_graph_Distances fuel p0 p1 = some r) :
    Meets Try.prog 35 #[Value.agg #[v0, v1], Value.int .i64 (p1)] [Sl RI64 v0 p0.1, S2 RI64I64p v1 z2 p0.2] (fun x : Value => x) (fun x l => Ar EI64 x r :: l) (fun _ l => l) := by
  refine Meets.of (vs := [Value.agg #[v0, v1], Value.int .i64 (p1)]) Try.func35 rfl Try.ntmps35 rfl fun c => ?_
  unfold m_graph_Distances at h
  refine J.seq ?_
  refine J.region ?_
  refine J.loud (Loud.box (cs := [v0, v1]) rfl rfl) rfl fun b1 => ?_
  refine J.quiet (Y.assign rfl) rfl ?_
  refine J.done ?_
  refine J.thenN ?_
  refine J.seq ?_
  refine J.seq ?_
  refine J.midI (A := Bool) (B := Unit) (fun a3 => graph_Distances_k1 fuel p0 p1 a3 = some r) (fun a3 b4 => [(1, Value.int .i64 (p1)), (2, Value.pointer (some ⟨b1, 0, none⟩)), (18, Value.bool (a3))]) (fun a3 b4 => [Blk b1 [v0, v1] 26]) (fun a3 b4 => [Sl RI64 v0 p0.1, S2 RI64I64p v1 z2 p0.2]) ?_ ?_
  · refine J.region ?_
    refine J.quiet (Y.loadBAll 0 rfl rfl rfl rfl) rfl ?_
    replace h := bnd h; obtain ⟨r9, hr10, h⟩ := h
    refine J.loud (Loud.callL body64 (t_graph_Valid fuel v0 v1 z2 r9 hr10) rfl (LentAll.cons (Lent.fact 0 rfl) (LentAll.cons (Lent.fact 1 rfl) (LentAll.nil))) (fun _ _ => rfl)) rfl fun x11 => ?_
    refine J.quiet (Y.not rfl) rfl ?_
    refine J.quiet (Y.move rfl) rfl ?_
    refine J.guard (by exact rfl) (by exact rfl) (fun hp12 => ?_) (fun hp12 => ?_)
    · replace h := ifP hp12 h
      refine J.guardN rfl rfl rfl ?_
      refine J.guardN rfl rfl rfl ?_
      refine J.quiet (Y.pickT rfl rfl) rfl ?_
      refine J.quiet (Y.move rfl) rfl ?_
      refine J.guardN rfl rfl rfl ?_
      refine J.guardN rfl rfl rfl ?_
      refine J.guardN rfl rfl rfl ?_
      refine J.guardN rfl rfl rfl ?_
      refine J.guardN rfl rfl rfl ?_
      refine J.quiet (Y.pickT rfl rfl) rfl ?_
      refine J.done ?_
      refine J.thenN ?_
      exact J.meetI (true) (()) h (by repeat (first | exact SubF.nil | refine SubF.cons rfl ?_)) (SubM.refl _) (LentAll.refl _ _)
    · replace h := ifBN hp12 h
      refine J.guardY rfl (Y.move rfl) rfl ?_
      refine J.guardY rfl (Y.lss rfl rfl) rfl ?_
      refine J.quiet (Y.pickF rfl rfl) rfl ?_
      refine J.quiet (Y.move rfl) rfl ?_
      refine J.guardD (by exact rfl) (by exact rfl) (fun hp13 => ?_) (fun hp13 => ?_)
      · replace h := ifP hp13 h
        refine J.guardN rfl rfl rfl ?_
        refine J.guardN rfl rfl rfl ?_
        refine J.guardN rfl rfl rfl ?_
        refine J.guardN rfl rfl rfl ?_
        refine J.guardN rfl rfl rfl ?_
        refine J.quiet (Y.pickT rfl rfl) rfl ?_
        refine J.done ?_
        refine J.thenN ?_
        exact J.meetI (true) (()) h (by repeat (first | exact SubF.nil | refine SubF.cons rfl ?_)) (SubM.refl _) (LentAll.refl _ _)
      · replace h := ifN hp13 h
        refine J.guardY rfl (Y.move rfl) rfl ?_
        refine J.guardY rfl (Y.fieldB rfl rfl rfl rfl rfl) rfl ?_
        refine J.guardY rfl (Y.loadB 0 rfl rfl rfl rfl rfl) rfl ?_
        refine J.guardY rfl (Y.lenN rfl (Lent.fact 1 rfl) rfl) rfl ?_
        refine J.guardY rfl (Y.geq rfl rfl) rfl ?_
        refine J.quiet (Y.pickF rfl rfl) rfl ?_
        refine J.done ?_
        refine J.thenN ?_
        exact J.meetI (decide ((List.length p0.2 : Int) ≤ p1)) (()) h (by repeat (first | exact SubF.nil | refine SubF.cons rfl ?_)) (SubM.refl _) (LentAll.refl _ _)
  · clear h
    intro a3 b4 h
    unfold graph_Distances_k1 at h
    refine J.cond (by exact rfl) (fun hp5 => ?_) (fun hp5 => ?_)
    · replace h := ifP hp5 h
      refine J.seq ?_
      refine J.region ?_
      refine J.quiet (Y.assign rfl) rfl ?_
      refine J.done ?_
      refine J.thenN ?_
      refine J.ret ?_
      refine J.thenR ?_
      refine J.stp (Stp.nilAr EI64) ?_
      obtain rfl := Option.some.inj h
      exact J.retG1 (Value.slice none 0 0) rfl rfl (RV.tmp rfl) (SubM.cons 0 rfl (SubM.nil)) LentAll.nil
    · replace h := ifBN hp5 h
      refine J.skip ?_
      refine J.thenN ?_
      refine J.seq ?_
      refine J.region ?_
      refine J.quiet (Y.loadBAll 0 rfl rfl rfl rfl) rfl ?_
      refine J.quiet (Y.move rfl) rfl ?_
      replace h := bnd h; obtain ⟨r6, hr7, h⟩ := h
      refine J.loud (Loud.callL body81 (t_graph_search fuel v0 v1 z2 r6 hr7) rfl (LentAll.cons (Lent.fact 0 rfl) (LentAll.cons (Lent.fact 1 rfl) (LentAll.nil))) (fun _ _ => rfl)) rfl fun x8 => ?_
      refine J.quiet (Y.assign rfl) rfl ?_
      refine J.done ?_
      refine J.thenN ?_
      refine J.ret ?_
      obtain rfl := Option.some.inj h
      exact J.retG1 (x8) rfl rfl (RV.tmp rfl) (SubM.cons 0 rfl (SubM.nil)) LentAll.nil

end Go.Proofs.Ytemhmmcakmidkaa
end
section
set_option linter.unusedVariables false
set_option linter.unusedSimpArgs false
namespace Go.Proofs.Ytemhmmcakmidkaa
open Go.Sx
theorem mod_ok (p : Int) {n : Nat} (hn : 1 ≤ n) (h24 : n ≤ 24) : OK (fun r : Int => ∃ s : Nat, r = s ∧ s < n) (m_made_Mod 1000 p (n : Int)) := by
  have h1 : Int.tmod p n < n := Int.tmod_lt_of_pos _ (by omega)
  have h2 : -(n : Int) < Int.tmod p n := by
    have := Int.tmod_lt_of_pos (-p) (show (0 : Int) < n by omega)
    rw [Int.neg_tmod] at this
    omega
  unfold m_made_Mod made_Mod_k1
  rw [ckT (by omega)]
  by_cases h : Int.tmod p n < 0
  · rw [if_pos h, wr (by omega) (by omega)]
    exact ⟨_, rfl, (Int.tmod p n + n).toNat, by omega, by omega⟩
  · rw [if_neg h]
    exact ⟨_, rfl, (Int.tmod p n).toNat, by omega, by omega⟩

theorem distances_ok {g : GR} (hV : VG g) {s : Nat} (hs : s < g.2.length) : OK (Dist g s) (m_graph_Distances 1000 g (s : Int)) := by
  unfold m_graph_Distances graph_Distances_k1
  rw [(valid_eq g hV.light).1 hV, bindS rfl, if_neg (by simp), if_neg (by omega), decide_eq_false (by omega), if_neg (by simp)]
  obtain ⟨d, hd, hD⟩ := search_ok hV hs
  rw [hd]
  exact ⟨d, rfl, hD⟩

end Go.Proofs.Ytemhmmcakmidkaa
end
section
set_option linter.unusedVariables false
set_option linter.unusedSimpArgs false
namespace Go.Proofs.Ytemhmmcakmidkaa
open Go.Sx
/-- k steps lead from s to v -/
def Walk (g : GR) (s : Nat) : Nat → Nat → Prop
  | 0, v => v = s ∧ s < g.2.length
  | k + 1, v => ∃ u, Walk g s k u ∧ Adj g u v

theorem Walk.lt {g : GR} (hV : VG g) {s : Nat} : ∀ {k v : Nat}, Walk g s k v → v < g.2.length
  | 0, _, h => by obtain ⟨rfl, h⟩ := h; exact h
  | _ + 1, _, h => by obtain ⟨u, h1, h2⟩ := h; exact hV.adj_lt (Walk.lt hV h1) h2

theorem Walk.trans {g : GR} {s t : Nat} {k : Nat} (h : Walk g s k t) : ∀ {m v : Nat}, Walk g t m v → Walk g s (k + m) v
  | 0, _, h2 => by obtain ⟨rfl, _⟩ := h2; exact h
  | _ + 1, _, h2 => by obtain ⟨u, h3, h4⟩ := h2; exact ⟨u, Walk.trans h h3, h4⟩

theorem Walk.rev {g : GR} (hV : VG g) {s : Nat} : ∀ {k v : Nat}, Walk g s k v → Walk g v k s
  | 0, _, h => by obtain ⟨rfl, h⟩ := h; exact ⟨rfl, h⟩
  | k + 1, v, h => by
    obtain ⟨u, h1, h2⟩ := h
    have hu := Walk.lt hV h1
    have h3 : Walk g v 1 u := ⟨v, ⟨rfl, hV.adj_lt hu h2⟩, hV.back hu h2⟩
    have := Walk.trans h3 (Walk.rev hV h1)
    rwa [Nat.add_comm] at this

theorem Dist.le {g : GR} (hV : VG g) {s : Nat} {d : List Int} (h : Dist g s d) : ∀ {k v : Nat}, Walk g s k v → 0 ≤ D d v ∧ D d v ≤ k
  | 0, v, hw => by
    obtain ⟨rfl, hs⟩ := hw
    have := (h.zero v hs).2 rfl
    omega
  | k + 1, v, hw => by
    obtain ⟨u, h1, h2⟩ := hw
    have hu := Walk.lt hV h1
    have h3 := Dist.le hV h h1
    have h4 := h.next u hu h3.1 v (hV.adj_lt hu h2) h2
    omega

theorem Dist.walk {g : GR} (hV : VG g) {s : Nat} {d : List Int} (h : Dist g s d) : ∀ (k v : Nat), v < g.2.length → D d v = k → Walk g s k v
  | 0, v, hv, he => by
    have := (h.zero v hv).1 he
    exact ⟨this, by omega⟩
  | k + 1, v, hv, he => by
    obtain ⟨u, hu, hadj, hd⟩ := h.near v hv (by omega)
    exact ⟨u, Dist.walk hV h k u hu (by omega), hV.back hv hadj⟩

theorem Dist.pos {g : GR} (hV : VG g) {s : Nat} {d : List Int} (h : Dist g s d) {v : Nat} (hv : v < g.2.length) (h0 : 0 ≤ D d v) : Walk g s (D d v).toNat v :=
  Dist.walk hV h _ v hv (by omega)

/-- distances are symmetric -/
theorem Dist.symm {g : GR} (hV : VG g) {s t : Nat} {d e : List Int} (h : Dist g s d) (h2 : Dist g t e) (hs : s < g.2.length) (ht : t < g.2.length) : D d t = D e s := by
  have h3 := h.lo t ht
  have h4 := h2.lo s hs
  by_cases a : 0 ≤ D d t
  · have w1 := Dist.le hV h2 (Walk.rev hV (Dist.pos hV h ht a))
    have w2 := Dist.le hV h (Walk.rev hV (Dist.pos hV h2 hs w1.1))
    omega
  · by_cases b : 0 ≤ D e s
    · have w2 := Dist.le hV h (Walk.rev hV (Dist.pos hV h2 hs b))
      omega
    · omega

end Go.Proofs.Ytemhmmcakmidkaa
end
section
set_option linter.unusedVariables false
set_option linter.unusedSimpArgs false
namespace Go.Proofs.Ytemhmmcakmidkaa
open Go.Sx
/-- r is the eccentricity of s -/
def Ecc (g : GR) (s : Nat) (r : Int) : Prop := ∃ d, m_graph_search 1000 g (s : Int) = some d ∧ Dist g s d ∧ (∀ v, v < g.2.length → D d v ≤ r) ∧ ∃ v, v < g.2.length ∧ D d v = r

theorem Ecc.pos {g : GR} {s : Nat} {r : Int} (hs : s < g.2.length) (h : Ecc g s r) : 0 ≤ r ∧ r ≤ (g.2.length : Int) := by
  obtain ⟨d, h1, h2, h3, v, hv, hr⟩ := h
  have := h3 s hs
  have := (h2.zero s hs).2 rfl
  have := h2.hi v hv
  omega

end Go.Proofs.Ytemhmmcakmidkaa
end
section
set_option linter.unusedVariables false
set_option linter.unusedSimpArgs false
namespace Go.Proofs.Ytemhmmcakmidkaa
open Go.Sx
theorem degree_eq {g : GR} (hV : VG g) {v : Nat} (hv : v < g.2.length) : m_graph_Degree 1000 g (v : Int) = some ((row g v).length : Int) := by
  unfold m_graph_Degree graph_Degree_k1
  rw [(valid_eq g hV.light).1 hV, bindS rfl, if_neg (by simp), if_neg (by omega), decide_eq_false (by omega), if_neg (by simp), ckT (by omega)]

end Go.Proofs.Ytemhmmcakmidkaa
end
section
set_option linter.unusedVariables false
set_option linter.unusedSimpArgs false
namespace Go.Proofs.Ytemhmmcakmidkaa
open Go.Sx
theorem iota_len (n : Nat) : (iota n).length = n := by simp [iota]
end Go.Proofs.Ytemhmmcakmidkaa
end
section
set_option linter.unusedVariables false
set_option linter.unusedSimpArgs false
namespace Go.Proofs.Ytemhmmcakmidkaa
open Go.Sx
set_option linter.unusedVariables false
set_option linter.unusedSimpArgs false
def family_permutation_k1  (a4 : Unit) : Option (Bool) :=
  some (true)
def family_permutation_k2 (p0 : List (Int)) (a9 : Int × List (Bool)) (ag8 : (Int × List (Bool)) → Option (Bool)) (a15 : Bool) : Option (Bool) :=
  if a15 = true then (some (false)) else (ck (0 ≤ (at' p0 a9.1) ∧ (at' p0 a9.1) < (List.length a9.2 : Int)) (ag8 ((wI .i64 (a9.1 + (1 : Int))), (List.set a9.2 (Int.toNat (at' p0 a9.1)) true))))
def family_permutation_s1 (p0 : List (Int)) (p1 : Int) (a9 : Int × List (Bool)) (ag8 : (Int × List (Bool)) → Option (Bool)) : Option (Bool) :=
  if a9.1 < (List.length p0 : Int) then (ck (0 ≤ a9.1 ∧ a9.1 < (List.length p0 : Int)) (if (at' p0 a9.1) < (0 : Int) then (family_permutation_k2 p0 a9 ag8 (true)) else (if p1 ≤ (at' p0 a9.1) then (family_permutation_k2 p0 a9 ag8 (true)) else (ck (0 ≤ (at' p0 a9.1) ∧ (at' p0 a9.1) < (List.length a9.2 : Int)) (family_permutation_k2 p0 a9 ag8 ((at' a9.2 (at' p0 a9.1)))))))) else (family_permutation_k1  (()))
def m_family_permutation (fuel : Nat) (p0 : List (Int)) (p1 : Int) : Option (Bool) :=
  if (List.length p0 : Int) ≠ p1 then (some (false)) else (ck (0 ≤ p1 ∧ p1 ≤ 1099511627) (iter (family_permutation_s1 p0 p1) fuel ((0 : Int), (List.replicate (Int.toNat p1) false))))

theorem body86 : HasBody Try.prog 86 := Try.call86

set_option maxHeartbeats 4000000 in
set_option maxRecDepth 20000 in
theorem t_family_permutation (fuel : Nat) {p0 : List (Int)} {p1 : Int} (v0 : Value) (r : Bool) (h : m_family_permutation fuel p0 p1 = some r) :
    Meets Try.prog 86 #[v0, Value.int .i64 (p1)] [Sl RI64 v0 p0] (fun x : Unit => Value.bool (r)) (fun x l => l) (fun _ l => l) := by
  refine Meets.of (vs := [v0, Value.int .i64 (p1)]) Try.func86 rfl Try.ntmps86 rfl fun c => ?_
  unfold m_family_permutation at h
  refine J.seq ?_
  refine J.region ?_
  refine J.quiet (Y.assign rfl) rfl ?_
  refine J.done ?_
  refine J.thenN ?_
  refine J.seq ?_
  refine J.seq ?_
  refine J.region ?_
  refine J.quiet (Y.move rfl) rfl ?_
  refine J.quiet (Y.lenS rfl (Lent.fact 0 rfl) rfl) rfl ?_
  refine J.quiet (Y.move rfl) rfl ?_
  refine J.quiet (Y.neq rfl rfl) rfl ?_
  refine J.done ?_
  refine J.thenN ?_
  refine J.condD (by exact rfl) (fun hp1 => ?_) (fun hp1 => ?_)
  · replace h := ifP hp1 h
    refine J.seq ?_
    refine J.region ?_
    refine J.quiet (Y.assign rfl) rfl ?_
    refine J.done ?_
    refine J.thenN ?_
    refine J.ret ?_
    refine J.thenR ?_
    obtain rfl := Option.some.inj h
    exact J.retG1 (()) rfl rfl (RV.tmp rfl) (SubM.refl _) LentAll.nil
  · replace h := ifN hp1 h
    refine J.skip ?_
    refine J.thenN ?_
    refine J.seq ?_
    refine J.region ?_
    refine J.quiet (Y.move rfl) rfl ?_
    replace h := ck_some h; obtain ⟨hc2, h⟩ := h
    refine J.loud (Loud.makeS (e := EBo) false rfl rfl rfl rfl hc2 rfl rfl rfl) rfl fun u3 => ?_
    refine J.quiet (Y.assign rfl) rfl ?_
    refine J.done ?_
    refine J.thenN ?_
    refine J.seq ?_
    refine J.midI (A := Unit) (B := Unit) (fun a4 => family_permutation_k1  a4 = some r) (fun a4 b5 => []) (fun a4 b5 => []) (fun a4 b5 => [Sl RI64 v0 p0]) ?_ ?_
    · refine J.seq ?_
      refine J.region ?_
      refine J.quiet (Y.move rfl) rfl ?_
      refine J.quiet (Y.lenS rfl (Lent.fact 0 rfl) rfl) rfl ?_
      refine J.quiet (Y.move rfl) rfl ?_
      refine J.done ?_
      refine J.thenN ?_
      refine J.block ?_
      refine J.loopI (A := Int × List (Bool)) (B := Unit) (family_permutation_s1 p0 p1) (fun a9 b10 => [(1, Value.int .i64 (p1)), (5, u3), (14, v0), (15, Value.int .i64 (List.length p0 : Int)), (16, Value.int .i64 (a9.1))]) (fun a9 b10 => [Ar EBo u3 a9.2]) (fun a9 b10 => [Sl RI64 v0 p0]) ((0 : Int), (List.replicate (Int.toNat p1) false)) (()) h (by repeat (first | exact SubF.nil | refine SubF.cons rfl ?_)) (SubM.refl _) (LentAll.refl _ _) ?_
      clear h
      intro k11 a9 b10 h
      unfold family_permutation_s1 at h
      refine J.seq ?_
      refine J.region ?_
      refine J.quiet (Y.lss rfl rfl) rfl ?_
      refine J.done ?_
      refine J.thenN ?_
      refine J.seq ?_
      refine J.condD (by exact rfl) (fun hp12 => ?_) (fun hp12 => ?_)
      · replace h := ifP hp12 h
        refine J.skip ?_
        refine J.thenN ?_
        refine J.seq ?_
        refine J.block ?_
        refine J.seq ?_
        refine J.region ?_
        replace h := ck_some h; obtain ⟨hc13, h⟩ := h
        refine J.quiet (Y.indexS rfl rfl (Lent.fact 0 rfl) rfl rfl hc13) rfl ?_
        refine J.quiet (Y.loadS0 rfl (Lent.fact 0 rfl) rfl rfl rfl RI64c0 hc13) rfl ?_
        refine J.quiet (Y.assign rfl) rfl ?_
        refine J.done ?_
        refine J.thenN ?_
        refine J.seq ?_
        refine J.seq ?_
        refine J.midI (A := Bool) (B := Unit) (fun a15 => family_permutation_k2 p0 a9 (iter (family_permutation_s1 p0 p1) k11) a15 = some r) (fun a15 b16 => [(1, Value.int .i64 (p1)), (5, u3), (7, Value.int .i64 (at' p0 a9.1)), (14, v0), (15, Value.int .i64 (List.length p0 : Int)), (16, Value.int .i64 (a9.1)), (32, Value.bool (a15))]) (fun a15 b16 => [Ar EBo u3 a9.2]) (fun a15 b16 => [Sl RI64 v0 p0]) ?_ ?_
        · refine J.region ?_
          refine J.quiet (Y.move rfl) rfl ?_
          refine J.quiet (Y.lss rfl rfl) rfl ?_
          refine J.quiet (Y.move rfl) rfl ?_
          refine J.guardD (by exact rfl) (by exact rfl) (fun hp19 => ?_) (fun hp19 => ?_)
          · replace h := ifP hp19 h
            refine J.guardN rfl rfl rfl ?_
            refine J.guardN rfl rfl rfl ?_
            refine J.guardN rfl rfl rfl ?_
            refine J.quiet (Y.pickT rfl rfl) rfl ?_
            refine J.quiet (Y.move rfl) rfl ?_
            refine J.guardN rfl rfl rfl ?_
            refine J.guardN rfl rfl rfl ?_
            refine J.guardN rfl rfl rfl ?_
            refine J.guardN rfl rfl rfl ?_
            refine J.quiet (Y.pickT rfl rfl) rfl ?_
            refine J.done ?_
            refine J.thenN ?_
            exact J.meetI (true) (()) h (by repeat (first | exact SubF.nil | refine SubF.cons rfl ?_)) (SubM.refl _) (LentAll.refl _ _)
          · replace h := ifN hp19 h
            refine J.guardY rfl (Y.move rfl) rfl ?_
            refine J.guardY rfl (Y.move rfl) rfl ?_
            refine J.guardY rfl (Y.geq rfl rfl) rfl ?_
            refine J.quiet (Y.pickF rfl rfl) rfl ?_
            refine J.quiet (Y.move rfl) rfl ?_
            refine J.guardD (by exact rfl) (by exact rfl) (fun hp20 => ?_) (fun hp20 => ?_)
            · replace h := ifP hp20 h
              refine J.guardN rfl rfl rfl ?_
              refine J.guardN rfl rfl rfl ?_
              refine J.guardN rfl rfl rfl ?_
              refine J.guardN rfl rfl rfl ?_
              refine J.quiet (Y.pickT rfl rfl) rfl ?_
              refine J.done ?_
              refine J.thenN ?_
              exact J.meetI (true) (()) h (by repeat (first | exact SubF.nil | refine SubF.cons rfl ?_)) (SubM.refl _) (LentAll.refl _ _)
            · replace h := ifN hp20 h
              refine J.guardY rfl (Y.move rfl) rfl ?_
              refine J.guardY rfl (Y.move rfl) rfl ?_
              replace h := ck_some h; obtain ⟨hc21, h⟩ := h
              refine J.guardY rfl (Y.indexS rfl rfl (Lent.ar (Lent.res 0 rfl) FBo) rfl rfl hc21) rfl ?_
              refine J.guardY rfl (Y.loadS0 rfl (Lent.ar (Lent.res 0 rfl) FBo) rfl rfl rfl RBoc0 hc21) rfl ?_
              refine J.quiet (Y.pickF rfl rfl) rfl ?_
              refine J.done ?_
              refine J.thenN ?_
              exact J.meetI ((at' a9.2 (at' p0 a9.1))) (()) h (by repeat (first | exact SubF.nil | refine SubF.cons rfl ?_)) (SubM.refl _) (LentAll.refl _ _)
        · clear h
          intro a15 b16 h
          unfold family_permutation_k2 at h
          refine J.cond (by exact rfl) (fun hp17 => ?_) (fun hp17 => ?_)
          · replace h := ifP hp17 h
            refine J.seq ?_
            refine J.region ?_
            refine J.quiet (Y.assign rfl) rfl ?_
            refine J.done ?_
            refine J.thenN ?_
            refine J.ret ?_
            refine J.thenR ?_
            refine J.inR ?_
            refine J.thenR ?_
            refine J.thenR ?_
            refine J.inR ?_
            refine J.thenR ?_
            obtain rfl := Option.some.inj h
            exact J.retG1 (()) rfl rfl (RV.tmp rfl) (SubM.nil) LentAll.nil
          · replace h := ifBN hp17 h
            refine J.skip ?_
            refine J.thenN ?_
            refine J.region ?_
            refine J.quiet (Y.move rfl) rfl ?_
            refine J.quiet (Y.move rfl) rfl ?_
            replace h := ck_some h; obtain ⟨hc18, h⟩ := h
            refine J.quiet (Y.indexS rfl rfl (Lent.ar (Lent.res 0 rfl) FBo) rfl rfl hc18) rfl ?_
            refine J.storeS 0 true hc18 rfl rfl rfl rfl rfl rfl rfl ?_
            refine J.done ?_
            refine J.inN ?_
            refine J.thenN ?_
            refine J.region ?_
            refine J.quiet (Y.addW rfl rfl) rfl ?_
            refine J.quiet (Y.move rfl) rfl ?_
            refine J.done ?_
            refine J.thenN ?_
            exact J.againI ((wI .i64 (a9.1 + (1 : Int))), (List.set a9.2 (Int.toNat (at' p0 a9.1)) true)) (()) h (by repeat (first | exact SubF.nil | refine SubF.cons rfl ?_)) (SubM.refl _) (LentAll.refl _ _)
      · replace h := ifN hp12 h
        refine J.exit ?_
        refine J.thenX ?_
        refine J.thenX ?_
        refine J.inX ?_
        refine J.thenN ?_
        exact J.meetI (()) (()) h (by repeat (first | exact SubF.nil | refine SubF.cons rfl ?_)) (SubM.nil) (LentAll.refl _ _)
    · clear h
      intro a4 b5 h
      unfold family_permutation_k1 at h
      refine J.seq ?_
      refine J.region ?_
      refine J.quiet (Y.assign rfl) rfl ?_
      refine J.done ?_
      refine J.thenN ?_
      refine J.ret ?_
      obtain rfl := Option.some.inj h
      exact J.retG1 (()) rfl rfl (RV.tmp rfl) (SubM.refl _) LentAll.nil

end Go.Proofs.Ytemhmmcakmidkaa
end
section
set_option linter.unusedVariables false
set_option linter.unusedSimpArgs false
namespace Go.Proofs.Ytemhmmcakmidkaa
open Go.Sx
set_option linter.unusedVariables false
set_option linter.unusedSimpArgs false
def family_Relabel_k1  (a20 : List (Int) × (List (List (Int × Int)))) : Option ((List (Int) × (List (List (Int × Int)))) × Int) :=
  some (((a20.1, a20.2)), (0 : Int))
def family_Relabel_k2 (p0 : List (Int) × (List (List (Int × Int)))) (p1 : List (Int)) (a29 : Int × List (Int) × (List (List (Int × Int)))) (ag28 : (Int × List (Int) × (List (List (Int × Int)))) → Option ((List (Int) × (List (List (Int × Int)))) × Int)) (a35 : (List (List (Int × Int)))) : Option ((List (Int) × (List (List (Int × Int)))) × Int) :=
  ag28 ((wI .i64 (a29.1 + (1 : Int))), (List.set a29.2.1 (Int.toNat (at' p1 a29.1)) (at' p0.1 a29.1)), a35)
def family_Relabel_s2 (p0 : List (Int) × (List (List (Int × Int)))) (p1 : List (Int)) (a29 : Int × List (Int) × (List (List (Int × Int)))) (ag28 : (Int × List (Int) × (List (List (Int × Int)))) → Option ((List (Int) × (List (List (Int × Int)))) × Int)) (a45 : Int × (List (List (Int × Int)))) (ag44 : (Int × (List (List (Int × Int)))) → Option ((List (Int) × (List (List (Int × Int)))) × Int)) : Option ((List (Int) × (List (List (Int × Int)))) × Int) :=
  if a45.1 < (List.length (at' p0.2 a29.1) : Int) then (ck (0 ≤ a45.1 ∧ a45.1 < (List.length (at' p0.2 a29.1) : Int)) (ck (0 ≤ a29.1 ∧ a29.1 < (List.length p1 : Int)) (ck (0 ≤ a29.1 ∧ a29.1 < (List.length p1 : Int)) (ck (0 ≤ (at' p1 a29.1) ∧ (at' p1 a29.1) < (List.length a45.2 : Int)) (ck (0 ≤ ((at' (at' p0.2 a29.1) a45.1).1) ∧ ((at' (at' p0.2 a29.1) a45.1).1) < (List.length p1 : Int)) (ck ((List.length (at' a45.2 (at' p1 a29.1)) : Int) + (List.length ([ ((at' p1 ((at' (at' p0.2 a29.1) a45.1).1)), ((at' (at' p0.2 a29.1) a45.1).2))]) : Int) ≤ 1099511627) (ck (0 ≤ (at' p1 a29.1) ∧ (at' p1 a29.1) < (List.length (List.set a45.2 (Int.toNat (at' p1 a29.1)) ((at' a45.2 (at' p1 a29.1)) ++ ([ ((at' p1 ((at' (at' p0.2 a29.1) a45.1).1)), ((at' (at' p0.2 a29.1) a45.1).2))]))) : Int)) (ag44 ((wI .i64 (a45.1 + (1 : Int))), (List.set a45.2 (Int.toNat (at' p1 a29.1)) ((at' a45.2 (at' p1 a29.1)) ++ ([ ((at' p1 ((at' (at' p0.2 a29.1) a45.1).1)), ((at' (at' p0.2 a29.1) a45.1).2))])))))))))))) else (family_Relabel_k2 p0 p1 a29 ag28 (a45.2))
def family_Relabel_s1 (fuel : Nat) (p0 : List (Int) × (List (List (Int × Int)))) (p1 : List (Int)) (a29 : Int × List (Int) × (List (List (Int × Int)))) (ag28 : (Int × List (Int) × (List (List (Int × Int)))) → Option ((List (Int) × (List (List (Int × Int)))) × Int)) : Option ((List (Int) × (List (List (Int × Int)))) × Int) :=
  if a29.1 < (List.length p0.2 : Int) then (ck (0 ≤ a29.1 ∧ a29.1 < (List.length p0.2 : Int)) (ck (0 ≤ a29.1 ∧ a29.1 < (List.length p1 : Int)) (ck (0 ≤ a29.1 ∧ a29.1 < (List.length p0.1 : Int)) (ck (0 ≤ (at' p1 a29.1) ∧ (at' p1 a29.1) < (List.length a29.2.1 : Int)) (iter (family_Relabel_s2 p0 p1 a29 ag28) fuel ((0 : Int), a29.2.2)))))) else (family_Relabel_k1  (a29.2.1, a29.2.2))
def m_family_Relabel (fuel : Nat) (p0 : List (Int) × (List (List (Int × Int)))) (p1 : List (Int)) : Option ((List (Int) × (List (List (Int × Int)))) × Int) :=
  Option.bind (m_graph_Valid fuel ((p0.1, p0.2))) fun r3 => (if (!r3) = true then (some (((([] : List Int), ([] : List (List (Int × Int))))), (1 : Int))) else (Option.bind (m_family_permutation fuel p1 (List.length p0.1 : Int)) fun r7 => (if (!r7) = true then (some (((([] : List Int), ([] : List (List (Int × Int))))), (2 : Int))) else (Option.bind (m_family_empty fuel (List.length p0.1 : Int)) fun r11 => (iter (family_Relabel_s1 fuel p0 p1) fuel ((0 : Int), r11.1, r11.2))))))

theorem body47 : HasBody Try.prog 47 := Try.call47

set_option maxHeartbeats 4000000 in
set_option maxRecDepth 20000 in
theorem t_family_Relabel (fuel : Nat) {p0 : List (Int) × (List (List (Int × Int)))} {p1 : List (Int)} (v0 : Value)  (v1 : Value)  (z2 : List (Value × List (Int × Int)))  (v3 : Value) (r : (List (Int) × (List (List (Int × Int)))) × Int) (h : m_family_Relabel fuel p0 p1 = some r) :
    Meets Try.prog 47 #[Value.agg #[v0, v1], v3] [Sl RI64 v0 p0.1, S2 RI64I64p v1 z2 p0.2, Sl RI64 v3 p1] (fun x : Value × Value × List Value => Value.tuple #[Value.agg #[x.1, x.2.1], Value.int .i64 (r.2)]) (fun x l => Ar EI64 x.1 r.1.1 :: Ar Enc.raw x.2.1 x.2.2 :: Rws EI64I64p x.2.2 r.1.2 :: l) (fun _ l => l) := by
  refine Meets.of (vs := [Value.agg #[v0, v1], v3]) Try.func47 rfl Try.ntmps47 rfl fun c => ?_
  unfold m_family_Relabel at h
  refine J.seq ?_
  refine J.region ?_
  refine J.loud (Loud.box (cs := [v0, v1]) rfl rfl) rfl fun b1 => ?_
  refine J.loud (Loud.alloc (cs := [Value.slice none 0 0, Value.slice none 0 0]) rfl rfl) rfl fun b2 => ?_
  refine J.quiet (Y.assign rfl) rfl ?_
  refine J.done ?_
  refine J.thenN ?_
  refine J.seq ?_
  refine J.seq ?_
  refine J.region ?_
  refine J.quiet (Y.loadBAll 1 rfl rfl rfl rfl) rfl ?_
  replace h := bnd h; obtain ⟨r3, hr4, h⟩ := h
  refine J.loud (Loud.callL body64 (t_graph_Valid fuel v0 v1 z2 r3 hr4) rfl (LentAll.cons (Lent.fact 0 rfl) (LentAll.cons (Lent.fact 1 rfl) (LentAll.nil))) (fun _ _ => rfl)) rfl fun x5 => ?_
  refine J.quiet (Y.not rfl) rfl ?_
  refine J.done ?_
  refine J.thenN ?_
  refine J.cond (by exact rfl) (fun hp6 => ?_) (fun hp6 => ?_)
  · replace h := ifP hp6 h
    refine J.seq ?_
    refine J.region ?_
    refine J.quiet (Y.bld0 (r := Value.agg #[Value.slice none 0 0, Value.slice none 0 0]) (by intro w; simp [Instr.build, Instr.fill, cells_intV, cells_boolV, cells_sliceV, cells_ptrV, cells_strV, cells_funcV, cells_agg])) rfl ?_
    refine J.storeAll 0 (vs := [Value.slice none 0 0, Value.slice none 0 0]) rfl rfl rfl rfl rfl rfl ?_
    refine J.quiet (Y.assign rfl) rfl ?_
    refine J.done ?_
    refine J.thenN ?_
    refine J.ret ?_
    refine J.thenR ?_
    refine J.stp (Stp.nilAr EI64) ?_
    refine J.stp (Stp.nilAr Enc.raw) (J.stp (Stp.rowsNil EI64I64p) ?_)
    obtain rfl := Option.some.inj h
    exact J.retG2 ((Value.slice none 0 0), (Value.slice none 0 0), ([] : List Value)) rfl rfl (RV.cell 3 rfl rfl rfl rfl) (RV.tmp rfl) (SubM.cons 2 rfl (SubM.cons 1 rfl (SubM.cons 0 rfl (SubM.nil)))) LentAll.nil
  · replace h := ifBN hp6 h
    refine J.skip ?_
    refine J.thenN ?_
    refine J.seq ?_
    refine J.seq ?_
    refine J.region ?_
    refine J.quiet (Y.move rfl) rfl ?_
    refine J.quiet (Y.fieldB rfl rfl rfl rfl rfl) rfl ?_
    refine J.quiet (Y.loadB 1 rfl rfl rfl rfl rfl) rfl ?_
    refine J.quiet (Y.lenS rfl (Lent.fact 0 rfl) rfl) rfl ?_
    replace h := bnd h; obtain ⟨r7, hr8, h⟩ := h
    refine J.loud (Loud.callL body86 (t_family_permutation fuel v3 r7 hr8) rfl (LentAll.cons (Lent.fact 2 rfl) (LentAll.nil)) (fun _ _ => rfl)) rfl fun x9 => ?_
    refine J.quiet (Y.not rfl) rfl ?_
    refine J.done ?_
    refine J.thenN ?_
    refine J.cond (by exact rfl) (fun hp10 => ?_) (fun hp10 => ?_)
    · replace h := ifP hp10 h
      refine J.seq ?_
      refine J.region ?_
      refine J.quiet (Y.bld0 (r := Value.agg #[Value.slice none 0 0, Value.slice none 0 0]) (by intro w; simp [Instr.build, Instr.fill, cells_intV, cells_boolV, cells_sliceV, cells_ptrV, cells_strV, cells_funcV, cells_agg])) rfl ?_
      refine J.storeAll 0 (vs := [Value.slice none 0 0, Value.slice none 0 0]) rfl rfl rfl rfl rfl rfl ?_
      refine J.quiet (Y.assign rfl) rfl ?_
      refine J.done ?_
      refine J.thenN ?_
      refine J.ret ?_
      refine J.thenR ?_
      refine J.stp (Stp.nilAr EI64) ?_
      refine J.stp (Stp.nilAr Enc.raw) (J.stp (Stp.rowsNil EI64I64p) ?_)
      obtain rfl := Option.some.inj h
      exact J.retG2 ((Value.slice none 0 0), (Value.slice none 0 0), ([] : List Value)) rfl rfl (RV.cell 3 rfl rfl rfl rfl) (RV.tmp rfl) (SubM.cons 2 rfl (SubM.cons 1 rfl (SubM.cons 0 rfl (SubM.nil)))) LentAll.nil
    · replace h := ifBN hp10 h
      refine J.skip ?_
      refine J.thenN ?_
      refine J.seq ?_
      refine J.region ?_
      refine J.quiet (Y.fieldB rfl rfl rfl rfl rfl) rfl ?_
      refine J.quiet (Y.loadB 1 rfl rfl rfl rfl rfl) rfl ?_
      refine J.quiet (Y.lenS rfl (Lent.fact 0 rfl) rfl) rfl ?_
      replace h := bnd h; obtain ⟨r11, hr12, h⟩ := h
      refine J.loud (Loud.callL body71 (t_family_empty fuel  r11 hr12) rfl (LentAll.nil) (fun _ _ => rfl)) rfl fun x13 => ?_
      refine J.loud (Loud.alloc (cs := [Value.slice none 0 0, Value.slice none 0 0]) rfl rfl) rfl fun b14 => ?_
      refine J.know (Know.one ((Lent.ar (Lent.res 1 rfl) FI64))) fun ho15 => ?_
      refine J.know (Know.one (Lent.sl (Lent.rows (i := 2) (j := 3) rfl rfl FI64I64p))) fun ho16 => ?_
      refine J.storeAll 0 (vs := [x13.1, x13.2.1]) rfl rfl (all1 ho15 (all1 ho16 rfl)) rfl rfl rfl ?_
      refine J.done ?_
      refine J.thenN ?_
      refine J.seq ?_
      refine J.midI (A := List (Int) × (List (List (Int × Int)))) (B := List Value) (fun a20 => family_Relabel_k1  a20 = some r) (fun a20 b21 => [(4, Value.pointer (some ⟨b2, 0, none⟩)), (6, Value.pointer (some ⟨b14, 0, none⟩))]) (fun a20 b21 => [Blk b14 [x13.1, x13.2.1] 26, Ar EI64 x13.1 a20.1, Ar Enc.raw x13.2.1 b21, Rws EI64I64p b21 a20.2, Blk b2 [Value.slice none 0 0, Value.slice none 0 0] 26]) (fun a20 b21 => [Sl RI64 v0 p0.1, S2 RI64I64p v1 z2 p0.2, Sl RI64 v3 p1]) ?_ ?_
      · refine J.seq ?_
        refine J.region ?_
        refine J.quiet (Y.fieldB rfl rfl rfl rfl rfl) rfl ?_
        refine J.quiet (Y.loadB 5 rfl rfl rfl rfl rfl) rfl ?_
        refine J.quiet (Y.lenN rfl (Lent.fact 1 rfl) rfl) rfl ?_
        refine J.quiet (Y.move rfl) rfl ?_
        refine J.done ?_
        refine J.thenN ?_
        refine J.block ?_
        refine J.loopI (A := Int × List (Int) × (List (List (Int × Int)))) (B := List Value) (family_Relabel_s1 fuel p0 p1) (fun a29 b30 => [(1, v3), (2, Value.pointer (some ⟨b1, 0, none⟩)), (4, Value.pointer (some ⟨b2, 0, none⟩)), (6, Value.pointer (some ⟨b14, 0, none⟩)), (27, v1), (28, Value.int .i64 (List.length p0.2 : Int)), (29, Value.int .i64 (a29.1))]) (fun a29 b30 => [Blk b14 [x13.1, x13.2.1] 26, Ar EI64 x13.1 a29.2.1, Ar Enc.raw x13.2.1 b30, Rws EI64I64p b30 a29.2.2, Blk b2 [Value.slice none 0 0, Value.slice none 0 0] 26, Blk b1 [v0, v1] 26]) (fun a29 b30 => [Sl RI64 v0 p0.1, S2 RI64I64p v1 z2 p0.2, Sl RI64 v3 p1]) ((0 : Int), r11.1, r11.2) (x13.2.2) h (by repeat (first | exact SubF.nil | refine SubF.cons rfl ?_)) (SubM.refl _) (LentAll.refl _ _) ?_
        clear h
        intro k31 a29 b30 h
        unfold family_Relabel_s1 at h
        refine J.seq ?_
        refine J.region ?_
        refine J.quiet (Y.lss rfl rfl) rfl ?_
        refine J.done ?_
        refine J.thenN ?_
        refine J.seq ?_
        refine J.condD (by exact rfl) (fun hp32 => ?_) (fun hp32 => ?_)
        · replace h := ifP hp32 h
          refine J.skip ?_
          refine J.thenN ?_
          refine J.seq ?_
          refine J.midI (A := (List (List (Int × Int)))) (B := List Value) (fun a35 => family_Relabel_k2 p0 p1 a29 (iter (family_Relabel_s1 fuel p0 p1) k31) a35 = some r) (fun a35 b36 => [(1, v3), (2, Value.pointer (some ⟨b1, 0, none⟩)), (4, Value.pointer (some ⟨b2, 0, none⟩)), (6, Value.pointer (some ⟨b14, 0, none⟩)), (27, v1), (28, Value.int .i64 (List.length p0.2 : Int)), (29, Value.int .i64 (a29.1))]) (fun a35 b36 => [Blk b14 [x13.1, x13.2.1] 26, Ar EI64 x13.1 (List.set a29.2.1 (Int.toNat (at' p1 a29.1)) (at' p0.1 a29.1)), Ar Enc.raw x13.2.1 b36, Rws EI64I64p b36 a35, Blk b2 [Value.slice none 0 0, Value.slice none 0 0] 26, Blk b1 [v0, v1] 26]) (fun a35 b36 => [Sl RI64 v0 p0.1, S2 RI64I64p v1 z2 p0.2, Sl RI64 v3 p1]) ?_ ?_
          · refine J.block ?_
            refine J.seq ?_
            refine J.region ?_
            refine J.quiet (Y.move rfl) rfl ?_
            replace h := ck_some h; obtain ⟨hc37, h⟩ := h
            refine J.quiet (Y.indexN rfl rfl (Lent.fact 1 rfl) rfl rfl hc37) rfl ?_
            refine J.quiet (Y.loadRow rfl (Lent.fact 1 rfl) rfl rfl hc37) rfl ?_
            refine J.quiet (Y.assign rfl) rfl ?_
            refine J.quiet (Y.assign rfl) rfl ?_
            refine J.done ?_
            refine J.thenN ?_
            refine J.seq ?_
            refine JR.start [0, 1, 0, 0, 12, 28, 0, 64, 0, 448, 960, 2047, 4095] 11 mixedOrders (by decide +kernel) ?_
            refine JR.open (by exact rfl) ?_
            refine JR.qt rfl (SubM.nil) (SubL.nil) (Y.fieldB rfl rfl rfl rfl rfl) HistOk.z ?_
            refine JR.qt rfl (SubM.cons 0 rfl (SubM.nil)) (SubL.nil) (Y.loadB 0 rfl rfl rfl rfl rfl) HistOk.z ?_
            refine JR.qt rfl (SubM.nil) (SubL.nil) (Y.move rfl) HistOk.z ?_
            refine JR.qt rfl (SubM.nil) (SubL.nil) (Y.move rfl) HistOk.z ?_
            replace h := ck_some h; obtain ⟨hc38, h⟩ := h
            refine JR.qt rfl (SubM.nil) (SubL.cons (List.mem_of_getElem? (i := 2) rfl) (SubL.nil)) (Y.indexS rfl rfl (Lent.fact 0 rfl) rfl rfl hc38) HistOk.z ?_
            refine JR.qt rfl (SubM.nil) (SubL.cons (List.mem_of_getElem? (i := 2) rfl) (SubL.nil)) (Y.loadS0 rfl (Lent.fact 0 rfl) rfl rfl rfl RI64c0 hc38) HistOk.z ?_
            refine JR.qt rfl (SubM.nil) (SubL.nil) (Y.fieldB rfl rfl rfl rfl rfl) HistOk.z ?_
            refine JR.qt rfl (SubM.cons 5 rfl (SubM.nil)) (SubL.nil) (Y.loadB 0 rfl rfl rfl rfl rfl) HistOk.z ?_
            refine JR.qt rfl (SubM.nil) (SubL.nil) (Y.move rfl) HistOk.z ?_
            replace h := ck_some h; obtain ⟨hc39, h⟩ := h
            refine JR.qt rfl (SubM.nil) (SubL.cons (List.mem_of_getElem? (i := 0) rfl) (SubL.nil)) (Y.indexS rfl rfl (Lent.fact 0 rfl) rfl rfl hc39) HistOk.z ?_
            refine JR.qt rfl (SubM.nil) (SubL.cons (List.mem_of_getElem? (i := 0) rfl) (SubL.nil)) (Y.loadS0 rfl (Lent.fact 0 rfl) rfl rfl rfl RI64c0 hc39) HistOk.z ?_
            refine JR.tailD 11 rfl rfl ?_
            replace h := ck_some h; obtain ⟨hc40, h⟩ := h
            refine J.quiet (Y.indexS rfl rfl (Lent.ar (Lent.res 1 rfl) FI64) rfl rfl hc40) rfl ?_
            refine J.storeS 1 (at' p0.1 a29.1) hc40 rfl rfl rfl rfl rfl rfl rfl ?_
            refine J.done ?_
            refine J.thenN ?_
            refine J.seq ?_
            refine J.region ?_
            refine J.quiet (Y.move rfl) rfl ?_
            refine J.quiet (Y.lenS rfl (Lent.el (Lent.fact 1 rfl) hc37.1 hc37.2) rfl) rfl ?_
            refine J.quiet (Y.move rfl) rfl ?_
            refine J.done ?_
            refine J.thenN ?_
            refine J.block ?_
            refine J.loopI (A := Int × (List (List (Int × Int)))) (B := List Value) (family_Relabel_s2 p0 p1 a29 (iter (family_Relabel_s1 fuel p0 p1) k31)) (fun a45 b46 => [(1, v3), (2, Value.pointer (some ⟨b1, 0, none⟩)), (4, Value.pointer (some ⟨b2, 0, none⟩)), (6, Value.pointer (some ⟨b14, 0, none⟩)), (7, Value.int .i64 (a29.1)), (27, v1), (28, Value.int .i64 (List.length p0.2 : Int)), (29, Value.int .i64 (a29.1)), (46, (at' z2 a29.1).1), (47, Value.int .i64 (List.length (at' p0.2 a29.1) : Int)), (48, Value.int .i64 (a45.1))]) (fun a45 b46 => [Blk b14 [x13.1, x13.2.1] 26, Ar EI64 x13.1 (List.set a29.2.1 (Int.toNat (at' p1 a29.1)) (at' p0.1 a29.1)), Ar Enc.raw x13.2.1 b46, Rws EI64I64p b46 a45.2, Blk b2 [Value.slice none 0 0, Value.slice none 0 0] 26, Blk b1 [v0, v1] 26]) (fun a45 b46 => [Sl RI64 v0 p0.1, S2 RI64I64p v1 z2 p0.2, Sl RI64 v3 p1]) ((0 : Int), a29.2.2) (b30) h (by repeat (first | exact SubF.nil | refine SubF.cons rfl ?_)) (SubM.refl _) (LentAll.refl _ _) ?_
            clear h
            intro k47 a45 b46 h
            unfold family_Relabel_s2 at h
            refine J.seq ?_
            refine J.region ?_
            refine J.quiet (Y.lss rfl rfl) rfl ?_
            refine J.done ?_
            refine J.thenN ?_
            refine J.seq ?_
            refine J.condD (by exact rfl) (fun hp48 => ?_) (fun hp48 => ?_)
            · replace h := ifP hp48 h
              refine J.skip ?_
              refine J.thenN ?_
              refine J.seq ?_
              refine J.block ?_
              refine J.seq ?_
              refine J.region ?_
              replace h := ck_some h; obtain ⟨hc49, h⟩ := h
              refine J.quiet (Y.indexS rfl rfl (Lent.el (Lent.fact 1 rfl) hc37.1 hc37.2) rfl rfl hc49) rfl ?_
              refine J.quiet (Y.loadAggS (cs := [Value.int .i64 ((at' (at' p0.2 a29.1) a45.1).1), Value.int .i64 ((at' (at' p0.2 a29.1) a45.1).2)]) rfl (Lent.el (Lent.fact 1 rfl) hc37.1 hc37.2) FI64I64p rfl rfl rfl rfl hc49) rfl ?_
              refine J.loud (Loud.alloc (cs := [Value.int .i64 (0 : Int), Value.int .i64 (0 : Int)]) rfl rfl) rfl fun b50 => ?_
              refine J.storeAll 0 (vs := [Value.int .i64 ((at' (at' p0.2 a29.1) a45.1).1), Value.int .i64 ((at' (at' p0.2 a29.1) a45.1).2)]) rfl rfl rfl rfl rfl rfl ?_
              refine J.done ?_
              refine J.thenN ?_
              refine JR.start [0, 1, 0, 0, 12, 28, 0, 64, 0, 0, 768, 1792, 4032, 8128, 0, 0, 32768, 114688, 245760, 0, 524288, 2080768, 4177920, 8388544, 16777215, 33554431] 24 mixedOrders (by decide +kernel) ?_
              refine JR.open (by exact rfl) ?_
              refine JR.qt rfl (SubM.nil) (SubL.nil) (Y.fieldB rfl rfl rfl rfl rfl) HistOk.z ?_
              refine JR.qt rfl (SubM.cons 1 rfl (SubM.nil)) (SubL.nil) (Y.loadB 0 rfl rfl rfl rfl rfl) HistOk.z ?_
              refine JR.qt rfl (SubM.nil) (SubL.nil) (Y.move rfl) HistOk.z ?_
              refine JR.qt rfl (SubM.nil) (SubL.nil) (Y.move rfl) HistOk.z ?_
              replace h := ck_some h; obtain ⟨hc51, h⟩ := h
              refine JR.qt rfl (SubM.nil) (SubL.cons (List.mem_of_getElem? (i := 2) rfl) (SubL.nil)) (Y.indexS rfl rfl (Lent.fact 0 rfl) rfl rfl hc51) HistOk.z ?_
              refine JR.qt rfl (SubM.nil) (SubL.cons (List.mem_of_getElem? (i := 2) rfl) (SubL.nil)) (Y.loadS0 rfl (Lent.fact 0 rfl) rfl rfl rfl RI64c0 hc51) HistOk.z ?_
              refine JR.qt rfl (SubM.nil) (SubL.nil) (Y.fieldB rfl rfl rfl rfl rfl) HistOk.z ?_
              refine JR.qt rfl (SubM.cons 1 rfl (SubM.nil)) (SubL.nil) (Y.loadB 0 rfl rfl rfl rfl rfl) HistOk.z ?_
              refine JR.qt rfl (SubM.nil) (SubL.nil) (Y.move rfl) HistOk.z ?_
              refine JR.qt rfl (SubM.nil) (SubL.nil) (Y.move rfl) HistOk.z ?_
              replace h := ck_some h; obtain ⟨hc52, h⟩ := h
              refine JR.qt rfl (SubM.nil) (SubL.cons (List.mem_of_getElem? (i := 2) rfl) (SubL.nil)) (Y.indexS rfl rfl (Lent.fact 0 rfl) rfl rfl hc52) HistOk.z ?_
              refine JR.qt rfl (SubM.nil) (SubL.cons (List.mem_of_getElem? (i := 2) rfl) (SubL.nil)) (Y.loadS0 rfl (Lent.fact 0 rfl) rfl rfl rfl RI64c0 hc52) HistOk.z ?_
              replace h := ck_some h; obtain ⟨hc53, h⟩ := h
              refine JR.qt rfl (SubM.cons 3 rfl (SubM.cons 3 rfl (SubM.nil))) (SubL.nil) (Y.indexN rfl rfl (Lent.rows (i := 0) (j := 1) rfl rfl FI64I64p) rfl rfl hc53) HistOk.z ?_
              refine JR.know (Know.rws 4 rfl) fun hl54 => ?_
              refine JR.qt rfl (SubM.cons 3 rfl (SubM.nil)) (SubL.nil) (Y.loadRaw 0 rfl rfl hl54 rfl rfl hc53) HistOk.z ?_
              refine JR.qt rfl (SubM.nil) (SubL.nil) (Y.move rfl) HistOk.z ?_
              refine JR.qt rfl (SubM.nil) (SubL.nil) (Y.fieldB rfl rfl rfl rfl rfl) HistOk.z ?_
              refine JR.qt rfl (SubM.cons 0 rfl (SubM.nil)) (SubL.nil) (Y.loadB 0 rfl rfl rfl rfl rfl) HistOk.z ?_
              replace h := ck_some h; obtain ⟨hc55, h⟩ := h
              refine JR.qt rfl (SubM.nil) (SubL.cons (List.mem_of_getElem? (i := 2) rfl) (SubL.nil)) (Y.indexS rfl rfl (Lent.fact 0 rfl) rfl rfl hc55) HistOk.z ?_
              refine JR.qt rfl (SubM.nil) (SubL.cons (List.mem_of_getElem? (i := 2) rfl) (SubL.nil)) (Y.loadS0 rfl (Lent.fact 0 rfl) rfl rfl rfl RI64c0 hc55) HistOk.z ?_
              refine JR.qt rfl (SubM.nil) (SubL.nil) (Y.fieldB rfl rfl rfl rfl rfl) HistOk.z ?_
              refine JR.qt rfl (SubM.cons 0 rfl (SubM.nil)) (SubL.nil) (Y.loadB 0 rfl rfl rfl rfl rfl) HistOk.z ?_
              refine JR.qt rfl (SubM.nil) (SubL.nil) (Y.bld2 (r := Value.agg #[Value.int .i64 (at' p1 ((at' (at' p0.2 a29.1) a45.1).1)), Value.int .i64 ((at' (at' p0.2 a29.1) a45.1).2)]) rfl rfl (by intro w; simp [Instr.build, Instr.fill, cells_intV, cells_boolV, cells_sliceV, cells_ptrV, cells_strV, cells_funcV, cells_agg])) HistOk.z ?_
              refine JR.loud rfl rfl rfl (Loud.buildS (e := EI64I64p) [(((at' p1 ((at' (at' p0.2 a29.1) a45.1).1)), ((at' (at' p0.2 a29.1) a45.1).2)))] [(0, Value.agg #[Value.int .i64 (at' p1 ((at' (at' p0.2 a29.1) a45.1).1)), Value.int .i64 ((at' (at' p0.2 a29.1) a45.1).2)])] rfl rfl rfl rfl (fill_1_2 (Value.int .i64 (at' p1 ((at' (at' p0.2 a29.1) a45.1).1))) (Value.int .i64 ((at' (at' p0.2 a29.1) a45.1).2))) rfl rfl rfl) rfl (fun u56 => (BsOk.b rfl (BsOk.b rfl (BsOk.b rfl (BsOk.b rfl (BsOk.b rfl (BsOk.b rfl (BsOk.b rfl (BsOk.b rfl (BsOk.h (SubM.cons 4 rfl (SubM.nil)) (SubL.nil) (BsOk.h (SubM.cons 4 rfl (SubM.cons 4 rfl (SubM.nil))) (SubL.nil) (BsOk.h (SubM.nil) (SubL.cons (List.mem_of_getElem? (i := 2) rfl) (SubL.nil)) (BsOk.h (SubM.nil) (SubL.cons (List.mem_of_getElem? (i := 2) rfl) (SubL.nil)) (BsOk.h (SubM.nil) (SubL.nil) (BsOk.h (SubM.nil) (SubL.nil) (BsOk.h (SubM.cons 2 rfl (SubM.nil)) (SubL.nil) (BsOk.h (SubM.nil) (SubL.nil) (BsOk.h (SubM.nil) (SubL.cons (List.mem_of_getElem? (i := 2) rfl) (SubL.nil)) (BsOk.h (SubM.nil) (SubL.cons (List.mem_of_getElem? (i := 2) rfl) (SubL.nil)) (BsOk.h (SubM.nil) (SubL.nil) (BsOk.h (SubM.nil) (SubL.nil) (BsOk.h (SubM.cons 2 rfl (SubM.nil)) (SubL.nil) (BsOk.h (SubM.nil) (SubL.nil) BsOk.z))))))))))))))))))))))) fun u56 => ?_
              replace h := ck_some h; obtain ⟨hc58, h⟩ := h
              refine JR.loud rfl rfl rfl (Loud.appendRowL 5 FI64I64p rfl rfl rfl (Lent.ar (Lent.res 0 rfl) FI64I64p) rfl rfl rfl rfl hc53 hc58 rfl) rfl (fun u57 => (BsOk.b rfl (BsOk.b rfl (BsOk.b rfl (BsOk.b rfl (BsOk.b rfl (BsOk.b rfl (BsOk.b rfl (BsOk.b rfl (BsOk.b rfl (BsOk.b rfl (BsOk.b rfl (BsOk.b rfl (BsOk.b rfl (BsOk.b rfl (BsOk.b rfl (BsOk.b rfl (BsOk.h (SubM.nil) (SubL.cons (List.mem_of_getElem? (i := 2) rfl) (SubL.nil)) (BsOk.h (SubM.nil) (SubL.cons (List.mem_of_getElem? (i := 2) rfl) (SubL.nil)) (BsOk.h (SubM.nil) (SubL.nil) (BsOk.h (SubM.nil) (SubL.nil) (BsOk.h (SubM.cons 2 rfl (SubM.nil)) (SubL.nil) (BsOk.h (SubM.nil) (SubL.nil) BsOk.z))))))))))))))))))))))) fun u57 => ?_
              refine JR.tailD 24 rfl rfl ?_
              replace h := ck_some h; obtain ⟨hc59, h⟩ := h
              refine J.know (Know.rws 5 rfl) fun hl60 => ?_
              refine J.quiet (Y.indexA 4 rfl rfl rfl rfl rfl hc59.1 (by have q1 := hc59.2; have q2 := hl60; simp only [List.length_set] at q1 q2; omega)) rfl ?_
              refine J.know (Know.oneRow 5 (k := (at' p1 a29.1)) rfl hc59) fun ho61 => ?_
              refine J.storeRow 4 5 ⟨hc59.1, by simpa using hc59.2⟩ rfl rfl rfl rfl rfl (by simp) ho61 rfl ?_
              refine J.done ?_
              refine J.inN ?_
              refine J.thenN ?_
              refine J.region ?_
              refine J.quiet (Y.addW rfl rfl) rfl ?_
              refine J.quiet (Y.move rfl) rfl ?_
              refine J.done ?_
              refine J.thenN ?_
              exact J.againI ((wI .i64 (a45.1 + (1 : Int))), (List.set a45.2 (Int.toNat (at' p1 a29.1)) ((at' a45.2 (at' p1 a29.1)) ++ ([ ((at' p1 ((at' (at' p0.2 a29.1) a45.1).1)), ((at' (at' p0.2 a29.1) a45.1).2))])))) (List.set b46 (Int.toNat (at' p1 a29.1)) u57) h (by repeat (first | exact SubF.nil | refine SubF.cons rfl ?_)) (SubM.cons 2 rfl (SubM.cons 2 rfl (SubM.cons 2 rfl (SubM.cons 2 rfl (SubM.cons 2 rfl (SubM.cons 2 rfl (SubM.nil))))))) (LentAll.refl _ _)
            · replace h := ifN hp48 h
              refine J.exit ?_
              refine J.thenX ?_
              refine J.thenX ?_
              refine J.inX ?_
              refine J.inN ?_
              refine J.thenN ?_
              exact J.meetI (a45.2) (b46) h (by repeat (first | exact SubF.nil | refine SubF.cons rfl ?_)) (SubM.refl _) (LentAll.refl _ _)
          · clear h
            intro a35 b36 h
            unfold family_Relabel_k2 at h
            refine J.region ?_
            refine J.quiet (Y.addW rfl rfl) rfl ?_
            refine J.quiet (Y.move rfl) rfl ?_
            refine J.done ?_
            refine J.thenN ?_
            exact J.againI ((wI .i64 (a29.1 + (1 : Int))), (List.set a29.2.1 (Int.toNat (at' p1 a29.1)) (at' p0.1 a29.1)), a35) (b36) h (by repeat (first | exact SubF.nil | refine SubF.cons rfl ?_)) (SubM.refl _) (LentAll.refl _ _)
        · replace h := ifN hp32 h
          refine J.exit ?_
          refine J.thenX ?_
          refine J.thenX ?_
          refine J.inX ?_
          refine J.thenN ?_
          exact J.meetI (a29.2.1, a29.2.2) (b30) h (by repeat (first | exact SubF.nil | refine SubF.cons rfl ?_)) (SubM.cons 0 rfl (SubM.cons 0 rfl (SubM.cons 0 rfl (SubM.cons 0 rfl (SubM.cons 0 rfl (SubM.nil)))))) (LentAll.refl _ _)
      · clear h
        intro a20 b21 h
        unfold family_Relabel_k1 at h
        refine J.seq ?_
        refine J.region ?_
        refine J.quiet (Y.loadBAll 0 rfl rfl rfl rfl) rfl ?_
        refine J.know (Know.one ((Lent.ar (Lent.res 1 rfl) FI64))) fun ho22 => ?_
        refine J.know (Know.one (Lent.sl (Lent.rows (i := 2) (j := 3) rfl rfl FI64I64p))) fun ho23 => ?_
        refine J.storeAll 4 (vs := [x13.1, x13.2.1]) rfl rfl (all1 ho22 (all1 ho23 rfl)) rfl rfl rfl ?_
        refine J.quiet (Y.assign rfl) rfl ?_
        refine J.done ?_
        refine J.thenN ?_
        refine J.ret ?_
        obtain rfl := Option.some.inj h
        exact J.retG2 (x13.1, x13.2.1, b21) rfl rfl (RV.cell 4 rfl rfl rfl rfl) (RV.tmp rfl) (SubM.cons 1 rfl (SubM.cons 1 rfl (SubM.cons 1 rfl (SubM.nil)))) LentAll.nil

end Go.Proofs.Ytemhmmcakmidkaa
end
section
set_option linter.unusedVariables false
set_option linter.unusedSimpArgs false
namespace Go.Proofs.Ytemhmmcakmidkaa
open Go.Sx
set_option linter.unusedVariables false
set_option linter.unusedSimpArgs false
def ref03_Permutation_k1  (a2 : Unit) : Option (Bool) :=
  some (true)
def ref03_Permutation_k2 (a6 : Int) (ag5 : (Int) → Option (Bool)) (a10 : Unit) : Option (Bool) :=
  ag5 (wI .i64 (a6 + (1 : Int)))
def ref03_Permutation_s2 (p0 : List (Int)) (a6 : Int) (ag5 : (Int) → Option (Bool)) (a19 : Int) (ag18 : (Int) → Option (Bool)) : Option (Bool) :=
  if a19 < a6 then (ck (0 ≤ a19 ∧ a19 < (List.length p0 : Int)) (ck (0 ≤ a6 ∧ a6 < (List.length p0 : Int)) (if (at' p0 a19) = (at' p0 a6) then (some (false)) else (ag18 (wI .i64 (a19 + (1 : Int))))))) else (ref03_Permutation_k2 a6 ag5 (()))
def ref03_Permutation_s1 (fuel : Nat) (p0 : List (Int)) (p1 : Int) (a6 : Int) (ag5 : (Int) → Option (Bool)) : Option (Bool) :=
  if a6 < p1 then (ck (0 ≤ a6 ∧ a6 < (List.length p0 : Int)) (Option.bind (m_ref01_In fuel (at' p0 a6) (0 : Int) (wI .i64 (p1 - (1 : Int)))) fun r13 => (if (!r13) = true then (some (false)) else (iter (ref03_Permutation_s2 p0 a6 ag5) fuel (0 : Int))))) else (ref03_Permutation_k1  (()))
def m_ref03_Permutation (fuel : Nat) (p0 : List (Int)) (p1 : Int) : Option (Bool) :=
  if (List.length p0 : Int) ≠ p1 then (some (false)) else (iter (ref03_Permutation_s1 fuel p0 p1) fuel (0 : Int))

theorem body52 : HasBody Try.prog 52 := Try.call52

set_option maxHeartbeats 4000000 in
set_option maxRecDepth 20000 in
theorem t_ref03_Permutation (fuel : Nat) {p0 : List (Int)} {p1 : Int} (v0 : Value) (r : Bool) (h : m_ref03_Permutation fuel p0 p1 = some r) :
    Meets Try.prog 52 #[v0, Value.int .i64 (p1)] [Sl RI64 v0 p0] (fun x : Unit => Value.bool (r)) (fun x l => l) (fun _ l => l) := by
  refine Meets.of (vs := [v0, Value.int .i64 (p1)]) Try.func52 rfl Try.ntmps52 rfl fun c => ?_
  unfold m_ref03_Permutation at h
  refine J.seq ?_
  refine J.region ?_
  refine J.quiet (Y.assign rfl) rfl ?_
  refine J.done ?_
  refine J.thenN ?_
  refine J.seq ?_
  refine J.seq ?_
  refine J.region ?_
  refine J.quiet (Y.move rfl) rfl ?_
  refine J.quiet (Y.lenS rfl (Lent.fact 0 rfl) rfl) rfl ?_
  refine J.quiet (Y.move rfl) rfl ?_
  refine J.quiet (Y.neq rfl rfl) rfl ?_
  refine J.done ?_
  refine J.thenN ?_
  refine J.condD (by exact rfl) (fun hp1 => ?_) (fun hp1 => ?_)
  · replace h := ifP hp1 h
    refine J.seq ?_
    refine J.region ?_
    refine J.quiet (Y.assign rfl) rfl ?_
    refine J.done ?_
    refine J.thenN ?_
    refine J.ret ?_
    refine J.thenR ?_
    obtain rfl := Option.some.inj h
    exact J.retG1 (()) rfl rfl (RV.tmp rfl) (SubM.refl _) LentAll.nil
  · replace h := ifN hp1 h
    refine J.skip ?_
    refine J.thenN ?_
    refine J.seq ?_
    refine J.midI (A := Unit) (B := Unit) (fun a2 => ref03_Permutation_k1  a2 = some r) (fun a2 b3 => []) (fun a2 b3 => []) (fun a2 b3 => [Sl RI64 v0 p0]) ?_ ?_
    · refine J.seq ?_
      refine J.region ?_
      refine J.quiet (Y.assign rfl) rfl ?_
      refine J.done ?_
      refine J.thenN ?_
      refine J.block ?_
      refine J.loopI (A := Int) (B := Unit) (ref03_Permutation_s1 fuel p0 p1) (fun a6 b7 => [(0, v0), (1, Value.int .i64 (p1)), (5, Value.int .i64 (a6))]) (fun a6 b7 => []) (fun a6 b7 => [Sl RI64 v0 p0]) (0 : Int) (()) h (by repeat (first | exact SubF.nil | refine SubF.cons rfl ?_)) (SubM.refl _) (LentAll.refl _ _) ?_
      clear h
      intro k8 a6 b7 h
      unfold ref03_Permutation_s1 at h
      refine J.seq ?_
      refine J.seq ?_
      refine J.region ?_
      refine J.quiet (Y.move rfl) rfl ?_
      refine J.quiet (Y.move rfl) rfl ?_
      refine J.quiet (Y.lss rfl rfl) rfl ?_
      refine J.done ?_
      refine J.thenN ?_
      refine J.condD (by exact rfl) (fun hp9 => ?_) (fun hp9 => ?_)
      · replace h := ifP hp9 h
        refine J.skip ?_
        refine J.thenN ?_
        refine J.seq ?_
        refine J.midI (A := Unit) (B := Unit) (fun a10 => ref03_Permutation_k2 a6 (iter (ref03_Permutation_s1 fuel p0 p1) k8) a10 = some r) (fun a10 b11 => [(0, v0), (1, Value.int .i64 (p1)), (5, Value.int .i64 (a6))]) (fun a10 b11 => []) (fun a10 b11 => [Sl RI64 v0 p0]) ?_ ?_
        · refine J.block ?_
          refine J.seq ?_
          refine J.seq ?_
          refine J.region ?_
          refine J.quiet (Y.move rfl) rfl ?_
          refine J.quiet (Y.move rfl) rfl ?_
          replace h := ck_some h; obtain ⟨hc12, h⟩ := h
          refine J.quiet (Y.indexS rfl rfl (Lent.fact 0 rfl) rfl rfl hc12) rfl ?_
          refine J.quiet (Y.loadS0 rfl (Lent.fact 0 rfl) rfl rfl rfl RI64c0 hc12) rfl ?_
          refine J.quiet (Y.move rfl) rfl ?_
          refine J.quiet (Y.subW rfl rfl) rfl ?_
          replace h := bnd h; obtain ⟨r13, hr14, h⟩ := h
          refine J.loud (Loud.callL body72 (t_ref01_In fuel  r13 hr14) rfl (LentAll.nil) (fun _ _ => rfl)) rfl fun x15 => ?_
          refine J.quiet (Y.not rfl) rfl ?_
          refine J.done ?_
          refine J.thenN ?_
          refine J.cond (by exact rfl) (fun hp16 => ?_) (fun hp16 => ?_)
          · replace h := ifP hp16 h
            refine J.seq ?_
            refine J.region ?_
            refine J.quiet (Y.assign rfl) rfl ?_
            refine J.done ?_
            refine J.thenN ?_
            refine J.ret ?_
            refine J.thenR ?_
            refine J.inR ?_
            refine J.thenR ?_
            refine J.thenR ?_
            refine J.inR ?_
            refine J.thenR ?_
            obtain rfl := Option.some.inj h
            exact J.retG1 (()) rfl rfl (RV.tmp rfl) (SubM.refl _) LentAll.nil
          · replace h := ifBN hp16 h
            refine J.skip ?_
            refine J.thenN ?_
            refine J.seq ?_
            refine J.region ?_
            refine J.quiet (Y.assign rfl) rfl ?_
            refine J.done ?_
            refine J.thenN ?_
            refine J.block ?_
            refine J.loopI (A := Int) (B := Unit) (ref03_Permutation_s2 p0 a6 (iter (ref03_Permutation_s1 fuel p0 p1) k8)) (fun a19 b20 => [(0, v0), (1, Value.int .i64 (p1)), (5, Value.int .i64 (a6)), (6, Value.int .i64 (a19))]) (fun a19 b20 => []) (fun a19 b20 => [Sl RI64 v0 p0]) (0 : Int) (()) h (by repeat (first | exact SubF.nil | refine SubF.cons rfl ?_)) (SubM.refl _) (LentAll.refl _ _) ?_
            clear h
            intro k21 a19 b20 h
            unfold ref03_Permutation_s2 at h
            refine J.seq ?_
            refine J.seq ?_
            refine J.region ?_
            refine J.quiet (Y.move rfl) rfl ?_
            refine J.quiet (Y.move rfl) rfl ?_
            refine J.quiet (Y.lss rfl rfl) rfl ?_
            refine J.done ?_
            refine J.thenN ?_
            refine J.condD (by exact rfl) (fun hp22 => ?_) (fun hp22 => ?_)
            · replace h := ifP hp22 h
              refine J.skip ?_
              refine J.thenN ?_
              refine J.seq ?_
              refine J.block ?_
              refine J.seq ?_
              refine JR.start [0, 0, 3, 7, 0, 0, 48, 112, 255] 8 mixedOrders (by decide +kernel) ?_
              refine JR.open (by exact rfl) ?_
              refine JR.qt rfl (SubM.refl _) (SubL.nil) (Y.move rfl) HistOk.z ?_
              refine JR.qt rfl (SubM.refl _) (SubL.nil) (Y.move rfl) HistOk.z ?_
              replace h := ck_some h; obtain ⟨hc23, h⟩ := h
              refine JR.qt rfl (SubM.refl _) (SubL.cons (List.mem_of_getElem? (i := 0) rfl) (SubL.nil)) (Y.indexS rfl rfl (Lent.fact 0 rfl) rfl rfl hc23) HistOk.z ?_
              refine JR.qt rfl (SubM.refl _) (SubL.cons (List.mem_of_getElem? (i := 0) rfl) (SubL.nil)) (Y.loadS0 rfl (Lent.fact 0 rfl) rfl rfl rfl RI64c0 hc23) HistOk.z ?_
              refine JR.qt rfl (SubM.refl _) (SubL.nil) (Y.move rfl) HistOk.z ?_
              refine JR.qt rfl (SubM.refl _) (SubL.nil) (Y.move rfl) HistOk.z ?_
              replace h := ck_some h; obtain ⟨hc24, h⟩ := h
              refine JR.qt rfl (SubM.refl _) (SubL.cons (List.mem_of_getElem? (i := 0) rfl) (SubL.nil)) (Y.indexS rfl rfl (Lent.fact 0 rfl) rfl rfl hc24) HistOk.z ?_
              refine JR.qt rfl (SubM.refl _) (SubL.cons (List.mem_of_getElem? (i := 0) rfl) (SubL.nil)) (Y.loadS0 rfl (Lent.fact 0 rfl) rfl rfl rfl RI64c0 hc24) HistOk.z ?_
              refine JR.tailD 8 rfl rfl ?_
              refine J.quiet (Y.eql rfl rfl) rfl ?_
              refine J.done ?_
              refine J.thenN ?_
              refine J.condD (by exact rfl) (fun hp25 => ?_) (fun hp25 => ?_)
              · replace h := ifP hp25 h
                refine J.seq ?_
                refine J.region ?_
                refine J.quiet (Y.assign rfl) rfl ?_
                refine J.done ?_
                refine J.thenN ?_
                refine J.ret ?_
                refine J.inR ?_
                refine J.thenR ?_
                refine J.thenR ?_
                refine J.inR ?_
                refine J.inR ?_
                refine J.thenR ?_
                refine J.thenR ?_
                refine J.inR ?_
                refine J.thenR ?_
                obtain rfl := Option.some.inj h
                exact J.retG1 (()) rfl rfl (RV.tmp rfl) (SubM.refl _) LentAll.nil
              · replace h := ifN hp25 h
                refine J.skip ?_
                refine J.inN ?_
                refine J.thenN ?_
                refine J.region ?_
                refine J.quiet (Y.move rfl) rfl ?_
                refine J.quiet (Y.addW rfl rfl) rfl ?_
                refine J.quiet (Y.assign rfl) rfl ?_
                refine J.done ?_
                refine J.thenN ?_
                exact J.againI (wI .i64 (a19 + (1 : Int))) (()) h (by repeat (first | exact SubF.nil | refine SubF.cons rfl ?_)) (SubM.refl _) (LentAll.refl _ _)
            · replace h := ifN hp22 h
              refine J.exit ?_
              refine J.thenX ?_
              refine J.thenX ?_
              refine J.inX ?_
              refine J.inN ?_
              refine J.thenN ?_
              exact J.meetI (()) (()) h (by repeat (first | exact SubF.nil | refine SubF.cons rfl ?_)) (SubM.refl _) (LentAll.refl _ _)
        · clear h
          intro a10 b11 h
          unfold ref03_Permutation_k2 at h
          refine J.region ?_
          refine J.quiet (Y.move rfl) rfl ?_
          refine J.quiet (Y.addW rfl rfl) rfl ?_
          refine J.quiet (Y.assign rfl) rfl ?_
          refine J.done ?_
          refine J.thenN ?_
          exact J.againI (wI .i64 (a6 + (1 : Int))) (()) h (by repeat (first | exact SubF.nil | refine SubF.cons rfl ?_)) (SubM.refl _) (LentAll.refl _ _)
      · replace h := ifN hp9 h
        refine J.exit ?_
        refine J.thenX ?_
        refine J.thenX ?_
        refine J.inX ?_
        refine J.thenN ?_
        exact J.meetI (()) (()) h (by repeat (first | exact SubF.nil | refine SubF.cons rfl ?_)) (SubM.refl _) (LentAll.refl _ _)
    · clear h
      intro a2 b3 h
      unfold ref03_Permutation_k1 at h
      refine J.seq ?_
      refine J.region ?_
      refine J.quiet (Y.assign rfl) rfl ?_
      refine J.done ?_
      refine J.thenN ?_
      refine J.ret ?_
      obtain rfl := Option.some.inj h
      exact J.retG1 (()) rfl rfl (RV.tmp rfl) (SubM.refl _) LentAll.nil

end Go.Proofs.Ytemhmmcakmidkaa
end
section
set_option linter.unusedVariables false
set_option linter.unusedSimpArgs false
namespace Go.Proofs.Ytemhmmcakmidkaa
open Go.Sx
def PermAt (p : List Int) (n k : Nat) : Prop := (0 ≤ at' p (k : Int) ∧ at' p (k : Int) ≤ (n : Int) - 1) ∧ ∀ j, j < k → at' p (j : Int) ≠ at' p (k : Int)
def IsPerm (p : List Int) (n : Nat) : Prop := p.length = n ∧ ∀ k, k < n → PermAt p n k

theorem refPermutation_eq (p : List Int) (n : Nat) (hn : n ≤ 30) : (IsPerm p n → m_ref03_Permutation 1000 p (n : Int) = some true) ∧ (¬ IsPerm p n → m_ref03_Permutation 1000 p (n : Int) = some false) := by
  unfold m_ref03_Permutation
  by_cases hl : p.length = n
  rotate_left
  · rw [if_pos (by omega)]
    exact ⟨fun h => absurd h.1 hl, fun _ => rfl⟩
  rw [if_neg (by omega)]
  have inner : ∀ (i : Nat) (ag : Int → Option Bool), i < n → ((∀ k, k < i → at' p (k : Int) ≠ at' p (i : Int)) → iter (ref03_Permutation_s2 p i ag) 1000 0 = ag ((i : Int) + 1)) ∧ (¬ (∀ k, k < i → at' p (k : Int) ≠ at' p (i : Int)) → iter (ref03_Permutation_s2 p i ag) 1000 0 = some false) := by
    intro i ag hi
    refine iter_if i _ (fun k ag2 hk hp => ?_) (fun k ag2 hk hp => ?_) (fun ag2 => ?_) 1000 (by omega)
    · unfold ref03_Permutation_s2
      rw [if_pos (by omega), ckT (by omega), ckT (by omega), if_neg hp, wr (by omega) (by omega)]
    · unfold ref03_Permutation_s2
      rw [if_pos (by omega), ckT (by omega), ckT (by omega), if_pos (Decidable.not_not.1 hp)]
    · unfold ref03_Permutation_s2 ref03_Permutation_k2
      rw [if_neg (by omega), wr (by omega) (by omega)]
  have key := iter_if (step := ref03_Permutation_s1 1000 p n) (K := some true) (bad := false) n (PermAt p n) (fun i ag hi hp => ?_) (fun i ag hi hp => ?_) (fun ag => ?_) 1000 (by omega)
  · exact ⟨fun h => key.1 h.2, fun h => key.2 fun h2 => h ⟨hl, h2⟩⟩
  · unfold ref03_Permutation_s1
    rw [if_pos (by omega), ckT (by omega), wr (x := (n : Int) - 1) (by omega) (by omega), refIn_eq, decide_eq_true hp.1, bindS rfl, if_neg (by simp)]
    exact (inner i ag hi).1 hp.2
  · unfold ref03_Permutation_s1
    rw [if_pos (by omega), ckT (by omega), wr (x := (n : Int) - 1) (by omega) (by omega), refIn_eq]
    by_cases h1 : 0 ≤ at' p (i : Int) ∧ at' p (i : Int) ≤ (n : Int) - 1
    · rw [decide_eq_true h1, bindS rfl, if_neg (by simp)]
      exact (inner i ag hi).2 fun h4 => hp ⟨h1, h4⟩
    · rw [decide_eq_false h1]; rfl
  · unfold ref03_Permutation_s1 ref03_Permutation_k1
    rw [if_neg (by omega)]

theorem famPermutation_eq (p : List Int) (n : Nat) (hn : n ≤ 30) : (IsPerm p n → m_family_permutation 1000 p (n : Int) = some true) ∧ (¬ IsPerm p n → m_family_permutation 1000 p (n : Int) = some false) := by
  unfold m_family_permutation
  by_cases hl : p.length = n
  rotate_left
  · rw [if_pos (by omega)]
    exact ⟨fun h => absurd h.1 hl, fun _ => rfl⟩
  rw [if_neg (by omega), ckT (by omega)]
  have key := iter_ifS (step := family_permutation_s1 p n) (K := fun _ => some true) (bad := false) n (PermAt p n) (fun k x => x.1 = (k : Int) ∧ x.2.length = n ∧ ∀ z : Nat, z < n → (at' x.2 (z : Int) = true ↔ ∃ j, j < k ∧ at' p (j : Int) = (z : Int))) ?_ ?_ ?_ 1000 ((0 : Int), (List.replicate (Int.toNat (n : Int)) false)) ⟨rfl, by simp, fun z hz => ?_⟩ (by omega)
  · exact ⟨fun h => by obtain ⟨x, _, hx⟩ := key.1 h.2; exact hx, fun h => key.2 fun h2 => h ⟨hl, h2⟩⟩
  · rintro k ⟨x1, x2⟩ ag hk ⟨hx, hlen, hs⟩ ⟨hr, hd⟩
    dsimp only at hx hlen hs
    subst hx
    obtain ⟨z, hz⟩ : ∃ z : Nat, at' p (k : Int) = z := ⟨(at' p (k : Int)).toNat, by omega⟩
    have hz2 : z < n := by omega
    have hno : ¬ at' x2 (z : Int) = true := by
      rw [hs z hz2]
      rintro ⟨j, hj, he⟩
      exact hd j hj (he.trans hz.symm)
    refine ⟨((k : Int) + 1, x2.set z true), ⟨by simp, by simp [hlen], fun y hy => ?_⟩, ?_⟩
    · dsimp only
      rw [at_set _ _ _ _ (by omega)]
      by_cases hyz : y = z
      · subst hyz
        rw [if_pos rfl]
        exact ⟨fun _ => ⟨k, by omega, hz⟩, fun _ => rfl⟩
      · rw [if_neg hyz, hs y hy]
        constructor
        · rintro ⟨j, hj, he⟩; exact ⟨j, by omega, he⟩
        · rintro ⟨j, hj, he⟩
          by_cases hjk : j = k
          · subst hjk; rw [hz] at he; omega
          · exact ⟨j, by omega, he⟩
    · unfold family_permutation_s1 family_permutation_k2
      dsimp only
      rw [if_pos (by omega), ckT (by omega), hz, if_neg (by omega), if_neg (by omega), ckT (by omega), if_neg hno, ckT (by omega), wr (by omega) (by omega)]
      rfl
  · rintro k ⟨x1, x2⟩ ag hk ⟨hx, hlen, hs⟩ hp
    dsimp only at hx hlen hs
    subst hx
    unfold family_permutation_s1 family_permutation_k2
    dsimp only
    rw [if_pos (by omega), ckT (by omega)]
    by_cases h1 : at' p (k : Int) < 0
    · rw [if_pos h1, if_pos rfl]
    rw [if_neg h1]
    by_cases h2 : (n : Int) ≤ at' p (k : Int)
    · rw [if_pos h2, if_pos rfl]
    rw [if_neg h2]
    obtain ⟨z, hz⟩ : ∃ z : Nat, at' p (k : Int) = z := ⟨(at' p (k : Int)).toNat, by omega⟩
    rw [hz, ckT (by omega), if_pos]
    rw [hs z (by omega)]
    apply Classical.byContradiction
    intro hc
    exact hp ⟨by omega, fun j hj he => hc ⟨j, hj, he.trans hz⟩⟩
  · rintro ⟨x1, x2⟩ ag ⟨hx, _, _⟩
    dsimp only at hx
    subst hx
    unfold family_permutation_s1 family_permutation_k1
    dsimp only
    rw [if_neg (by omega)]
  · rw [Int.toNat_natCast, show at' (List.replicate n false) (z : Int) = false by rw [at'_nat, List.getD_eq_getElem?_getD, List.getElem?_replicate, if_pos hz]; rfl]
    exact ⟨fun h => (by cases h), fun ⟨j, hj, _⟩ => (by omega)⟩

/-! ## what is made -/
/-- the new number of a node -/
def pm (p : List Int) (v : Nat) : Nat := (at' p (v : Int)).toNat

theorem IsPerm.pm {p : List Int} {n : Nat} (h : IsPerm p n) {v : Nat} (hv : v < n) : at' p (v : Int) = (pm p v : Int) ∧ Go.Proofs.Ytemhmmcakmidkaa.pm p v < n := by
  have := (h.2 v hv).1
  unfold Go.Proofs.Ytemhmmcakmidkaa.pm
  omega
theorem IsPerm.inj {p : List Int} {n : Nat} (h : IsPerm p n) {v u : Nat} (hv : v < n) (hu : u < n) (e : Go.Proofs.Ytemhmmcakmidkaa.pm p v = Go.Proofs.Ytemhmmcakmidkaa.pm p u) : v = u := by
  have h1 := (h.pm hv).1
  have h2 := (h.pm hu).1
  rcases Nat.lt_trichotomy v u with hlt | hlt | hlt
  · exact absurd (by rw [h1, h2, e]) ((h.2 u hu).2 v hlt)
  · exact hlt
  · exact absurd (by rw [h1, h2, e]) ((h.2 v hv).2 u hlt)

/-- links whose nodes are renumbered -/
def mp (p : List Int) (l : List (Int × Int)) : List (Int × Int) := l.map fun x => (at' p x.1, x.2)

structure Rel (g : GR) (p : List Int) (h : GR) : Prop where
  len1 : h.1.length = g.2.length
  len2 : h.2.length = g.2.length
  ids : ∀ v, v < g.2.length → idOf h (pm p v) = idOf g v
  row : ∀ v, v < g.2.length → Go.Proofs.Ytemhmmcakmidkaa.row h (pm p v) = mp p (Go.Proofs.Ytemhmmcakmidkaa.row g v)

theorem mp_len (p : List Int) (l : List (Int × Int)) : (mp p l).length = l.length := by simp [mp]
theorem mp_at (p : List Int) (l : List (Int × Int)) {i : Nat} (h : i < l.length) : lnk (mp p l) i = (at' p (lnk l i).1, (lnk l i).2) := by
  rw [lnk, lnk, mp, at'_nat, at'_nat, List.getD_eq_getElem?_getD, List.getD_eq_getElem?_getD, List.getElem?_map, List.getElem?_eq_getElem h]; rfl
theorem mp_take (p : List Int) (l : List (Int × Int)) {i : Nat} (h : i < l.length) : mp p (l.take (i + 1)) = mp p (l.take i) ++ [(at' p (lnk l i).1, (lnk l i).2)] := by
  unfold mp
  rw [List.take_add_one, List.map_append, List.getElem?_eq_getElem h, show lnk l i = l[i] by rw [lnk, at'_nat, List.getD_eq_getElem?_getD, List.getElem?_eq_getElem h]; rfl]
  rfl

theorem set_same {α : Type} [Inhabited α] {l : List α} {i : Nat} (h : i < l.length) : l.set i (at' l (i : Int)) = l := by
  rw [at'_nat, List.getD_eq_getElem?_getD, List.getElem?_eq_getElem h]
  exact List.set_getElem_self h

/-- the state of the loop over the nodes -/
structure RInv (g : GR) (p : List Int) (v : Nat) (ids : List Int) (ps : List (List (Int × Int))) : Prop where
  l1 : ids.length = g.2.length
  l2 : ps.length = g.2.length
  d1 : ∀ k, k < v → at' ids ((pm p k : Nat) : Int) = idOf g k
  d2 : ∀ k, k < v → at' ps ((pm p k : Nat) : Int) = mp p (row g k)
  d3 : ∀ k, v ≤ k → k < g.2.length → at' ps ((pm p k : Nat) : Int) = []

theorem RInv.next {g : GR} {p : List Int} (hp : IsPerm p g.2.length) {v : Nat} (hv : v < g.2.length) {ids : List Int} {ps : List (List (Int × Int))} (h : RInv g p v ids ps) : RInv g p (v + 1) (ids.set (pm p v) (idOf g v)) (ps.set (pm p v) (mp p (row g v))) := by
  have hpv := (hp.pm hv).2
  have h1 := h.l1
  have h2 := h.l2
  refine ⟨by simpa using h1, by simpa using h2, fun k hk => ?_, fun k hk => ?_, fun k hk hn => ?_⟩
  · rw [at_set _ _ _ _ (by omega)]
    by_cases e : k = v
    · subst e; rw [if_pos rfl]
    · rw [if_neg (fun e2 => e (hp.inj (by omega) hv e2))]; exact h.d1 k (by omega)
  · rw [at_set _ _ _ _ (by omega)]
    by_cases e : k = v
    · subst e; rw [if_pos rfl]
    · rw [if_neg (fun e2 => e (hp.inj (by omega) hv e2))]; exact h.d2 k (by omega)
  · rw [at_set _ _ _ _ (by omega), if_neg (fun e2 => by have := hp.inj (by omega) hv e2; omega)]; exact h.d3 k (by omega) hn

theorem RInv.start {g : GR} {p : List Int} (hp : IsPerm p g.2.length) : RInv g p 0 (iota g.2.length) (List.replicate g.2.length []) := by
  refine ⟨iota_len _, by simp, fun k hk => by omega, fun k hk => by omega, fun k _ hk => ?_⟩
  rw [at'_nat, List.getD_eq_getElem?_getD, List.getElem?_replicate, if_pos (hp.pm hk).2]; rfl

theorem RInv.done {g : GR} {p : List Int} {ids : List Int} {ps : List (List (Int × Int))} (h : RInv g p g.2.length ids ps) : Rel g p (ids, ps) :=
  ⟨h.l1, h.l2, fun v hv => h.d1 v hv, fun v hv => h.d2 v hv⟩

theorem famRelabel_ok {g : GR} (hV : VG g) {p : List Int} (hp : IsPerm p g.2.length) : OK (fun r : GR × Int => r.2 = 0 ∧ Rel g p r.1) (m_family_Relabel 1000 g p) := by
  have h24 := hV.n24
  have hlen := hV.len
  have hpl := hp.1
  unfold m_family_Relabel
  rw [bindS ((valid_eq g hV.light).1 hV), if_neg (by simp), hlen, bindS ((famPermutation_eq p g.2.length (by omega)).1 hp), if_neg (by simp), bindS (empty_eq g.2.length h24)]
  dsimp only
  refine iter_ok (fun z : Int × List Int × List (List (Int × Int)) => ∃ v : Nat, z.1 = v ∧ v ≤ g.2.length ∧ RInv g p v z.2.1 z.2.2) (fun z => 25 - z.1.toNat) ?_ 1000 _ ⟨0, rfl, by omega, RInv.start hp⟩ (by simp)
  rintro ⟨x, ids, ps⟩ ag ⟨v, hx, hv, hI⟩ hag
  dsimp only at hx hI hag
  subst hx
  unfold family_Relabel_s1
  dsimp only
  by_cases hn : v < g.2.length
  · obtain ⟨e1, e2⟩ := hp.pm hn
    have l1 := hI.l1
    have l2 := hI.l2
    have hdeg := (hV.node v hn).deg
    have q1 : (at' g.2 (v : Int)).length = (row g v).length := rfl
    rw [if_pos (by omega), ckT (by omega), ckT (by omega), ckT (by omega), ckT (by rw [e1]; omega)]
    have h0 : ps = ps.set (pm p v) (mp p ((row g v).take 0)) := by
      have := hI.d3 v (Nat.le_refl _) hn
      show ps = ps.set (pm p v) []
      rw [← this]; exact (set_same (by omega)).symm
    refine iter_ok (fun z : Int × List (List (Int × Int)) => ∃ i : Nat, z.1 = i ∧ i ≤ (row g v).length ∧ z.2 = ps.set (pm p v) (mp p ((row g v).take i))) (fun z => 25 - z.1.toNat) ?_ 1000 _ ⟨0, rfl, by omega, h0⟩ (by simp)
    rintro ⟨y, qs⟩ ag2 ⟨i, hy, hi, hq⟩ hag2
    dsimp only at hy hq hag2
    subst hy hq
    have lq : (ps.set (pm p v) (mp p ((row g v).take i))).length = g.2.length := by simpa using l2
    have aq : at' (ps.set (pm p v) (mp p ((row g v).take i))) (at' p (v : Int)) = mp p ((row g v).take i) := by
      rw [e1, at_set _ _ _ _ (by omega), if_pos rfl]
    unfold family_Relabel_s2
    dsimp only
    by_cases hi2 : i < (row g v).length
    · have hlk := ((hV.node v hn).links i hi2).1
      have q2 : (at' (at' g.2 (v : Int)) (i : Int)).1 = (lnk (row g v) i).1 := rfl
      rw [if_pos (by omega), ckT (by omega), ckT (by omega), ckT (by omega), ckT (by rw [e1, lq]; omega), ckT (by omega), aq, ckT (by rw [mp_len]; simp; omega), ckT (by rw [e1, List.length_set, lq]; omega), wr (by omega) (by omega)]
      refine hag2 _ ⟨i + 1, by dsimp only; omega, by omega, ?_⟩ (by dsimp only; omega)
      dsimp only
      rw [e1, Int.toNat_natCast, List.set_set, mp_take p _ hi2]
    · rw [if_neg (by omega)]
      obtain rfl : i = (row g v).length := by omega
      unfold family_Relabel_k2
      dsimp only
      rw [wr (by omega) (by omega), e1, Int.toNat_natCast, List.take_length]
      exact hag _ ⟨v + 1, by dsimp only; omega, by omega, hI.next hp hn⟩ (by dsimp only; omega)
  · rw [if_neg (by omega)]
    obtain rfl : v = g.2.length := by omega
    exact ⟨_, rfl, rfl, hI.done⟩

/-! ## every number is a new number -/
theorem IsPerm.onto {p : List Int} {n : Nat} (h : IsPerm p n) {u : Nat} (hu : u < n) : ∃ v, v < n ∧ Go.Proofs.Ytemhmmcakmidkaa.pm p v = u := by
  apply Classical.byContradiction
  intro hc
  have hne : ∀ v, v < n → Go.Proofs.Ytemhmmcakmidkaa.pm p v ≠ u := fun v hv e => hc ⟨v, hv, e⟩
  -- n numbers below n, none of them u: move those above u down
  have := pigeon (n - 1) (fun v => if Go.Proofs.Ytemhmmcakmidkaa.pm p v < u then Go.Proofs.Ytemhmmcakmidkaa.pm p v else Go.Proofs.Ytemhmmcakmidkaa.pm p v - 1) n (fun i hi => ?_) (fun i j hij hj => ?_)
  · omega
  · have h1 := (h.pm hi).2
    have h2 := hne i hi
    split <;> omega
  · have h1 := hne i (by omega)
    have h2 := hne j hj
    have h3 : Go.Proofs.Ytemhmmcakmidkaa.pm p i ≠ Go.Proofs.Ytemhmmcakmidkaa.pm p j := fun e => by have := h.inj (by omega) hj e; omega
    split <;> split <;> omega

theorem gr_ext {a b : GR} (h1 : a.1.length = b.1.length) (h2 : a.2.length = b.2.length) (e1 : ∀ v, v < a.1.length → idOf a v = idOf b v) (e2 : ∀ v, v < a.2.length → row a v = row b v) : a = b := by
  have x1 : a.1 = b.1 := List.ext_getElem h1 fun i hi hi' => by
    have := e1 i hi
    rw [idOf, idOf, at'_nat, at'_nat, List.getD_eq_getElem?_getD, List.getD_eq_getElem?_getD, List.getElem?_eq_getElem hi, List.getElem?_eq_getElem hi'] at this
    exact this
  have x2 : a.2 = b.2 := List.ext_getElem h2 fun i hi hi' => by
    have := e2 i hi
    rw [row, row, at'_nat, at'_nat, List.getD_eq_getElem?_getD, List.getD_eq_getElem?_getD, List.getElem?_eq_getElem hi, List.getElem?_eq_getElem hi'] at this
    exact this
  exact Prod.ext x1 x2

theorem Rel.link {g h : GR} {p : List Int} (hV : VG g) (hp : IsPerm p g.2.length) (r : Rel g p h) {v i : Nat} (hv : v < g.2.length) (hi : i < (Go.Proofs.Ytemhmmcakmidkaa.row g v).length) :
    ∃ u : Nat, u < g.2.length ∧ (lnk (Go.Proofs.Ytemhmmcakmidkaa.row g v) i).1 = (u : Int) ∧ lnk (Go.Proofs.Ytemhmmcakmidkaa.row h (pm p v)) i = ((pm p u : Int), (lnk (Go.Proofs.Ytemhmmcakmidkaa.row g v) i).2) := by
  obtain ⟨u, hu, he, _⟩ := hV.port hv hi
  refine ⟨u, hu, he, ?_⟩
  rw [r.row v hv, mp_at p _ hi, he, (hp.pm hu).1]

theorem Rel.valid {g h : GR} {p : List Int} (hV : VG g) (hp : IsPerm p g.2.length) (r : Rel g p h) : VG h := by
  have h24 := hV.n24
  have h1 := hV.n1
  have l1 := r.len1
  have l2 := r.len2
  have deg : ∀ v, v < g.2.length → (Go.Proofs.Ytemhmmcakmidkaa.row h (pm p v)).length = (Go.Proofs.Ytemhmmcakmidkaa.row g v).length := fun v hv => by rw [r.row v hv, mp_len]
  refine ⟨by omega, by omega, by omega, fun w hw => ?_, fun w hw i hi => ?_⟩
  · rw [l2] at hw
    obtain ⟨v, hv, rfl⟩ := hp.onto hw
    have hN := hV.node v hv
    refine ⟨by rw [r.ids v hv]; exact hN.id, by rw [deg v hv, l2]; exact hN.deg, fun i hi => ?_, fun k hk => ?_⟩
    · rw [deg v hv] at hi
      obtain ⟨u, hu, e1, e2⟩ := r.link hV hp hv hi
      have hL := hN.links i hi
      rw [l2]
      refine ⟨by rw [e2]; have := (hp.pm hu).2; dsimp only; omega, ?_, by rw [e2]; exact hL.2.2.1, fun k hk => ?_⟩
      · rw [e2]
        intro e
        have : u = v := hp.inj hu hv (by dsimp only at e; omega)
        exact hL.2.1 (by rw [e1, this])
      · obtain ⟨u', hu', e1', e2'⟩ := r.link hV hp hv (show k < _ by omega)
        rw [e2, e2']
        intro e
        have : u' = u := hp.inj hu' hu (by dsimp only at e; omega)
        exact hL.2.2.2 k hk (by rw [e1, e1', this])
    · obtain ⟨v', hv', rfl⟩ := hp.onto (show k < g.2.length by omega)
      rw [r.ids v hv, r.ids v' hv']
      rcases Nat.lt_trichotomy v v' with hlt | hlt | hlt
      · exact fun e => (hV.node v' hv').ids v hlt e.symm
      · subst hlt; omega
      · exact hN.ids v' hlt
  · rw [l2] at hw
    obtain ⟨v, hv, rfl⟩ := hp.onto hw
    rw [deg v hv] at hi
    obtain ⟨u, hu, e1, e2⟩ := r.link hV hp hv hi
    obtain ⟨j, hj, j1, j2⟩ := hV.sym v hv i hi
    rw [e1] at hj j1 j2
    obtain ⟨u', hu', f1, f2⟩ := r.link hV hp hu hj
    have huv : u' = v := by
      have : (u' : Int) = (v : Int) := f1.symm.trans j1
      omega
    subst huv
    unfold SymAt
    rw [e2]
    dsimp only
    have hj' : j < (at' h.2 ((pm p u : Nat) : Int)).length := by rw [deg u hu]; exact hj
    refine ⟨j, hj', ?_, ?_⟩
    · show (lnk (Go.Proofs.Ytemhmmcakmidkaa.row h (pm p u)) j).1 = _
      rw [f2]
    · show (lnk (Go.Proofs.Ytemhmmcakmidkaa.row h (pm p u)) j).2 = _
      rw [f2]
      exact j2

theorem Rel.adj {g h : GR} {p : List Int} (hV : VG g) (hp : IsPerm p g.2.length) (r : Rel g p h) {v u : Nat} (hv : v < g.2.length) (hu : u < g.2.length) : Adj h (pm p v) (pm p u) ↔ Adj g v u := by
  constructor
  · rintro ⟨i, hi, he⟩
    rw [r.row v hv, mp_len] at hi
    obtain ⟨w, hw, e1, e2⟩ := r.link hV hp hv hi
    rw [e2] at he
    have : w = u := hp.inj hw hu (by dsimp only at he; omega)
    subst this
    exact ⟨i, hi, e1⟩
  · rintro ⟨i, hi, he⟩
    obtain ⟨w, hw, e1, e2⟩ := r.link hV hp hv hi
    have : w = u := by
      have : (w : Int) = u := e1.symm.trans he
      omega
    subst this
    exact ⟨i, by rw [r.row v hv, mp_len]; exact hi, by rw [e2]⟩
end Go.Proofs.Ytemhmmcakmidkaa
end
section
set_option linter.unusedVariables false
set_option linter.unusedSimpArgs false
namespace Go.Proofs.Ytemhmmcakmidkaa
open Go.Sx
abbrev GG := List Int × List (List (Int × Int))

theorem awakeK : m_law03_awake 1000 = some true := by kernel_rfl
end Go.Proofs.Ytemhmmcakmidkaa
end
section
set_option linter.unusedVariables false
set_option linter.unusedSimpArgs false
namespace Go.Proofs.Ytemhmmcakmidkaa
open Go.Sx
set_option linter.unusedVariables false
/-- a graph of a size that a loop of the laws can go through -/
def small (g : GG) : Prop := g.1.length ≤ 900 ∧ g.2.length ≤ 900 ∧ ∀ l ∈ g.2, l.length ≤ 900

theorem at_mem {α : Type} [Inhabited α] (l : List α) (i : Int) (h0 : 0 ≤ i) (h1 : i < l.length) : at' l i ∈ l := List.mem_of_getElem? (at'_some h0 h1)

theorem same_refl (g : GG) (h : small g) : m_ref01_Same 1000 g g = some true := by
  obtain ⟨h1, h2, h3⟩ := h
  unfold m_ref01_Same ref01_Same_k1
  rw [if_neg (by simp), if_neg (by simp)]
  refine iter_eq (fun i : Int => 0 ≤ i ∧ i ≤ g.1.length) (fun i : Int => g.1.length - i.toNat) ?_ 1000 _ (by omega) (by omega)
  rintro i ag ⟨i0, i1⟩ hag
  unfold ref01_Same_s3
  by_cases hi : i < g.1.length
  · rw [if_pos hi, ckT ⟨i0, hi⟩, ckT ⟨i0, hi⟩, if_neg (by simp), wr (by omega) (by omega)]
    exact hag _ (by omega) (by omega)
  · rw [if_neg hi]
    unfold ref01_Same_k2
    refine iter_eq (fun i : Int => 0 ≤ i ∧ i ≤ g.2.length) (fun i : Int => g.2.length - i.toNat) ?_ 1000 _ (by omega) (by omega)
    rintro v ag ⟨v0, v1⟩ hag
    unfold ref01_Same_s1
    by_cases hv : v < g.2.length
    · have hrow := h3 _ (at_mem g.2 v v0 hv)
      rw [if_pos hv, ckT ⟨v0, hv⟩, ckT ⟨v0, hv⟩, if_neg (by simp)]
      refine iter_eq (fun i : Int => 0 ≤ i ∧ i ≤ (at' g.2 v).length) (fun i : Int => (at' g.2 v).length - i.toNat) ?_ 1000 _ (by omega) (by omega)
      rintro i ag2 ⟨i0, i1⟩ hag2
      unfold ref01_Same_s2
      rw [ckT ⟨v0, hv⟩]
      by_cases hi : i < (at' g.2 v).length
      · rw [if_pos hi, ckT ⟨v0, hv⟩, ckT ⟨i0, hi⟩, ckT ⟨v0, hv⟩, ckT ⟨i0, hi⟩, if_neg (by simp), wr (by omega) (by omega)]
        exact hag2 _ (by omega) (by omega)
      · rw [if_neg hi]
        unfold ref01_Same_k4
        rw [wr (by omega) (by omega)]
        exact hag _ (by omega) (by omega)
    · rw [if_neg hv]; rfl

/-! ## Complete graphs -/
/-! ## Grids -/
end Go.Proofs.Ytemhmmcakmidkaa
end
section
set_option linter.unusedVariables false
set_option linter.unusedSimpArgs false
namespace Go.Proofs.Ytemhmmcakmidkaa
open Go.Sx
set_option linter.unusedVariables false
set_option linter.unusedSimpArgs false
def law03_FamilyRelabelsBack_k4 (fuel : Nat) (a40 : Unit) : Option (Bool) :=
  Option.bind (m_law03_awake fuel ) fun r42 => (some (r42))
def law03_FamilyRelabelsBack_k5 (a47 : Int) (ag46 : (Int) → Option (Bool)) (a52 : Bool) : Option (Bool) :=
  if a52 = true then (some (false)) else (ag46 (wI .i64 (a47 + (1 : Int))))
def law03_FamilyRelabelsBack_s1 (fuel : Nat) (p0 : List (Int) × (List (List (Int × Int)))) (p1 : List (Int)) (r14 : (List (Int) × (List (List (Int × Int)))) × Int) (r29 : List (Int)) (r33 : List (Int)) (a47 : Int) (ag46 : (Int) → Option (Bool)) : Option (Bool) :=
  if a47 < (List.length p1 : Int) then (ck (0 ≤ a47 ∧ a47 < (List.length r29 : Int)) (ck (0 ≤ a47 ∧ a47 < (List.length p1 : Int)) (ck (0 ≤ (at' p1 a47) ∧ (at' p1 a47) < (List.length r33 : Int)) (if (at' r29 a47) ≠ (at' r33 (at' p1 a47)) then (law03_FamilyRelabelsBack_k5 a47 ag46 (true)) else (Option.bind (m_graph_Degree fuel ((p0.1, p0.2)) a47) fun r59 => (ck (0 ≤ a47 ∧ a47 < (List.length p1 : Int)) (Option.bind (m_graph_Degree fuel ((r14.1.1, r14.1.2)) (at' p1 a47)) fun r63 => (law03_FamilyRelabelsBack_k5 a47 ag46 (decide (r59 ≠ r63)))))))))) else (law03_FamilyRelabelsBack_k4 fuel (()))
def law03_FamilyRelabelsBack_k3 (fuel : Nat) (p0 : List (Int) × (List (List (Int × Int)))) (p1 : List (Int)) (r14 : (List (Int) × (List (List (Int × Int)))) × Int) (r29 : List (Int)) (r33 : List (Int)) (a37 : Bool) : Option (Bool) :=
  if a37 = true then (some (false)) else (iter (law03_FamilyRelabelsBack_s1 fuel p0 p1 r14 r29 r33) fuel (0 : Int))
def law03_FamilyRelabelsBack_k2 (fuel : Nat) (p0 : List (Int) × (List (List (Int × Int)))) (p1 : List (Int)) (p2 : Int) (a12 : List (Int)) : Option (Bool) :=
  Option.bind (m_family_Relabel fuel ((p0.1, p0.2)) p1) fun r14 => (Option.bind (m_family_Relabel fuel ((r14.1.1, r14.1.2)) a12) fun r20 => (Option.bind (m_made_Mod fuel p2 (List.length p1 : Int)) fun r26 => (Option.bind (m_graph_Distances fuel ((p0.1, p0.2)) r26) fun r29 => (ck (0 ≤ r26 ∧ r26 < (List.length p1 : Int)) (Option.bind (m_graph_Distances fuel ((r14.1.1, r14.1.2)) (at' p1 r26)) fun r33 => (if r14.2 ≠ (0 : Int) then (law03_FamilyRelabelsBack_k3 fuel p0 p1 r14 r29 r33 (true)) else (if r20.2 ≠ (0 : Int) then (law03_FamilyRelabelsBack_k3 fuel p0 p1 r14 r29 r33 (true)) else (Option.bind (m_ref01_Same fuel ((p0.1, p0.2)) ((r20.1.1, r20.1.2))) fun r68 => (if (!r68) = true then (law03_FamilyRelabelsBack_k3 fuel p0 p1 r14 r29 r33 (true)) else (if (List.length r29 : Int) ≠ (List.length p1 : Int) then (law03_FamilyRelabelsBack_k3 fuel p0 p1 r14 r29 r33 (true)) else (law03_FamilyRelabelsBack_k3 fuel p0 p1 r14 r29 r33 (decide ((List.length r33 : Int) ≠ (List.length p1 : Int))))))))))))))
def law03_FamilyRelabelsBack_s2 (fuel : Nat) (p0 : List (Int) × (List (List (Int × Int)))) (p1 : List (Int)) (p2 : Int) (a76 : Int × List (Int)) (ag75 : (Int × List (Int)) → Option (Bool)) : Option (Bool) :=
  if a76.1 < (List.length p1 : Int) then (ck (0 ≤ a76.1 ∧ a76.1 < (List.length p1 : Int)) (ck (0 ≤ (at' p1 a76.1) ∧ (at' p1 a76.1) < (List.length a76.2 : Int)) (ag75 ((wI .i64 (a76.1 + (1 : Int))), (List.set a76.2 (Int.toNat (at' p1 a76.1)) a76.1))))) else (law03_FamilyRelabelsBack_k2 fuel p0 p1 p2 (a76.2))
def law03_FamilyRelabelsBack_k1 (fuel : Nat) (p0 : List (Int) × (List (List (Int × Int)))) (p1 : List (Int)) (p2 : Int) (a3 : Bool) : Option (Bool) :=
  if a3 = true then (Option.bind (m_law03_awake fuel ) fun r6 => (some (r6))) else (ck (0 ≤ (List.length p1 : Int) ∧ (List.length p1 : Int) ≤ 1099511627) (iter (law03_FamilyRelabelsBack_s2 fuel p0 p1 p2) fuel ((0 : Int), (List.replicate (Int.toNat (List.length p1 : Int)) (0 : Int)))))
def m_law03_FamilyRelabelsBack (fuel : Nat) (p0 : List (Int) × (List (List (Int × Int)))) (p1 : List (Int)) (p2 : Int) : Option (Bool) :=
  Option.bind (m_made_LightGraph fuel ((p0.1, p0.2))) fun r82 => (if (!r82) = true then (law03_FamilyRelabelsBack_k1 fuel p0 p1 p2 (true)) else (Option.bind (m_ref01_Valid fuel ((p0.1, p0.2))) fun r86 => (if (!r86) = true then (law03_FamilyRelabelsBack_k1 fuel p0 p1 p2 (true)) else (Option.bind (m_ref03_Permutation fuel p1 (List.length p0.2 : Int)) fun r90 => (law03_FamilyRelabelsBack_k1 fuel p0 p1 p2 ((!r90)))))))

set_option maxHeartbeats 4000000 in
set_option maxRecDepth 20000 in
theorem t_law03_FamilyRelabelsBack (fuel : Nat) {p0 : List (Int) × (List (List (Int × Int)))} {p1 : List (Int)} {p2 : Int} (v0 : Value)  (v1 : Value)  (z2 : List (Value × List (Int × Int)))  (v3 : Value) (r : Bool) (h : m_law03_FamilyRelabelsBack fuel p0 p1 p2 = some r) :
    Meets Try.prog 11 #[Value.agg #[v0, v1], v3, Value.int .i64 (p2)] [Sl RI64 v0 p0.1, S2 RI64I64p v1 z2 p0.2, Sl RI64 v3 p1] (fun x : Unit => Value.bool (r)) (fun x l => l) (fun _ l => l) := by
  refine Meets.of (vs := [Value.agg #[v0, v1], v3, Value.int .i64 (p2)]) Try.func11 rfl Try.ntmps11 rfl fun c => ?_
  unfold m_law03_FamilyRelabelsBack at h
  refine J.seq ?_
  refine J.region ?_
  refine J.loud (Loud.box (cs := [v0, v1]) rfl rfl) rfl fun b1 => ?_
  refine J.quiet (Y.assign rfl) rfl ?_
  refine J.done ?_
  refine J.thenN ?_
  refine J.seq ?_
  refine J.seq ?_
  refine J.midI (A := Bool) (B := Unit) (fun a3 => law03_FamilyRelabelsBack_k1 fuel p0 p1 p2 a3 = some r) (fun a3 b4 => [(1, v3), (2, Value.int .i64 (p2)), (3, Value.pointer (some ⟨b1, 0, none⟩)), (31, Value.bool (a3))]) (fun a3 b4 => [Blk b1 [v0, v1] 26]) (fun a3 b4 => [Sl RI64 v0 p0.1, S2 RI64I64p v1 z2 p0.2, Sl RI64 v3 p1]) ?_ ?_
  · refine J.region ?_
    refine J.quiet (Y.loadBAll 0 rfl rfl rfl rfl) rfl ?_
    replace h := bnd h; obtain ⟨r82, hr83, h⟩ := h
    refine J.loud (Loud.callL body46 (t_made_LightGraph fuel v0 v1 z2 r82 hr83) rfl (LentAll.cons (Lent.fact 0 rfl) (LentAll.cons (Lent.fact 1 rfl) (LentAll.nil))) (fun _ _ => rfl)) rfl fun x84 => ?_
    refine J.quiet (Y.not rfl) rfl ?_
    refine J.quiet (Y.move rfl) rfl ?_
    refine J.guard (by exact rfl) (by exact rfl) (fun hp85 => ?_) (fun hp85 => ?_)
    · replace h := ifP hp85 h
      refine J.guardN rfl rfl rfl ?_
      refine J.guardN rfl rfl rfl ?_
      refine J.guardN rfl rfl rfl ?_
      refine J.quiet (Y.pickT rfl rfl) rfl ?_
      refine J.quiet (Y.move rfl) rfl ?_
      refine J.guardN rfl rfl rfl ?_
      refine J.guardN rfl rfl rfl ?_
      refine J.guardN rfl rfl rfl ?_
      refine J.guardN rfl rfl rfl ?_
      refine J.guardN rfl rfl rfl ?_
      refine J.guardN rfl rfl rfl ?_
      refine J.quiet (Y.pickT rfl rfl) rfl ?_
      refine J.done ?_
      refine J.thenN ?_
      exact J.meetI (true) (()) h (by repeat (first | exact SubF.nil | refine SubF.cons rfl ?_)) (SubM.refl _) (LentAll.refl _ _)
    · replace h := ifBN hp85 h
      refine J.guardY rfl (Y.loadBAll 0 rfl rfl rfl rfl) rfl ?_
      replace h := bnd h; obtain ⟨r86, hr87, h⟩ := h
      refine J.loudG rfl (Loud.callL body51 (t_ref01_Valid fuel v0 v1 z2 r86 hr87) rfl (LentAll.cons (Lent.fact 0 rfl) (LentAll.cons (Lent.fact 1 rfl) (LentAll.nil))) (fun _ _ => rfl)) rfl fun x88 => ?_
      refine J.guardY rfl (Y.not rfl) rfl ?_
      refine J.quiet (Y.pickF rfl rfl) rfl ?_
      refine J.quiet (Y.move rfl) rfl ?_
      refine J.guard (by exact rfl) (by exact rfl) (fun hp89 => ?_) (fun hp89 => ?_)
      · replace h := ifP hp89 h
        refine J.guardN rfl rfl rfl ?_
        refine J.guardN rfl rfl rfl ?_
        refine J.guardN rfl rfl rfl ?_
        refine J.guardN rfl rfl rfl ?_
        refine J.guardN rfl rfl rfl ?_
        refine J.guardN rfl rfl rfl ?_
        refine J.quiet (Y.pickT rfl rfl) rfl ?_
        refine J.done ?_
        refine J.thenN ?_
        exact J.meetI (true) (()) h (by repeat (first | exact SubF.nil | refine SubF.cons rfl ?_)) (SubM.refl _) (LentAll.refl _ _)
      · replace h := ifBN hp89 h
        refine J.guardY rfl (Y.move rfl) rfl ?_
        refine J.guardY rfl (Y.fieldB rfl rfl rfl rfl rfl) rfl ?_
        refine J.guardY rfl (Y.loadB 0 rfl rfl rfl rfl rfl) rfl ?_
        refine J.guardY rfl (Y.lenN rfl (Lent.fact 1 rfl) rfl) rfl ?_
        replace h := bnd h; obtain ⟨r90, hr91, h⟩ := h
        refine J.loudG rfl (Loud.callL body52 (t_ref03_Permutation fuel v3 r90 hr91) rfl (LentAll.cons (Lent.fact 2 rfl) (LentAll.nil)) (fun _ _ => rfl)) rfl fun x92 => ?_
        refine J.guardY rfl (Y.not rfl) rfl ?_
        refine J.quiet (Y.pickF rfl rfl) rfl ?_
        refine J.done ?_
        refine J.thenN ?_
        exact J.meetI ((!r90)) (()) h (by repeat (first | exact SubF.nil | refine SubF.cons rfl ?_)) (SubM.refl _) (LentAll.refl _ _)
  · clear h
    intro a3 b4 h
    unfold law03_FamilyRelabelsBack_k1 at h
    refine J.cond (by exact rfl) (fun hp5 => ?_) (fun hp5 => ?_)
    · replace h := ifP hp5 h
      refine J.seq ?_
      refine J.region ?_
      replace h := bnd h; obtain ⟨r6, hr7, h⟩ := h
      refine J.loud (Loud.callL body18 (t_law03_awake fuel  r6 hr7) rfl (LentAll.nil) (fun _ _ => rfl)) rfl fun x8 => ?_
      refine J.quiet (Y.assign rfl) rfl ?_
      refine J.done ?_
      refine J.thenN ?_
      refine J.ret ?_
      refine J.thenR ?_
      obtain rfl := Option.some.inj h
      exact J.retG1 (()) rfl rfl (RV.tmp rfl) (SubM.nil) LentAll.nil
    · replace h := ifBN hp5 h
      refine J.skip ?_
      refine J.thenN ?_
      refine J.seq ?_
      refine J.region ?_
      refine J.quiet (Y.move rfl) rfl ?_
      refine J.quiet (Y.lenS rfl (Lent.fact 2 rfl) rfl) rfl ?_
      replace h := ck_some h; obtain ⟨hc9, h⟩ := h
      refine J.loud (Loud.makeS (e := EI64) (0 : Int) rfl rfl rfl rfl hc9 rfl rfl rfl) rfl fun u10 => ?_
      refine J.quiet (Y.assign rfl) rfl ?_
      refine J.done ?_
      refine J.thenN ?_
      refine J.seq ?_
      refine J.midI (A := List (Int)) (B := Unit) (fun a12 => law03_FamilyRelabelsBack_k2 fuel p0 p1 p2 a12 = some r) (fun a12 b13 => [(1, v3), (2, Value.int .i64 (p2)), (3, Value.pointer (some ⟨b1, 0, none⟩)), (7, u10)]) (fun a12 b13 => [Ar EI64 u10 a12, Blk b1 [v0, v1] 26]) (fun a12 b13 => [Sl RI64 v0 p0.1, S2 RI64I64p v1 z2 p0.2, Sl RI64 v3 p1]) ?_ ?_
      · refine J.seq ?_
        refine J.region ?_
        refine J.quiet (Y.assign rfl) rfl ?_
        refine J.done ?_
        refine J.thenN ?_
        refine J.block ?_
        refine J.loopI (A := Int × List (Int)) (B := Unit) (law03_FamilyRelabelsBack_s2 fuel p0 p1 p2) (fun a76 b77 => [(1, v3), (2, Value.int .i64 (p2)), (3, Value.pointer (some ⟨b1, 0, none⟩)), (7, u10), (8, Value.int .i64 (a76.1))]) (fun a76 b77 => [Ar EI64 u10 a76.2, Blk b1 [v0, v1] 26]) (fun a76 b77 => [Sl RI64 v0 p0.1, S2 RI64I64p v1 z2 p0.2, Sl RI64 v3 p1]) ((0 : Int), (List.replicate (Int.toNat (List.length p1 : Int)) (0 : Int))) (()) h (by repeat (first | exact SubF.nil | refine SubF.cons rfl ?_)) (SubM.refl _) (LentAll.refl _ _) ?_
        clear h
        intro k78 a76 b77 h
        unfold law03_FamilyRelabelsBack_s2 at h
        refine J.seq ?_
        refine J.seq ?_
        refine J.region ?_
        refine J.quiet (Y.move rfl) rfl ?_
        refine J.quiet (Y.move rfl) rfl ?_
        refine J.quiet (Y.lenS rfl (Lent.fact 2 rfl) rfl) rfl ?_
        refine J.quiet (Y.lss rfl rfl) rfl ?_
        refine J.done ?_
        refine J.thenN ?_
        refine J.condD (by exact rfl) (fun hp79 => ?_) (fun hp79 => ?_)
        · replace h := ifP hp79 h
          refine J.skip ?_
          refine J.thenN ?_
          refine J.seq ?_
          refine J.block ?_
          refine J.region ?_
          refine J.quiet (Y.move rfl) rfl ?_
          refine J.quiet (Y.move rfl) rfl ?_
          refine J.quiet (Y.move rfl) rfl ?_
          replace h := ck_some h; obtain ⟨hc80, h⟩ := h
          refine J.quiet (Y.indexS rfl rfl (Lent.fact 2 rfl) rfl rfl hc80) rfl ?_
          refine J.quiet (Y.loadS0 rfl (Lent.fact 2 rfl) rfl rfl rfl RI64c0 hc80) rfl ?_
          refine J.quiet (Y.move rfl) rfl ?_
          replace h := ck_some h; obtain ⟨hc81, h⟩ := h
          refine J.quiet (Y.indexS rfl rfl (Lent.ar (Lent.res 0 rfl) FI64) rfl rfl hc81) rfl ?_
          refine J.storeS 0 a76.1 hc81 rfl rfl rfl rfl rfl rfl rfl ?_
          refine J.done ?_
          refine J.inN ?_
          refine J.thenN ?_
          refine J.region ?_
          refine J.quiet (Y.move rfl) rfl ?_
          refine J.quiet (Y.addW rfl rfl) rfl ?_
          refine J.quiet (Y.assign rfl) rfl ?_
          refine J.done ?_
          refine J.thenN ?_
          exact J.againI ((wI .i64 (a76.1 + (1 : Int))), (List.set a76.2 (Int.toNat (at' p1 a76.1)) a76.1)) (()) h (by repeat (first | exact SubF.nil | refine SubF.cons rfl ?_)) (SubM.refl _) (LentAll.refl _ _)
        · replace h := ifN hp79 h
          refine J.exit ?_
          refine J.thenX ?_
          refine J.thenX ?_
          refine J.inX ?_
          refine J.thenN ?_
          exact J.meetI (a76.2) (()) h (by repeat (first | exact SubF.nil | refine SubF.cons rfl ?_)) (SubM.refl _) (LentAll.refl _ _)
      · clear h
        intro a12 b13 h
        unfold law03_FamilyRelabelsBack_k2 at h
        refine J.seq ?_
        refine J.region ?_
        refine J.quiet (Y.loadBAll 1 rfl rfl rfl rfl) rfl ?_
        refine J.quiet (Y.move rfl) rfl ?_
        replace h := bnd h; obtain ⟨r14, hr15, h⟩ := h
        refine J.loud (Loud.callL body47 (t_family_Relabel fuel v0 v1 z2 v3 r14 hr15) rfl (LentAll.cons (Lent.fact 0 rfl) (LentAll.cons (Lent.fact 1 rfl) (LentAll.cons (Lent.fact 2 rfl) (LentAll.nil)))) (fun _ _ => rfl)) rfl fun x16 => ?_
        refine J.quiet (Y.move rfl) rfl ?_
        refine J.quiet (Y.extract rfl rfl) rfl ?_
        refine J.quiet (Y.extract rfl rfl) rfl ?_
        refine J.loud (Loud.alloc (cs := [Value.slice none 0 0, Value.slice none 0 0]) rfl rfl) rfl fun b17 => ?_
        refine J.know (Know.one ((Lent.ar (Lent.res 1 rfl) FI64))) fun ho18 => ?_
        refine J.know (Know.one (Lent.sl (Lent.rows (i := 2) (j := 3) rfl rfl FI64I64p))) fun ho19 => ?_
        refine J.storeAll 0 (vs := [x16.1, x16.2.1]) rfl rfl (all1 ho18 (all1 ho19 rfl)) rfl rfl rfl ?_
        refine J.quiet (Y.assign rfl) rfl ?_
        refine J.done ?_
        refine J.thenN ?_
        refine J.seq ?_
        refine J.region ?_
        refine J.quiet (Y.loadBAll 0 rfl rfl rfl rfl) rfl ?_
        refine J.quiet (Y.move rfl) rfl ?_
        replace h := bnd h; obtain ⟨r20, hr21, h⟩ := h
        refine J.loud (Loud.callL body47 (t_family_Relabel fuel x16.1 x16.2.1 (List.zip x16.2.2 r14.1.2) u10 r20 hr21) rfl (LentAll.cons (Lent.ar (Lent.res 1 rfl) FI64) (LentAll.cons (Lent.rows (i := 2) (j := 3) rfl rfl FI64I64p) (LentAll.cons (Lent.ar (Lent.res 4 rfl) FI64) (LentAll.nil)))) (fun _ _ => rfl)) rfl fun x22 => ?_
        refine J.quiet (Y.move rfl) rfl ?_
        refine J.quiet (Y.extract rfl rfl) rfl ?_
        refine J.quiet (Y.extract rfl rfl) rfl ?_
        refine J.loud (Loud.alloc (cs := [Value.slice none 0 0, Value.slice none 0 0]) rfl rfl) rfl fun b23 => ?_
        refine J.know (Know.one ((Lent.ar (Lent.res 1 rfl) FI64))) fun ho24 => ?_
        refine J.know (Know.one (Lent.sl (Lent.rows (i := 2) (j := 3) rfl rfl FI64I64p))) fun ho25 => ?_
        refine J.storeAll 0 (vs := [x22.1, x22.2.1]) rfl rfl (all1 ho24 (all1 ho25 rfl)) rfl rfl rfl ?_
        refine J.quiet (Y.assign rfl) rfl ?_
        refine J.done ?_
        refine J.thenN ?_
        refine J.seq ?_
        refine J.region ?_
        refine J.quiet (Y.move rfl) rfl ?_
        refine J.quiet (Y.move rfl) rfl ?_
        refine J.quiet (Y.lenS rfl (Lent.fact 2 rfl) rfl) rfl ?_
        replace h := bnd h; obtain ⟨r26, hr27, h⟩ := h
        refine J.loud (Loud.callL body34 (t_made_Mod fuel  r26 hr27) rfl (LentAll.nil) (fun _ _ => rfl)) rfl fun x28 => ?_
        refine J.quiet (Y.assign rfl) rfl ?_
        refine J.done ?_
        refine J.thenN ?_
        refine J.seq ?_
        refine JR.start [0, 0, 3, 0, 0, 0, 48, 112, 255, 511, 1023] 8 mixedOrders (by decide +kernel) ?_
        refine JR.open (by exact rfl) ?_
        refine JR.qt rfl (SubM.cons 9 rfl (SubM.nil)) (SubL.nil) (Y.loadBAll 0 rfl rfl rfl rfl) HistOk.z ?_
        refine JR.qt rfl (SubM.nil) (SubL.nil) (Y.move rfl) HistOk.z ?_
        replace h := bnd h; obtain ⟨r29, hr30, h⟩ := h
        refine JR.loud rfl rfl rfl (Loud.callL body35 (t_graph_Distances fuel v0 v1 z2 r29 hr30) rfl (LentAll.cons (Lent.fact 0 rfl) (LentAll.cons (Lent.fact 1 rfl) (LentAll.nil))) (fun _ _ => rfl)) rfl (fun x31 => (BsOk.b rfl (BsOk.b rfl BsOk.z))) fun x31 => ?_
        refine JR.qt rfl (SubM.cons 5 rfl (SubM.nil)) (SubL.nil) (Y.loadBAll 0 rfl rfl rfl rfl) (HistOk.h (SubM.cons 4 rfl (SubM.nil)) (SubL.nil) HistOk.z) ?_
        refine JR.qt rfl (SubM.nil) (SubL.nil) (Y.move rfl) (HistOk.h (SubM.nil) (SubL.nil) HistOk.z) ?_
        refine JR.qt rfl (SubM.nil) (SubL.nil) (Y.move rfl) (HistOk.h (SubM.nil) (SubL.nil) HistOk.z) ?_
        replace h := ck_some h; obtain ⟨hc32, h⟩ := h
        refine JR.qt rfl (SubM.nil) (SubL.cons (List.mem_of_getElem? (i := 2) rfl) (SubL.nil)) (Y.indexS rfl rfl (Lent.fact 0 rfl) rfl rfl hc32) (HistOk.h (SubM.nil) (SubL.cons (List.mem_of_getElem? (i := 2) rfl) (SubL.nil)) HistOk.z) ?_
        refine JR.qt rfl (SubM.nil) (SubL.cons (List.mem_of_getElem? (i := 2) rfl) (SubL.nil)) (Y.loadS0 rfl (Lent.fact 0 rfl) rfl rfl rfl RI64c0 hc32) (HistOk.h (SubM.nil) (SubL.cons (List.mem_of_getElem? (i := 2) rfl) (SubL.nil)) HistOk.z) ?_
        refine JR.tailD 8 rfl rfl ?_
        replace h := bnd h; obtain ⟨r33, hr34, h⟩ := h
        refine J.loud (Loud.callL body35 (t_graph_Distances fuel x16.1 x16.2.1 (List.zip x16.2.2 r14.1.2) r33 hr34) rfl (LentAll.cons (Lent.ar (Lent.res 6 rfl) FI64) (LentAll.cons (Lent.rows (i := 7) (j := 8) rfl rfl FI64I64p) (LentAll.nil))) (fun _ _ => rfl)) rfl fun x35 => ?_
        refine J.quiet (Y.assign rfl) rfl ?_
        refine J.quiet (Y.assign rfl) rfl ?_
        refine J.done ?_
        refine J.thenN ?_
        refine J.seq ?_
        refine J.seq ?_
        refine J.midI (A := Bool) (B := Unit) (fun a37 => law03_FamilyRelabelsBack_k3 fuel p0 p1 r14 r29 r33 a37 = some r) (fun a37 b38 => [(1, v3), (3, Value.pointer (some ⟨b1, 0, none⟩)), (9, Value.pointer (some ⟨b17, 0, none⟩)), (13, x31), (14, x35), (99, Value.bool (a37))]) (fun a37 b38 => [Ar EI64 x35 r33, Ar EI64 x31 r29, Blk b17 [x16.1, x16.2.1] 26, Ar EI64 x16.1 r14.1.1, Ar Enc.raw x16.2.1 x16.2.2, Rws EI64I64p x16.2.2 r14.1.2, Blk b1 [v0, v1] 26]) (fun a37 b38 => [Sl RI64 v0 p0.1, S2 RI64I64p v1 z2 p0.2, Sl RI64 v3 p1]) ?_ ?_
        · refine J.region ?_
          refine J.quiet (Y.move rfl) rfl ?_
          refine J.quiet (Y.neq rfl rfl) rfl ?_
          refine J.quiet (Y.move rfl) rfl ?_
          refine J.guardD (by exact rfl) (by exact rfl) (fun hp66 => ?_) (fun hp66 => ?_)
          · replace h := ifP hp66 h
            refine J.guardN rfl rfl rfl ?_
            refine J.guardN rfl rfl rfl ?_
            refine J.quiet (Y.pickT rfl rfl) rfl ?_
            refine J.quiet (Y.move rfl) rfl ?_
            refine J.guardN rfl rfl rfl ?_
            refine J.guardN rfl rfl rfl ?_
            refine J.guardN rfl rfl rfl ?_
            refine J.guardN rfl rfl rfl ?_
            refine J.quiet (Y.pickT rfl rfl) rfl ?_
            refine J.quiet (Y.move rfl) rfl ?_
            refine J.guardN rfl rfl rfl ?_
            refine J.guardN rfl rfl rfl ?_
            refine J.guardN rfl rfl rfl ?_
            refine J.guardN rfl rfl rfl ?_
            refine J.guardN rfl rfl rfl ?_
            refine J.quiet (Y.pickT rfl rfl) rfl ?_
            refine J.quiet (Y.move rfl) rfl ?_
            refine J.guardN rfl rfl rfl ?_
            refine J.guardN rfl rfl rfl ?_
            refine J.guardN rfl rfl rfl ?_
            refine J.guardN rfl rfl rfl ?_
            refine J.guardN rfl rfl rfl ?_
            refine J.quiet (Y.pickT rfl rfl) rfl ?_
            refine J.done ?_
            refine J.thenN ?_
            exact J.meetI (true) (()) h (by repeat (first | exact SubF.nil | refine SubF.cons rfl ?_)) (SubM.cons 0 rfl (SubM.cons 0 rfl (SubM.cons 4 rfl (SubM.cons 4 rfl (SubM.cons 4 rfl (SubM.cons 4 rfl (SubM.cons 5 rfl (SubM.nil)))))))) (LentAll.refl _ _)
          · replace h := ifN hp66 h
            refine J.guardY rfl (Y.move rfl) rfl ?_
            refine J.guardY rfl (Y.neq rfl rfl) rfl ?_
            refine J.quiet (Y.pickF rfl rfl) rfl ?_
            refine J.quiet (Y.move rfl) rfl ?_
            refine J.guardD (by exact rfl) (by exact rfl) (fun hp67 => ?_) (fun hp67 => ?_)
            · replace h := ifP hp67 h
              refine J.guardN rfl rfl rfl ?_
              refine J.guardN rfl rfl rfl ?_
              refine J.guardN rfl rfl rfl ?_
              refine J.guardN rfl rfl rfl ?_
              refine J.quiet (Y.pickT rfl rfl) rfl ?_
              refine J.quiet (Y.move rfl) rfl ?_
              refine J.guardN rfl rfl rfl ?_
              refine J.guardN rfl rfl rfl ?_
              refine J.guardN rfl rfl rfl ?_
              refine J.guardN rfl rfl rfl ?_
              refine J.guardN rfl rfl rfl ?_
              refine J.quiet (Y.pickT rfl rfl) rfl ?_
              refine J.quiet (Y.move rfl) rfl ?_
              refine J.guardN rfl rfl rfl ?_
              refine J.guardN rfl rfl rfl ?_
              refine J.guardN rfl rfl rfl ?_
              refine J.guardN rfl rfl rfl ?_
              refine J.guardN rfl rfl rfl ?_
              refine J.quiet (Y.pickT rfl rfl) rfl ?_
              refine J.done ?_
              refine J.thenN ?_
              exact J.meetI (true) (()) h (by repeat (first | exact SubF.nil | refine SubF.cons rfl ?_)) (SubM.cons 0 rfl (SubM.cons 0 rfl (SubM.cons 4 rfl (SubM.cons 4 rfl (SubM.cons 4 rfl (SubM.cons 4 rfl (SubM.cons 5 rfl (SubM.nil)))))))) (LentAll.refl _ _)
            · replace h := ifN hp67 h
              refine J.guardY rfl (Y.loadBAll 11 rfl rfl rfl rfl) rfl ?_
              refine J.guardY rfl (Y.loadBAll 2 rfl rfl rfl rfl) rfl ?_
              replace h := bnd h; obtain ⟨r68, hr69, h⟩ := h
              refine J.loudG rfl (Loud.callL body21 (t_ref01_Same fuel v0 v1 z2 x22.1 x22.2.1 (List.zip x22.2.2 r20.1.2) r68 hr69) rfl (LentAll.cons (Lent.fact 0 rfl) (LentAll.cons (Lent.fact 1 rfl) (LentAll.cons (Lent.ar (Lent.res 3 rfl) FI64) (LentAll.cons (Lent.rows (i := 4) (j := 5) rfl rfl FI64I64p) (LentAll.nil))))) (fun _ _ => rfl)) rfl fun x70 => ?_
              refine J.guardY rfl (Y.not rfl) rfl ?_
              refine J.quiet (Y.pickF rfl rfl) rfl ?_
              refine J.quiet (Y.move rfl) rfl ?_
              refine J.guard (by exact rfl) (by exact rfl) (fun hp71 => ?_) (fun hp71 => ?_)
              · replace h := ifP hp71 h
                refine J.guardN rfl rfl rfl ?_
                refine J.guardN rfl rfl rfl ?_
                refine J.guardN rfl rfl rfl ?_
                refine J.guardN rfl rfl rfl ?_
                refine J.guardN rfl rfl rfl ?_
                refine J.quiet (Y.pickT rfl rfl) rfl ?_
                refine J.quiet (Y.move rfl) rfl ?_
                refine J.guardN rfl rfl rfl ?_
                refine J.guardN rfl rfl rfl ?_
                refine J.guardN rfl rfl rfl ?_
                refine J.guardN rfl rfl rfl ?_
                refine J.guardN rfl rfl rfl ?_
                refine J.quiet (Y.pickT rfl rfl) rfl ?_
                refine J.done ?_
                refine J.thenN ?_
                exact J.meetI (true) (()) h (by repeat (first | exact SubF.nil | refine SubF.cons rfl ?_)) (SubM.cons 0 rfl (SubM.cons 0 rfl (SubM.cons 4 rfl (SubM.cons 4 rfl (SubM.cons 4 rfl (SubM.cons 4 rfl (SubM.cons 5 rfl (SubM.nil)))))))) (LentAll.refl _ _)
              · replace h := ifBN hp71 h
                refine J.guardY rfl (Y.move rfl) rfl ?_
                refine J.guardY rfl (Y.lenS rfl (Lent.ar (Lent.res 1 rfl) FI64) rfl) rfl ?_
                refine J.guardY rfl (Y.move rfl) rfl ?_
                refine J.guardY rfl (Y.lenS rfl (Lent.fact 2 rfl) rfl) rfl ?_
                refine J.guardY rfl (Y.neq rfl rfl) rfl ?_
                refine J.quiet (Y.pickF rfl rfl) rfl ?_
                refine J.quiet (Y.move rfl) rfl ?_
                refine J.guardD (by exact rfl) (by exact rfl) (fun hp72 => ?_) (fun hp72 => ?_)
                · replace h := ifP hp72 h
                  refine J.guardN rfl rfl rfl ?_
                  refine J.guardN rfl rfl rfl ?_
                  refine J.guardN rfl rfl rfl ?_
                  refine J.guardN rfl rfl rfl ?_
                  refine J.guardN rfl rfl rfl ?_
                  refine J.quiet (Y.pickT rfl rfl) rfl ?_
                  refine J.done ?_
                  refine J.thenN ?_
                  exact J.meetI (true) (()) h (by repeat (first | exact SubF.nil | refine SubF.cons rfl ?_)) (SubM.cons 0 rfl (SubM.cons 0 rfl (SubM.cons 4 rfl (SubM.cons 4 rfl (SubM.cons 4 rfl (SubM.cons 4 rfl (SubM.cons 5 rfl (SubM.nil)))))))) (LentAll.refl _ _)
                · replace h := ifN hp72 h
                  refine J.guardY rfl (Y.move rfl) rfl ?_
                  refine J.guardY rfl (Y.lenS rfl (Lent.ar (Lent.res 0 rfl) FI64) rfl) rfl ?_
                  refine J.guardY rfl (Y.move rfl) rfl ?_
                  refine J.guardY rfl (Y.lenS rfl (Lent.fact 2 rfl) rfl) rfl ?_
                  refine J.guardY rfl (Y.neq rfl rfl) rfl ?_
                  refine J.quiet (Y.pickF rfl rfl) rfl ?_
                  refine J.done ?_
                  refine J.thenN ?_
                  exact J.meetI (decide ((List.length r33 : Int) ≠ (List.length p1 : Int))) (()) h (by repeat (first | exact SubF.nil | refine SubF.cons rfl ?_)) (SubM.cons 0 rfl (SubM.cons 0 rfl (SubM.cons 4 rfl (SubM.cons 4 rfl (SubM.cons 4 rfl (SubM.cons 4 rfl (SubM.cons 5 rfl (SubM.nil)))))))) (LentAll.refl _ _)
        · clear h
          intro a37 b38 h
          unfold law03_FamilyRelabelsBack_k3 at h
          refine J.cond (by exact rfl) (fun hp39 => ?_) (fun hp39 => ?_)
          · replace h := ifP hp39 h
            refine J.seq ?_
            refine J.region ?_
            refine J.quiet (Y.assign rfl) rfl ?_
            refine J.done ?_
            refine J.thenN ?_
            refine J.ret ?_
            refine J.thenR ?_
            obtain rfl := Option.some.inj h
            exact J.retG1 (()) rfl rfl (RV.tmp rfl) (SubM.nil) LentAll.nil
          · replace h := ifBN hp39 h
            refine J.skip ?_
            refine J.thenN ?_
            refine J.seq ?_
            refine J.midI (A := Unit) (B := Unit) (fun a40 => law03_FamilyRelabelsBack_k4 fuel a40 = some r) (fun a40 b41 => []) (fun a40 b41 => []) (fun a40 b41 => [Sl RI64 v0 p0.1, S2 RI64I64p v1 z2 p0.2, Sl RI64 v3 p1]) ?_ ?_
            · refine J.seq ?_
              refine J.region ?_
              refine J.quiet (Y.assign rfl) rfl ?_
              refine J.done ?_
              refine J.thenN ?_
              refine J.block ?_
              refine J.loopI (A := Int) (B := Unit) (law03_FamilyRelabelsBack_s1 fuel p0 p1 r14 r29 r33) (fun a47 b48 => [(1, v3), (3, Value.pointer (some ⟨b1, 0, none⟩)), (9, Value.pointer (some ⟨b17, 0, none⟩)), (13, x31), (14, x35), (15, Value.int .i64 (a47))]) (fun a47 b48 => [Ar EI64 x35 r33, Ar EI64 x31 r29, Blk b17 [x16.1, x16.2.1] 26, Ar EI64 x16.1 r14.1.1, Ar Enc.raw x16.2.1 x16.2.2, Rws EI64I64p x16.2.2 r14.1.2, Blk b1 [v0, v1] 26]) (fun a47 b48 => [Sl RI64 v0 p0.1, S2 RI64I64p v1 z2 p0.2, Sl RI64 v3 p1]) (0 : Int) (()) h (by repeat (first | exact SubF.nil | refine SubF.cons rfl ?_)) (SubM.refl _) (LentAll.refl _ _) ?_
              clear h
              intro k49 a47 b48 h
              unfold law03_FamilyRelabelsBack_s1 at h
              refine J.seq ?_
              refine J.seq ?_
              refine J.region ?_
              refine J.quiet (Y.move rfl) rfl ?_
              refine J.quiet (Y.move rfl) rfl ?_
              refine J.quiet (Y.lenS rfl (Lent.fact 2 rfl) rfl) rfl ?_
              refine J.quiet (Y.lss rfl rfl) rfl ?_
              refine J.done ?_
              refine J.thenN ?_
              refine J.condD (by exact rfl) (fun hp50 => ?_) (fun hp50 => ?_)
              · replace h := ifP hp50 h
                refine J.skip ?_
                refine J.thenN ?_
                refine J.seq ?_
                refine J.block ?_
                refine J.seq ?_
                refine J.midI (A := Bool) (B := Unit) (fun a52 => law03_FamilyRelabelsBack_k5 a47 (iter (law03_FamilyRelabelsBack_s1 fuel p0 p1 r14 r29 r33) k49) a52 = some r) (fun a52 b53 => [(1, v3), (3, Value.pointer (some ⟨b1, 0, none⟩)), (9, Value.pointer (some ⟨b17, 0, none⟩)), (13, x31), (14, x35), (15, Value.int .i64 (a47)), (129, Value.bool (a52))]) (fun a52 b53 => [Ar EI64 x35 r33, Ar EI64 x31 r29, Blk b17 [x16.1, x16.2.1] 26, Ar EI64 x16.1 r14.1.1, Ar Enc.raw x16.2.1 x16.2.2, Rws EI64I64p x16.2.2 r14.1.2, Blk b1 [v0, v1] 26]) (fun a52 b53 => [Sl RI64 v0 p0.1, S2 RI64I64p v1 z2 p0.2, Sl RI64 v3 p1]) ?_ ?_
                · refine JR.start [0, 0, 3, 7, 0, 0, 0, 96, 224, 496, 1008, 2047, 4095, 8191, 8191, 32767, 8191, 8191, 8191, 401407, 925695, 2097151, 4194303, 8388607] 21 mixedOrders (by decide +kernel) ?_
                  refine JR.open (by exact rfl) ?_
                  refine JR.qt rfl (SubM.nil) (SubL.nil) (Y.move rfl) HistOk.z ?_
                  refine JR.qt rfl (SubM.nil) (SubL.nil) (Y.move rfl) HistOk.z ?_
                  replace h := ck_some h; obtain ⟨hc55, h⟩ := h
                  refine JR.qt rfl (SubM.cons 1 rfl (SubM.nil)) (SubL.nil) (Y.indexS rfl rfl (Lent.ar (Lent.res 0 rfl) FI64) rfl rfl hc55) HistOk.z ?_
                  refine JR.qt rfl (SubM.cons 1 rfl (SubM.nil)) (SubL.nil) (Y.loadS0 rfl (Lent.ar (Lent.res 0 rfl) FI64) rfl rfl rfl RI64c0 hc55) HistOk.z ?_
                  refine JR.qt rfl (SubM.nil) (SubL.nil) (Y.move rfl) HistOk.z ?_
                  refine JR.qt rfl (SubM.nil) (SubL.nil) (Y.move rfl) HistOk.z ?_
                  refine JR.qt rfl (SubM.nil) (SubL.nil) (Y.move rfl) HistOk.z ?_
                  replace h := ck_some h; obtain ⟨hc56, h⟩ := h
                  refine JR.qt rfl (SubM.nil) (SubL.cons (List.mem_of_getElem? (i := 2) rfl) (SubL.nil)) (Y.indexS rfl rfl (Lent.fact 0 rfl) rfl rfl hc56) HistOk.z ?_
                  refine JR.qt rfl (SubM.nil) (SubL.cons (List.mem_of_getElem? (i := 2) rfl) (SubL.nil)) (Y.loadS0 rfl (Lent.fact 0 rfl) rfl rfl rfl RI64c0 hc56) HistOk.z ?_
                  replace h := ck_some h; obtain ⟨hc57, h⟩ := h
                  refine JR.qt rfl (SubM.cons 0 rfl (SubM.nil)) (SubL.nil) (Y.indexS rfl rfl (Lent.ar (Lent.res 0 rfl) FI64) rfl rfl hc57) HistOk.z ?_
                  refine JR.qt rfl (SubM.cons 0 rfl (SubM.nil)) (SubL.nil) (Y.loadS0 rfl (Lent.ar (Lent.res 0 rfl) FI64) rfl rfl rfl RI64c0 hc57) HistOk.z ?_
                  refine JR.qt rfl (SubM.nil) (SubL.nil) (Y.neq rfl rfl) HistOk.z ?_
                  refine JR.qt rfl (SubM.nil) (SubL.nil) (Y.move rfl) HistOk.z ?_
                  refine JR.guardD (by exact rfl) (by exact rfl) (by exact rfl) (fun hp58 => ?_) (fun hp58 => ?_)
                  · replace h := ifP hp58 h
                    refine JR.guardN rfl rfl rfl rfl ?_
                    refine JR.guardN rfl rfl rfl rfl ?_
                    refine JR.guardN rfl rfl rfl rfl ?_
                    refine JR.guardN rfl rfl rfl rfl ?_
                    refine JR.guardN rfl rfl rfl rfl ?_
                    refine JR.guardN rfl rfl rfl rfl ?_
                    refine JR.guardN rfl rfl rfl rfl ?_
                    refine JR.guardN rfl rfl rfl rfl ?_
                    refine JR.tailD 21 rfl rfl ?_
                    refine J.guardN rfl rfl rfl ?_
                    refine J.guardN rfl rfl rfl ?_
                    refine J.quiet (Y.pickT rfl rfl) rfl ?_
                    refine J.done ?_
                    refine J.thenN ?_
                    exact J.meetI (true) (()) h (by repeat (first | exact SubF.nil | refine SubF.cons rfl ?_)) (SubM.refl _) (LentAll.refl _ _)
                  · replace h := ifN hp58 h
                    refine JR.qtG rfl (SubM.cons 6 rfl (SubM.nil)) (SubL.nil) (Y.loadBAll 0 rfl rfl rfl rfl) HistOk.z ?_
                    refine JR.qtG rfl (SubM.nil) (SubL.nil) (Y.move rfl) HistOk.z ?_
                    replace h := bnd h; obtain ⟨r59, hr60, h⟩ := h
                    refine JR.loudG rfl rfl rfl rfl (Loud.callL body40 (t_graph_Degree fuel v0 v1 z2 r59 hr60) rfl (LentAll.cons (Lent.fact 0 rfl) (LentAll.cons (Lent.fact 1 rfl) (LentAll.nil))) (fun _ _ => rfl)) rfl (fun x61 => (BsOk.b rfl (BsOk.b rfl (BsOk.b rfl (BsOk.b rfl (BsOk.b rfl (BsOk.b rfl (BsOk.b rfl (BsOk.b rfl (BsOk.b rfl (BsOk.b rfl (BsOk.b rfl (BsOk.b rfl (BsOk.b rfl (BsOk.b rfl (BsOk.b rfl BsOk.z)))))))))))))))) fun x61 => ?_
                    refine JR.qtG rfl (SubM.cons 2 rfl (SubM.nil)) (SubL.nil) (Y.loadBAll 0 rfl rfl rfl rfl) (HistOk.h (SubM.cons 2 rfl (SubM.nil)) (SubL.nil) HistOk.z) ?_
                    refine JR.qtG rfl (SubM.nil) (SubL.nil) (Y.move rfl) (HistOk.h (SubM.nil) (SubL.nil) HistOk.z) ?_
                    refine JR.qtG rfl (SubM.nil) (SubL.nil) (Y.move rfl) (HistOk.h (SubM.nil) (SubL.nil) HistOk.z) ?_
                    replace h := ck_some h; obtain ⟨hc62, h⟩ := h
                    refine JR.qtG rfl (SubM.nil) (SubL.cons (List.mem_of_getElem? (i := 2) rfl) (SubL.nil)) (Y.indexS rfl rfl (Lent.fact 0 rfl) rfl rfl hc62) (HistOk.h (SubM.nil) (SubL.cons (List.mem_of_getElem? (i := 2) rfl) (SubL.nil)) HistOk.z) ?_
                    refine JR.qtG rfl (SubM.nil) (SubL.cons (List.mem_of_getElem? (i := 2) rfl) (SubL.nil)) (Y.loadS0 rfl (Lent.fact 0 rfl) rfl rfl rfl RI64c0 hc62) (HistOk.h (SubM.nil) (SubL.cons (List.mem_of_getElem? (i := 2) rfl) (SubL.nil)) HistOk.z) ?_
                    refine JR.tailD 21 rfl rfl ?_
                    replace h := bnd h; obtain ⟨r63, hr64, h⟩ := h
                    refine J.loudG rfl (Loud.callL body40 (t_graph_Degree fuel x16.1 x16.2.1 (List.zip x16.2.2 r14.1.2) r63 hr64) rfl (LentAll.cons (Lent.ar (Lent.res 3 rfl) FI64) (LentAll.cons (Lent.rows (i := 4) (j := 5) rfl rfl FI64I64p) (LentAll.nil))) (fun _ _ => rfl)) rfl fun x65 => ?_
                    refine J.guardY rfl (Y.neq rfl rfl) rfl ?_
                    refine J.quiet (Y.pickF rfl rfl) rfl ?_
                    refine J.done ?_
                    refine J.thenN ?_
                    exact J.meetI (decide (r59 ≠ r63)) (()) h (by repeat (first | exact SubF.nil | refine SubF.cons rfl ?_)) (SubM.refl _) (LentAll.refl _ _)
                · clear h
                  intro a52 b53 h
                  unfold law03_FamilyRelabelsBack_k5 at h
                  refine J.cond (by exact rfl) (fun hp54 => ?_) (fun hp54 => ?_)
                  · replace h := ifP hp54 h
                    refine J.seq ?_
                    refine J.region ?_
                    refine J.quiet (Y.assign rfl) rfl ?_
                    refine J.done ?_
                    refine J.thenN ?_
                    refine J.ret ?_
                    refine J.inR ?_
                    refine J.thenR ?_
                    refine J.thenR ?_
                    refine J.inR ?_
                    refine J.thenR ?_
                    obtain rfl := Option.some.inj h
                    exact J.retG1 (()) rfl rfl (RV.tmp rfl) (SubM.nil) LentAll.nil
                  · replace h := ifBN hp54 h
                    refine J.skip ?_
                    refine J.inN ?_
                    refine J.thenN ?_
                    refine J.region ?_
                    refine J.quiet (Y.move rfl) rfl ?_
                    refine J.quiet (Y.addW rfl rfl) rfl ?_
                    refine J.quiet (Y.assign rfl) rfl ?_
                    refine J.done ?_
                    refine J.thenN ?_
                    exact J.againI (wI .i64 (a47 + (1 : Int))) (()) h (by repeat (first | exact SubF.nil | refine SubF.cons rfl ?_)) (SubM.refl _) (LentAll.refl _ _)
              · replace h := ifN hp50 h
                refine J.exit ?_
                refine J.thenX ?_
                refine J.thenX ?_
                refine J.inX ?_
                refine J.thenN ?_
                exact J.meetI (()) (()) h (by repeat (first | exact SubF.nil | refine SubF.cons rfl ?_)) (SubM.nil) (LentAll.refl _ _)
            · clear h
              intro a40 b41 h
              unfold law03_FamilyRelabelsBack_k4 at h
              refine J.seq ?_
              refine J.region ?_
              replace h := bnd h; obtain ⟨r42, hr43, h⟩ := h
              refine J.loud (Loud.callL body18 (t_law03_awake fuel  r42 hr43) rfl (LentAll.nil) (fun _ _ => rfl)) rfl fun x44 => ?_
              refine J.quiet (Y.assign rfl) rfl ?_
              refine J.done ?_
              refine J.thenN ?_
              refine J.ret ?_
              obtain rfl := Option.some.inj h
              exact J.retG1 (()) rfl rfl (RV.tmp rfl) (SubM.refl _) LentAll.nil

end Go.Proofs.Ytemhmmcakmidkaa
end
section
set_option linter.unusedVariables false
set_option linter.unusedSimpArgs false
namespace Go.Proofs.Ytemhmmcakmidkaa
open Go.Sx
theorem VG.small {g : GR} (h : VG g) : small g := by
  have h24 := h.n24
  refine ⟨by have := h.len; omega, by omega, fun l hl => ?_⟩
  obtain ⟨v, hv, he⟩ := List.getElem_of_mem hl
  have hd := (h.node v hv).deg
  rw [row, at'_nat, List.getD_eq_getElem?_getD, List.getElem?_eq_getElem hv] at hd
  rw [← he]
  simp only [Option.getD_some] at hd
  omega

theorem Rel.walk {g h : GR} {p : List Int} (hV : VG g) (hp : IsPerm p g.2.length) (r : Rel g p h) {s : Nat} : ∀ (k v : Nat), Walk g s k v → Walk h (pm p s) k (pm p v)
  | 0, v, hw => by
    obtain ⟨rfl, hs⟩ := hw
    exact ⟨rfl, by rw [r.len2]; exact (hp.pm hs).2⟩
  | k + 1, v, hw => by
    obtain ⟨u, h1, h2⟩ := hw
    have hu := Walk.lt hV h1
    exact ⟨pm p u, Rel.walk hV hp r k u h1, (r.adj hV hp hu (hV.adj_lt hu h2)).2 h2⟩

theorem Rel.walkBack {g h : GR} {p : List Int} (hV : VG g) (hp : IsPerm p g.2.length) (r : Rel g p h) {s : Nat} (hs : s < g.2.length) : ∀ (k v : Nat), v < g.2.length → Walk h (pm p s) k (pm p v) → Walk g s k v
  | 0, v, hv, hw => by
    obtain ⟨e, _⟩ := hw
    exact ⟨hp.inj hv hs e, hs⟩
  | k + 1, v, hv, hw => by
    obtain ⟨u, h1, h2⟩ := hw
    have hu := Walk.lt (r.valid hV hp) h1
    rw [r.len2] at hu
    obtain ⟨u', hu', rfl⟩ := hp.onto hu
    exact ⟨u', Rel.walkBack hV hp r hs k u' hu' h1, (r.adj hV hp hu' hv).1 h2⟩

theorem Rel.dist {g h : GR} {p : List Int} (hV : VG g) (hp : IsPerm p g.2.length) (r : Rel g p h) {s : Nat} (hs : s < g.2.length) {d e : List Int} (hD : Dist g s d) (hE : Dist h (pm p s) e) {v : Nat} (hv : v < g.2.length) : D d v = D e (pm p v) := by
  have hW := r.valid hV hp
  have hpv : pm p v < h.2.length := by rw [r.len2]; exact (hp.pm hv).2
  have h3 := hD.lo v hv
  have h4 := hE.lo (pm p v) hpv
  by_cases a : 0 ≤ D d v
  · have w1 := Dist.le hW hE (r.walk hV hp _ _ (Dist.pos hV hD hv a))
    have w2 := Dist.le hV hD (r.walkBack hV hp hs _ _ hv (Dist.pos hW hE hpv w1.1))
    omega
  · by_cases b : 0 ≤ D e (pm p v)
    · have w2 := Dist.le hV hD (r.walkBack hV hp hs _ _ hv (Dist.pos hW hE hpv b))
      omega
    · omega

/-- the inverse of a permutation -/
def IsInv (p q : List Int) (n : Nat) : Prop := q.length = n ∧ ∀ v, v < n → at' q ((pm p v : Nat) : Int) = (v : Int)

theorem IsInv.perm {p q : List Int} {n : Nat} (hp : IsPerm p n) (h : IsInv p q n) : IsPerm q n := by
  refine ⟨h.1, fun k hk => ?_⟩
  obtain ⟨a, ha, rfl⟩ := hp.onto hk
  refine ⟨by rw [h.2 a ha]; omega, fun j hj => ?_⟩
  obtain ⟨b, hb, rfl⟩ := hp.onto (show j < n by omega)
  rw [h.2 a ha, h.2 b hb]
  intro e
  have : a = b := by omega
  subst this
  omega

theorem Rel.back {g h k : GR} {p q : List Int} (hV : VG g) (hp : IsPerm p g.2.length) (hq : IsInv p q g.2.length) (r : Rel g p h) (r2 : Rel h q k) : k = g := by
  have l2 := r.len2
  have key : ∀ v, v < g.2.length → pm q (pm p v) = v := fun v hv => by
    have := hq.2 v hv
    show (at' q ((pm p v : Nat) : Int)).toNat = v
    omega
  refine gr_ext (by rw [r2.len1, l2, hV.len]) (by rw [r2.len2, l2]) (fun v hv => ?_) (fun v hv => ?_)
  · rw [r2.len1, l2] at hv
    have := r2.ids (pm p v) (by rw [l2]; exact (hp.pm hv).2)
    rw [key v hv, r.ids v hv] at this
    exact this
  · rw [r2.len2, l2] at hv
    have := r2.row (pm p v) (by rw [l2]; exact (hp.pm hv).2)
    rw [key v hv, r.row v hv] at this
    rw [this]
    unfold mp
    rw [List.map_map]
    refine List.ext_getElem (by simp) fun i hi hi' => ?_
    rw [List.getElem_map]
    have hl : lnk (Go.Proofs.Ytemhmmcakmidkaa.row g v) i = (Go.Proofs.Ytemhmmcakmidkaa.row g v)[i] := by rw [lnk, at'_nat, List.getD_eq_getElem?_getD, List.getElem?_eq_getElem hi']; rfl
    obtain ⟨u, hu, e1, _⟩ := hV.port hv hi'
    rw [hl] at e1
    show (at' q (at' p (Go.Proofs.Ytemhmmcakmidkaa.row g v)[i].1), (Go.Proofs.Ytemhmmcakmidkaa.row g v)[i].2) = _
    rw [e1, (hp.pm hu).1, hq.2 u hu]
    exact Prod.ext e1.symm rfl

theorem relabelsBack_pure (g : GR) (p : List Int) (q : Int) : m_law03_FamilyRelabelsBack 1000 g p q = some true := by
  unfold m_law03_FamilyRelabelsBack
  have aw : law03_FamilyRelabelsBack_k1 1000 g p q true = some true := by
    unfold law03_FamilyRelabelsBack_k1
    rw [if_pos rfl, bindS awakeK]
  by_cases hl : light g
  rotate_left
  · rw [bindS ((lightGraph_eq g).2 hl), if_pos (by rfl)]; exact aw
  rw [bindS ((lightGraph_eq g).1 hl), if_neg (by simp)]
  by_cases hV : VG g
  rotate_left
  · rw [bindS ((refValid_eq g hl).2 hV), if_pos (by rfl)]; exact aw
  rw [bindS ((refValid_eq g hl).1 hV), if_neg (by simp)]
  have h24 := hV.n24
  have h1 := hV.n1
  by_cases hp : IsPerm p g.2.length
  rotate_left
  · rw [bindS ((refPermutation_eq p g.2.length (by omega)).2 hp)]; exact aw
  rw [bindS ((refPermutation_eq p g.2.length (by omega)).1 hp)]
  have hpl := hp.1
  unfold law03_FamilyRelabelsBack_k1
  rw [if_neg (by simp), ckT (by omega)]
  refine iter_eq (fun z : Int × List Int => ∃ v : Nat, z.1 = v ∧ v ≤ g.2.length ∧ z.2.length = g.2.length ∧ ∀ k, k < v → at' z.2 ((pm p k : Nat) : Int) = (k : Int)) (fun z => 25 - z.1.toNat) ?_ 1000 _ ⟨0, rfl, by omega, by simp; omega, fun k hk => by omega⟩ (by simp)
  rintro ⟨x, inv⟩ ag ⟨v, hx, hv, hil, hi⟩ hag
  dsimp only at hx hil hi hag
  subst hx
  unfold law03_FamilyRelabelsBack_s2
  dsimp only
  by_cases hn : v < g.2.length
  · obtain ⟨e1, e2⟩ := hp.pm hn
    rw [if_pos (by omega), ckT (by omega), ckT (by omega), wr (by omega) (by omega), e1, Int.toNat_natCast]
    refine hag _ ⟨v + 1, by dsimp only; omega, by omega, by dsimp only; simpa using hil, fun k hk => ?_⟩ (by dsimp only; omega)
    dsimp only
    rw [at_set _ _ _ _ (by omega)]
    by_cases e : k = v
    · subst e; rw [if_pos rfl]
    · rw [if_neg (fun e3 => e (hp.inj (by omega) hn e3))]; exact hi k (by omega)
  rw [if_neg (by omega)]
  obtain rfl : v = g.2.length := by omega
  have hq : IsInv p inv g.2.length := ⟨hil, hi⟩
  obtain ⟨⟨h, z1⟩, hh, hz1, hr⟩ := famRelabel_ok hV hp
  dsimp only at hz1 hr
  subst hz1
  have hW := hr.valid hV hp
  have hqp : IsPerm inv h.2.length := by rw [hr.len2]; exact hq.perm hp
  obtain ⟨⟨k, z2⟩, hk, hz2, hr2⟩ := famRelabel_ok hW hqp
  dsimp only at hz2 hr2
  subst hz2
  have hkg := hr.back hV hp hq hr2
  subst hkg
  obtain ⟨m, hm, s, rfl, hs⟩ := mod_ok q h1 h24
  obtain ⟨e1, e2⟩ := hp.pm hs
  obtain ⟨d, hd, hD⟩ := distances_ok hV hs
  obtain ⟨e, he, hE⟩ := distances_ok hW (s := pm p s) (by rw [hr.len2]; exact e2)
  unfold law03_FamilyRelabelsBack_k2
  rw [bindS hh]
  dsimp only
  rw [bindS hk, hpl, bindS hm, bindS hd, ckT (by omega), e1, bindS he, if_neg (by simp), if_neg (by simp), bindS (same_refl _ hV.small), if_neg (by simp)]
  have ld := hD.len
  have le := hE.len
  rw [hr.len2] at le
  rw [if_neg (by omega), decide_eq_false (by omega)]
  unfold law03_FamilyRelabelsBack_k3
  rw [if_neg (by simp)]
  refine iter_eq (fun z : Int => ∃ v : Nat, z = v ∧ v ≤ k.2.length) (fun z => 31 - z.toNat) ?_ 1000 _ ⟨0, rfl, by omega⟩ (by simp)
  rintro z ag ⟨v, rfl, hv⟩ hag
  unfold law03_FamilyRelabelsBack_s1
  by_cases hn : v < k.2.length
  · obtain ⟨f1, f2⟩ := hp.pm hn
    have hdg := degree_eq hV hn
    have hdh := degree_eq hW (v := pm p v) (by rw [hr.len2]; exact f2)
    rw [hr.row v hn, mp_len] at hdh
    rw [if_pos (by omega), ckT (by omega), ckT (by omega), ckT (by omega), f1, if_neg (fun hne => hne (hr.dist hV hp hs hD hE hn)), bindS hdg, ckT (by omega), bindS hdh, decide_eq_false (by simp)]
    unfold law03_FamilyRelabelsBack_k5
    rw [if_neg (by simp), wr (by omega) (by omega)]
    exact hag _ ⟨v + 1, by omega, by omega⟩ (by omega)
  · rw [if_neg (by omega)]
    unfold law03_FamilyRelabelsBack_k4
    rw [bindS awakeK]
end Go.Proofs.Ytemhmmcakmidkaa
end
