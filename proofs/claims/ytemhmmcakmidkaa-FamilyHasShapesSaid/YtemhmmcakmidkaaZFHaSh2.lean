/- Models of functions with their proofs, by program (gen/xt.py), and plain laws, in one text. Conditions: none. -/
import Derived.Test.YtemhmmcakmidkaaZFHaSh1
import Derived.KernelRfl
import Derived.Test.YtemhmmcakmidkaaXp
section
set_option linter.unusedVariables false
set_option linter.unusedSimpArgs false
namespace Go.Proofs.Ytemhmmcakmidkaa
open Go.Sx
abbrev relG (f : Nat → Nat → Bool) (n : Nat) : GR := (iota n, selP f n)

theorem iota_len (n : Nat) : (iota n).length = n := by simp [iota]
theorem selP_len (f : Nat → Nat → Bool) (n : Nat) : (selP f n).length = n := by simp [selP]
theorem iota_at {n v : Nat} (h : v < n) : at' (iota n) (v : Int) = (v : Int) := by
  rw [at'_nat, List.getD_eq_getElem?_getD, iota, List.getElem?_map, List.getElem?_range h]; rfl
theorem rel_row {f : Nat → Nat → Bool} {n v : Nat} (h : v < n) : row (relG f n) v = preRow f v n := by
  show at' (selP f n) (v : Int) = _
  rw [at'_nat, List.getD_eq_getElem?_getD, selP, List.getElem?_map, List.getElem?_range h]; rfl

theorem preRow_mem {f : Nat → Nat → Bool} {v n i : Nat} (h : i < (preRow f v n).length) : ∃ u : Nat, u < n ∧ f v u = true ∧ lnk (preRow f v n) i = ((u : Int), 1) := by
  have : lnk (preRow f v n) i = (preRow f v n)[i] := by rw [lnk, at'_nat, List.getD_eq_getElem?_getD, List.getElem?_eq_getElem h]; rfl
  rw [this]
  have hm : (preRow f v n)[i] ∈ ((List.range n).filter (f v)).map (fun u : Nat => ((u : Int), (1 : Int))) := List.getElem_mem h
  rw [List.mem_map] at hm
  obtain ⟨u, hu, he⟩ := hm
  rw [List.mem_filter, List.mem_range] at hu
  exact ⟨u, hu.1, hu.2, he.symm⟩

theorem preRow_has {f : Nat → Nat → Bool} {v n u : Nat} (hu : u < n) (hf : f v u = true) : ∃ i, i < (preRow f v n).length ∧ lnk (preRow f v n) i = ((u : Int), 1) := by
  have hm : ((u : Int), (1 : Int)) ∈ preRow f v n := by
    rw [preRow, List.mem_map]
    exact ⟨u, by rw [List.mem_filter, List.mem_range]; exact ⟨hu, hf⟩, rfl⟩
  obtain ⟨i, hi, he⟩ := List.getElem_of_mem hm
  exact ⟨i, hi, by rw [lnk, at'_nat, List.getD_eq_getElem?_getD, List.getElem?_eq_getElem hi]; exact he⟩

theorem preRow_inc {f : Nat → Nat → Bool} {v n k i : Nat} (hk : k < i) (hi : i < (preRow f v n).length) : (lnk (preRow f v n) k).1 < (lnk (preRow f v n) i).1 := by
  have hp : (preRow f v n).Pairwise fun a b => a.1 < b.1 := by
    rw [preRow, List.pairwise_map]
    exact (List.pairwise_lt_range.filter _).imp fun {a b} h => by dsimp only; omega
  have := (List.pairwise_iff_getElem.1 hp) k i (by omega) hi hk
  rw [lnk, lnk, at'_nat, at'_nat, List.getD_eq_getElem?_getD, List.getD_eq_getElem?_getD, List.getElem?_eq_getElem hi, List.getElem?_eq_getElem (show k < (preRow f v n).length by omega)]
  exact this

theorem rel_adj {f : Nat → Nat → Bool} {n v u : Nat} (hv : v < n) : Adj (relG f n) v u ↔ u < n ∧ f v u = true := by
  unfold Adj
  rw [rel_row hv]
  constructor
  · rintro ⟨i, hi, he⟩
    obtain ⟨w, hw, hf, h2⟩ := preRow_mem hi
    rw [h2] at he
    have : w = u := by dsimp only at he; omega
    subst this
    exact ⟨hw, hf⟩
  · rintro ⟨hu, hf⟩
    obtain ⟨i, hi, he⟩ := preRow_has hu hf
    exact ⟨i, hi, by rw [he]⟩

theorem rel_valid {f : Nat → Nat → Bool} {n : Nat} (h1 : 1 ≤ n) (h24 : n ≤ 24) (hs : ∀ v u, v < n → u < n → f v u = true → f u v = true) (hf : ∀ v, v < n → f v v = false) : VG (relG f n) := by
  have hl : (relG f n).2.length = n := selP_len f n
  have lk : ∀ v, v < n → LinksOk (row (relG f n) v) v n := by
    intro v hv i hi
    rw [rel_row hv] at hi ⊢
    obtain ⟨u, hu, hfu, he⟩ := preRow_mem hi
    refine ⟨by rw [he]; dsimp only; omega, ?_, by rw [he]; dsimp only; omega, fun k hk h => ?_⟩
    · rw [he]
      dsimp only
      intro h
      have : u = v := by omega
      subst this
      rw [hf u hv] at hfu
      cases hfu
    · have := preRow_inc hk hi
      omega
  refine ⟨by omega, by omega, by rw [hl]; exact iota_len n, fun v hv => ?_, fun v hv i hi => ?_⟩
  · rw [hl] at hv
    refine ⟨?_, by rw [hl]; exact deg_lt hv (lk v hv), by rw [hl]; exact lk v hv, fun k hk => ?_⟩
    · rw [show idOf (relG f n) v = (v : Int) from iota_at hv]; omega
    · rw [show idOf (relG f n) v = (v : Int) from iota_at hv, show idOf (relG f n) k = (k : Int) from iota_at (by omega)]; omega
  · rw [hl] at hv
    rw [rel_row hv] at hi
    obtain ⟨u, hu, hfu, he⟩ := preRow_mem hi
    obtain ⟨j, hj, hje⟩ := preRow_has (f := f) (n := n) hv (hs v u hv hu hfu)
    unfold SymAt
    rw [rel_row hv, he]
    dsimp only
    rw [show at' (selP f n) (u : Int) = preRow f u n from rel_row hu]
    exact ⟨j, hj, by rw [hje], by rw [hje]⟩

/-- a function with the properties of distances is the distance -/
theorem Dist.unique {g : GR} (hV : VG g) {s : Nat} (hs : s < g.2.length) {d : List Int} (hD : Dist g s d) (δ : Nat → Nat) (h0 : ∀ v, v < g.2.length → (δ v = 0 ↔ v = s)) (hnear : ∀ v, v < g.2.length → 0 < δ v → ∃ u, u < g.2.length ∧ Adj g v u ∧ δ u + 1 = δ v) (hnext : ∀ v u, v < g.2.length → u < g.2.length → Adj g v u → δ u ≤ δ v + 1) : ∀ v, v < g.2.length → D d v = δ v := by
  have up : ∀ (k v : Nat), v < g.2.length → δ v = k → 0 ≤ D d v ∧ D d v ≤ k := by
    intro k
    induction k with
    | zero =>
      intro v hv he
      have := (hD.zero v hv).2 ((h0 v hv).1 he)
      omega
    | succ k ih =>
      intro v hv he
      obtain ⟨u, hu, ha, hd⟩ := hnear v hv (by omega)
      have h1 := ih u hu (by omega)
      have h2 := hD.next u hu h1.1 v hv (hV.back hv ha)
      omega
  have down : ∀ (k v : Nat), v < g.2.length → D d v = k → δ v ≤ k := by
    intro k
    induction k with
    | zero =>
      intro v hv he
      have := (h0 v hv).2 ((hD.zero v hv).1 he)
      omega
    | succ k ih =>
      intro v hv he
      obtain ⟨u, hu, ha, hd⟩ := hD.near v hv (by omega)
      have h1 := ih u hu (by omega)
      have h2 := hnext u v hu hv (hV.back hv ha)
      omega
  intro v hv
  have h1 := up (δ v) v hv rfl
  have h2 := down (D d v).toNat v hv (by omega)
  omega
end Go.Proofs.Ytemhmmcakmidkaa
end
section
set_option linter.unusedVariables false
set_option linter.unusedSimpArgs false
namespace Go.Proofs.Ytemhmmcakmidkaa
open Go.Sx
/-- neighbours in a grid, by the numbers alone -/
def famN (w v u : Nat) : Bool := decide (v ≠ u) && (decide (min v u + w = max v u) || (decide (min v u + 1 = max v u) && decide (min v u / w = max v u / w)))
def refN (w v u : Nat) : Bool := (decide (u % w = v % w) && (decide (u / w + 1 = v / w) || decide (u / w = v / w + 1))) || (decide (u / w = v / w) && (decide (u % w + 1 = v % w) || decide (u % w = v % w + 1)))
theorem gridK : ((List.range 24).all fun w : Nat => (List.range 24).all fun v : Nat => (List.range 24).all fun u : Nat => famN (w + 1) v u == refN (w + 1) v u) = true := by kernel_rfl
theorem awakeK : m_law03_awake 1000 = some true := by kernel_rfl
end Go.Proofs.Ytemhmmcakmidkaa
end
section
set_option linter.unusedVariables false
set_option linter.unusedSimpArgs false
namespace Go.Proofs.Ytemhmmcakmidkaa
open Go.Sx
set_option linter.unusedVariables false
/-! ## Complete graphs -/
theorem ofSize_eq (n : Nat) (h1 : 1 ≤ n) (h2 : n ≤ 24) (f : Nat → Nat → Bool) (g : Int → Int → Option Bool) (hg : ∀ v u : Nat, v < n → u < n → v ≠ u → g (min (v : Int) u) (max (v : Int) u) = some (f v u)) (hff : ∀ v, v < n → f v v = false) :
    m_family_ofSize 1000 (n : Int) g = some ((iota n, selP f n), 0) := by
  unfold m_family_ofSize family_ofSize_k1
  rw [if_neg (by omega), decide_eq_false (by omega), if_neg (by simp), bindS (related_eq n h2 f g hg hff)]

/-! ## Grids -/
theorem tdivN (a b : Nat) : Int.tdiv (a : Int) (b : Int) = ((a / b : Nat) : Int) := by simp [Int.tdiv]
theorem divle (a b : Nat) : a / b ≤ a := Nat.div_le_self a b
theorem famGrid_1 (w v u : Nat) (hw : 1 ≤ w) (hw2 : w ≤ 24) (hv : v < 24) (hu : u < 24) (h : v ≠ u) : m_family_Grid_1 1000 (min (v : Int) u) (max (v : Int) u) w = some (famN w v u) := by
  unfold m_family_Grid_1 family_Grid_1_k1
  have e1 : min (v : Int) u = ((min v u : Nat) : Int) := by omega
  have e2 : max (v : Int) u = ((max v u : Nat) : Int) := by omega
  have q1 := divle (min v u) w
  have q2 := divle (max v u) w
  rw [e1, e2, tdivN, tdivN]
  unfold famN
  rw [decide_eq_true h, Bool.true_and]
  generalize min v u / w = qa at *
  generalize max v u / w = qb at *
  rw [wr (x := ((min v u : Nat) : Int) + w) (by omega) (by omega), wr (x := ((min v u : Nat) : Int) + 1) (by omega) (by omega), wr (by omega) (by omega), wr (by omega) (by omega), ckT (by omega), ckT (by omega)]
  by_cases h1 : min v u + w = max v u
  · rw [if_pos (by omega), decide_eq_true h1]; rfl
  · rw [if_neg (by omega), decide_eq_false h1, Bool.false_or]
    by_cases h2 : min v u + 1 = max v u
    · rw [if_pos (by omega), decide_eq_true h2, Bool.true_and]
      congr 1; exact decide_eq_decide.2 (by omega)
    · rw [if_neg (by omega), decide_eq_false h2]; rfl

theorem gridN (w v u : Nat) (hw : 1 ≤ w) (hw2 : w ≤ 24) (hv : v < 24) (hu : u < 24) : famN w v u = refN w v u := by
  have := List.all_eq_true.1 (List.all_eq_true.1 (List.all_eq_true.1 gridK (w - 1) (by simp; omega)) v (by simp; omega)) u (by simp; omega)
  rw [show w - 1 + 1 = w by omega] at this
  simpa using this

end Go.Proofs.Ytemhmmcakmidkaa
end
section
set_option linter.unusedVariables false
set_option linter.unusedSimpArgs false
namespace Go.Proofs.Ytemhmmcakmidkaa
open Go.Sx
theorem Dist.lt {g : GR} {s : Nat} {d : List Int} (h : Dist g s d) {v : Nat} (hv : v < g.2.length) : D d v < (g.2.length : Int) := by
  apply Classical.byContradiction
  intro hc
  have all : ∀ m : Nat, (m : Int) ≤ D d v → ∃ w, w < g.2.length ∧ D d w = D d v - m := by
    intro m
    induction m with
    | zero => intro _; exact ⟨v, hv, by omega⟩
    | succ m ih =>
      intro hm
      obtain ⟨w, hw, he⟩ := ih (by omega)
      obtain ⟨u, hu, _, hue⟩ := h.near w hw (by omega)
      exact ⟨u, hu, by omega⟩
  have ex : ∀ i : Nat, i < g.2.length + 1 → ∃ w, w < g.2.length ∧ D d w = (i : Int) := by
    intro i hi
    obtain ⟨w, hw, he⟩ := all (D d v - i).toNat (by omega)
    exact ⟨w, hw, by omega⟩
  have := pigeon g.2.length (fun i => if hi : i < g.2.length + 1 then Classical.choose (ex i hi) else 0) (g.2.length + 1) (fun i hi => by
    rw [dif_pos hi]; exact (Classical.choose_spec (ex i hi)).1) (fun i j hij hj he => by
    rw [dif_pos (by omega), dif_pos hj] at he
    have h1 := (Classical.choose_spec (ex i (by omega))).2
    have h2 := (Classical.choose_spec (ex j hj)).2
    rw [he] at h1
    omega)
  omega

end Go.Proofs.Ytemhmmcakmidkaa
end
section
set_option linter.unusedVariables false
set_option linter.unusedSimpArgs false
namespace Go.Proofs.Ytemhmmcakmidkaa
open Go.Sx
theorem conn_iff {g : GR} (hV : VG g) {s : Nat} (hs : s < g.2.length) {d : List Int} (hD : Dist g s d) : (∀ v, v < d.length → 0 ≤ D d v) ↔ Conn g := by
  have hlen := hD.len
  constructor
  · intro h u v hu hv
    exact ⟨_, Walk.trans (Walk.rev hV (Dist.pos hV hD hu (h u (by omega)))) (Dist.pos hV hD hv (h v (by omega)))⟩
  · intro h v hv
    obtain ⟨k, hk⟩ := h s v hs (by omega)
    exact (Dist.le hV hD hk).1

end Go.Proofs.Ytemhmmcakmidkaa
end
section
set_option linter.unusedVariables false
set_option linter.unusedSimpArgs false
namespace Go.Proofs.Ytemhmmcakmidkaa
open Go.Sx
/-- δ is the distance of the graph of a relation, R the greatest one; the relation is symmetric and without loops -/
def okShape (n : Nat) (f : Nat → Nat → Bool) (δ : Nat → Nat → Nat) (R : Nat) : Bool :=
  ((List.range n).all fun s => (List.range n).all fun v =>
    ((δ s v == 0) == (v == s)) && (Nat.ble (δ s v) R && ((δ s v == 0 || (List.range n).any fun u => f v u && (δ s u + 1 == δ s v)) && (List.range n).all fun u => !(f v u) || Nat.ble (δ s u) (δ s v + 1))))
  && ((List.range n).any fun s => (List.range n).any fun v => δ s v == R)

def okRel (n : Nat) (f : Nat → Nat → Bool) (L : Nat) : Bool :=
  ((List.range n).all fun v => !(f v v) && (List.range n).all fun u => !(f v u) || f u v) && (sumN (fun v => ((List.range n).filter (f v)).length) n == 2 * L)

def pathF (v u : Nat) : Bool := v + 1 == u || u + 1 == v
def starF (v u : Nat) : Bool := (v == 0 && !(u == 0)) || (u == 0 && !(v == 0))
def fullF (v u : Nat) : Bool := !(v == u)
def ringF (n v u : Nat) : Bool := u == (v + n - 1) % n || u == (v + 1) % n
def pathD (s v : Nat) : Nat := (s - v) + (v - s)
def starD (s v : Nat) : Nat := if s == v then 0 else if s == 0 || v == 0 then 1 else 2
def fullD (s v : Nat) : Nat := if s == v then 0 else 1
def ringD (n s v : Nat) : Nat := min ((v + n - s) % n) (n - (v + n - s) % n)
def gridD (w s v : Nat) : Nat := pathD (s % w) (v % w) + pathD (s / w) (v / w)

theorem pathK2 : ((List.range 22).all fun k => okShape (k + 3) pathF pathD (k + 2) && okRel (k + 3) pathF (k + 2)) = true := by kernel_rfl
theorem starK2 : ((List.range 22).all fun k => okShape (k + 3) starF starD 2 && okRel (k + 3) starF (k + 2)) = true := by kernel_rfl
theorem fullK2 : ((List.range 22).all fun k => okShape (k + 3) fullF fullD 1 && okRel (k + 3) fullF ((k + 3) * (k + 2) / 2)) = true := by kernel_rfl
theorem ringK2 : ((List.range 22).all fun k => okShape (k + 3) (ringF (k + 3)) (ringD (k + 3)) ((k + 3) / 2)) = true := by kernel_rfl
theorem gridK2 : ((List.range 4).all fun w => (List.range 6).all fun h => okShape ((w + 1) * (h + 1)) (refN (w + 1)) (gridD (w + 1)) (w + h) && okRel ((w + 1) * (h + 1)) (refN (w + 1)) ((w + 1) * h + (h + 1) * w)) = true := by kernel_rfl

def ringRow (n v : Nat) : List (Int × Int) := [((((v + n - 1) % n : Nat) : Int), 1), ((((v + 1) % n : Nat) : Int), 1)]
def ringG (n : Nat) : GR := (iota n, (List.range n).map (ringRow n))
theorem ringK3 : ((List.range 22).all fun k : Nat => m_family_Ring 1000 ((k + 3 : Nat) : Int) == some (ringG (k + 3), (0 : Int))) = true := by kernel_rfl

end Go.Proofs.Ytemhmmcakmidkaa
end
section
set_option linter.unusedVariables false
set_option linter.unusedSimpArgs false
namespace Go.Proofs.Ytemhmmcakmidkaa
open Go.Sx
set_option linter.unusedVariables false
set_option linter.unusedSimpArgs false
def law03_shape_k1  (a6 : Bool) : Option (Bool) :=
  some (a6)
def m_law03_shape (fuel : Nat) (p0 : List (Int) × (List (List (Int × Int)))) (p1 : Int) (p2 : Int) (p3 : Int) : Option (Bool) :=
  Option.bind (m_graph_Size fuel ((p0.1, p0.2))) fun r2 => (Option.bind (m_graph_Valid fuel ((p0.1, p0.2))) fun r8 => (if r8 = true then (if r2.1 = p1 then (if r2.2 = p2 then (Option.bind (m_graph_Diameter fuel ((p0.1, p0.2))) fun r14 => (law03_shape_k1  (decide (r14 = p3)))) else (law03_shape_k1  (false))) else (law03_shape_k1  (false))) else (law03_shape_k1  (false))))

theorem body70 : HasBody Try.prog 70 := Try.call70

set_option maxHeartbeats 4000000 in
set_option maxRecDepth 20000 in
theorem t_law03_shape (fuel : Nat) {p0 : List (Int) × (List (List (Int × Int)))} {p1 : Int} {p2 : Int} {p3 : Int} (v0 : Value)  (v1 : Value)  (z2 : List (Value × List (Int × Int))) (r : Bool) (h : m_law03_shape fuel p0 p1 p2 p3 = some r) :
    Meets Try.prog 70 #[Value.agg #[v0, v1], Value.int .i64 (p1), Value.int .i64 (p2), Value.int .i64 (p3)] [Sl RI64 v0 p0.1, S2 RI64I64p v1 z2 p0.2] (fun x : Unit => Value.bool (r)) (fun x l => l) (fun _ l => l) := by
  refine Meets.of (vs := [Value.agg #[v0, v1], Value.int .i64 (p1), Value.int .i64 (p2), Value.int .i64 (p3)]) Try.func70 rfl Try.ntmps70 rfl fun c => ?_
  unfold m_law03_shape at h
  refine J.seq ?_
  refine J.region ?_
  refine J.loud (Loud.box (cs := [v0, v1]) rfl rfl) rfl fun b1 => ?_
  refine J.quiet (Y.assign rfl) rfl ?_
  refine J.done ?_
  refine J.thenN ?_
  refine J.seq ?_
  refine J.region ?_
  refine J.quiet (Y.loadBAll 0 rfl rfl rfl rfl) rfl ?_
  replace h := bnd h; obtain ⟨r2, hr3, h⟩ := h
  refine J.loud (Loud.callL body39 (t_graph_Size fuel v0 v1 z2 r2 hr3) rfl (LentAll.cons (Lent.fact 0 rfl) (LentAll.cons (Lent.fact 1 rfl) (LentAll.nil))) (fun _ _ => rfl)) rfl fun x4 => ?_
  refine J.quiet (Y.move rfl) rfl ?_
  refine J.quiet (Y.extract rfl rfl) rfl ?_
  refine J.quiet (Y.extract rfl rfl) rfl ?_
  refine J.quiet (Y.assign rfl) rfl ?_
  refine J.quiet (Y.assign rfl) rfl ?_
  refine J.done ?_
  refine J.thenN ?_
  refine J.seq ?_
  refine J.midI (A := Bool) (B := Unit) (fun a6 => law03_shape_k1  a6 = some r) (fun a6 b7 => [(8, Value.bool (a6))]) (fun a6 b7 => []) (fun a6 b7 => [Sl RI64 v0 p0.1, S2 RI64I64p v1 z2 p0.2]) ?_ ?_
  · refine J.region ?_
    refine J.quiet (Y.loadBAll 0 rfl rfl rfl rfl) rfl ?_
    replace h := bnd h; obtain ⟨r8, hr9, h⟩ := h
    refine J.loud (Loud.callL body64 (t_graph_Valid fuel v0 v1 z2 r8 hr9) rfl (LentAll.cons (Lent.fact 0 rfl) (LentAll.cons (Lent.fact 1 rfl) (LentAll.nil))) (fun _ _ => rfl)) rfl fun x10 => ?_
    refine J.quiet (Y.move rfl) rfl ?_
    refine J.guard (by exact rfl) (by exact rfl) (fun hp11 => ?_) (fun hp11 => ?_)
    · replace h := ifP hp11 h
      refine J.guardY rfl (Y.move rfl) rfl ?_
      refine J.guardY rfl (Y.move rfl) rfl ?_
      refine J.guardY rfl (Y.eql rfl rfl) rfl ?_
      refine J.quiet (Y.pickT rfl rfl) rfl ?_
      refine J.quiet (Y.move rfl) rfl ?_
      refine J.guardD (by exact rfl) (by exact rfl) (fun hp12 => ?_) (fun hp12 => ?_)
      · replace h := ifP hp12 h
        refine J.guardY rfl (Y.move rfl) rfl ?_
        refine J.guardY rfl (Y.move rfl) rfl ?_
        refine J.guardY rfl (Y.eql rfl rfl) rfl ?_
        refine J.quiet (Y.pickT rfl rfl) rfl ?_
        refine J.quiet (Y.move rfl) rfl ?_
        refine J.guardD (by exact rfl) (by exact rfl) (fun hp13 => ?_) (fun hp13 => ?_)
        · replace h := ifP hp13 h
          refine J.guardY rfl (Y.loadBAll 0 rfl rfl rfl rfl) rfl ?_
          replace h := bnd h; obtain ⟨r14, hr15, h⟩ := h
          refine J.loudG rfl (Loud.callL body36 (t_graph_Diameter fuel v0 v1 z2 r14 hr15) rfl (LentAll.cons (Lent.fact 0 rfl) (LentAll.cons (Lent.fact 1 rfl) (LentAll.nil))) (fun _ _ => rfl)) rfl fun x16 => ?_
          refine J.guardY rfl (Y.move rfl) rfl ?_
          refine J.guardY rfl (Y.eql rfl rfl) rfl ?_
          refine J.quiet (Y.pickT rfl rfl) rfl ?_
          refine J.quiet (Y.assign rfl) rfl ?_
          refine J.done ?_
          refine J.thenN ?_
          exact J.meetI (decide (r14 = p3)) (()) h (by repeat (first | exact SubF.nil | refine SubF.cons rfl ?_)) (SubM.nil) (LentAll.refl _ _)
        · replace h := ifN hp13 h
          refine J.guardN rfl rfl rfl ?_
          refine J.guardN rfl rfl rfl ?_
          refine J.guardN rfl rfl rfl ?_
          refine J.guardN rfl rfl rfl ?_
          refine J.quiet (Y.pickF rfl rfl) rfl ?_
          refine J.quiet (Y.assign rfl) rfl ?_
          refine J.done ?_
          refine J.thenN ?_
          exact J.meetI (false) (()) h (by repeat (first | exact SubF.nil | refine SubF.cons rfl ?_)) (SubM.nil) (LentAll.refl _ _)
      · replace h := ifN hp12 h
        refine J.guardN rfl rfl rfl ?_
        refine J.guardN rfl rfl rfl ?_
        refine J.guardN rfl rfl rfl ?_
        refine J.quiet (Y.pickF rfl rfl) rfl ?_
        refine J.quiet (Y.move rfl) rfl ?_
        refine J.guardN rfl rfl rfl ?_
        refine J.guardN rfl rfl rfl ?_
        refine J.guardN rfl rfl rfl ?_
        refine J.guardN rfl rfl rfl ?_
        refine J.quiet (Y.pickF rfl rfl) rfl ?_
        refine J.quiet (Y.assign rfl) rfl ?_
        refine J.done ?_
        refine J.thenN ?_
        exact J.meetI (false) (()) h (by repeat (first | exact SubF.nil | refine SubF.cons rfl ?_)) (SubM.nil) (LentAll.refl _ _)
    · replace h := ifBN hp11 h
      refine J.guardN rfl rfl rfl ?_
      refine J.guardN rfl rfl rfl ?_
      refine J.guardN rfl rfl rfl ?_
      refine J.quiet (Y.pickF rfl rfl) rfl ?_
      refine J.quiet (Y.move rfl) rfl ?_
      refine J.guardN rfl rfl rfl ?_
      refine J.guardN rfl rfl rfl ?_
      refine J.guardN rfl rfl rfl ?_
      refine J.quiet (Y.pickF rfl rfl) rfl ?_
      refine J.quiet (Y.move rfl) rfl ?_
      refine J.guardN rfl rfl rfl ?_
      refine J.guardN rfl rfl rfl ?_
      refine J.guardN rfl rfl rfl ?_
      refine J.guardN rfl rfl rfl ?_
      refine J.quiet (Y.pickF rfl rfl) rfl ?_
      refine J.quiet (Y.assign rfl) rfl ?_
      refine J.done ?_
      refine J.thenN ?_
      exact J.meetI (false) (()) h (by repeat (first | exact SubF.nil | refine SubF.cons rfl ?_)) (SubM.nil) (LentAll.refl _ _)
  · clear h
    intro a6 b7 h
    unfold law03_shape_k1 at h
    refine J.ret ?_
    obtain rfl := Option.some.inj h
    exact J.retG1 (()) rfl rfl (RV.tmp rfl) (SubM.refl _) LentAll.nil

end Go.Proofs.Ytemhmmcakmidkaa
end
section
set_option linter.unusedVariables false
set_option linter.unusedSimpArgs false
namespace Go.Proofs.Ytemhmmcakmidkaa
open Go.Sx
set_option linter.unusedVariables false
set_option linter.unusedSimpArgs false
def law03_FamilyHasShapes_k2  (a45 : Bool) : Option (Bool) :=
  some (a45)
def law03_FamilyHasShapes_k1 (fuel : Nat) (r1 : Int) (r4 : Int) (r7 : Int) (r10 : (List (Int) × (List (List (Int × Int)))) × Int) (r16 : (List (Int) × (List (List (Int × Int)))) × Int) (r22 : (List (Int) × (List (List (Int × Int)))) × Int) (r28 : (List (Int) × (List (List (Int × Int)))) × Int) (r34 : (List (Int) × (List (List (Int × Int)))) × Int) (a41 : Bool) : Option (Bool) :=
  if a41 = true then (some (false)) else (Option.bind (m_law03_awake fuel ) fun r47 => (if r47 = true then (ck ((2 : Int) ≠ 0) (Option.bind (m_law03_shape fuel ((r10.1.1, r10.1.2)) (wI .i64 ((3 : Int) + r1)) (wI .i64 ((3 : Int) + r1)) (wI .i64 (Int.tdiv (wI .i64 ((3 : Int) + r1)) (2 : Int)))) fun r52 => (if r52 = true then (Option.bind (m_law03_shape fuel ((r16.1.1, r16.1.2)) (wI .i64 ((3 : Int) + r1)) (wI .i64 ((wI .i64 ((3 : Int) + r1)) - (1 : Int))) (wI .i64 ((wI .i64 ((3 : Int) + r1)) - (1 : Int)))) fun r56 => (if r56 = true then (Option.bind (m_law03_shape fuel ((r22.1.1, r22.1.2)) (wI .i64 ((3 : Int) + r1)) (wI .i64 ((wI .i64 ((3 : Int) + r1)) - (1 : Int))) (2 : Int)) fun r60 => (if r60 = true then (ck ((2 : Int) ≠ 0) (Option.bind (m_law03_shape fuel ((r28.1.1, r28.1.2)) (wI .i64 ((3 : Int) + r1)) (wI .i64 (Int.tdiv (wI .i64 ((wI .i64 ((3 : Int) + r1)) * (wI .i64 ((wI .i64 ((3 : Int) + r1)) - (1 : Int))))) (2 : Int))) (1 : Int)) fun r65 => (if r65 = true then (Option.bind (m_law03_shape fuel ((r34.1.1, r34.1.2)) (wI .i64 ((wI .i64 ((1 : Int) + r4)) * (wI .i64 ((1 : Int) + r7)))) (wI .i64 ((wI .i64 ((wI .i64 ((1 : Int) + r4)) * (wI .i64 ((wI .i64 ((1 : Int) + r7)) - (1 : Int))))) + (wI .i64 ((wI .i64 ((1 : Int) + r7)) * (wI .i64 ((wI .i64 ((1 : Int) + r4)) - (1 : Int))))))) (wI .i64 ((wI .i64 ((wI .i64 ((1 : Int) + r4)) + (wI .i64 ((1 : Int) + r7)))) - (2 : Int)))) fun r69 => (if r69 = true then (Option.bind (m_graph_Tree fuel ((r16.1.1, r16.1.2))) fun r73 => (if r73 = true then (Option.bind (m_graph_Tree fuel ((r22.1.1, r22.1.2))) fun r77 => (if r77 = true then (Option.bind (m_graph_Tree fuel ((r10.1.1, r10.1.2))) fun r81 => (law03_FamilyHasShapes_k2  ((!r81)))) else (law03_FamilyHasShapes_k2  (false)))) else (law03_FamilyHasShapes_k2  (false)))) else (law03_FamilyHasShapes_k2  (false)))) else (law03_FamilyHasShapes_k2  (false))))) else (law03_FamilyHasShapes_k2  (false)))) else (law03_FamilyHasShapes_k2  (false)))) else (law03_FamilyHasShapes_k2  (false))))) else (law03_FamilyHasShapes_k2  (false))))
def m_law03_FamilyHasShapes (fuel : Nat) (p0 : Int) (p1 : Int) (p2 : Int) : Option (Bool) :=
  Option.bind (m_made_Mod fuel p0 (22 : Int)) fun r1 => (Option.bind (m_made_Mod fuel p1 (4 : Int)) fun r4 => (Option.bind (m_made_Mod fuel p2 (6 : Int)) fun r7 => (Option.bind (m_family_Ring fuel (wI .i64 ((3 : Int) + r1))) fun r10 => (Option.bind (m_family_Path fuel (wI .i64 ((3 : Int) + r1))) fun r16 => (Option.bind (m_family_Star fuel (wI .i64 ((3 : Int) + r1))) fun r22 => (Option.bind (m_family_Complete fuel (wI .i64 ((3 : Int) + r1))) fun r28 => (Option.bind (m_family_Grid fuel (wI .i64 ((1 : Int) + r4)) (wI .i64 ((1 : Int) + r7))) fun r34 => (if r10.2 ≠ (0 : Int) then (law03_FamilyHasShapes_k1 fuel r1 r4 r7 r10 r16 r22 r28 r34 (true)) else (if r16.2 ≠ (0 : Int) then (law03_FamilyHasShapes_k1 fuel r1 r4 r7 r10 r16 r22 r28 r34 (true)) else (if r22.2 ≠ (0 : Int) then (law03_FamilyHasShapes_k1 fuel r1 r4 r7 r10 r16 r22 r28 r34 (true)) else (if r28.2 ≠ (0 : Int) then (law03_FamilyHasShapes_k1 fuel r1 r4 r7 r10 r16 r22 r28 r34 (true)) else (law03_FamilyHasShapes_k1 fuel r1 r4 r7 r10 r16 r22 r28 r34 (decide (r34.2 ≠ (0 : Int)))))))))))))))

set_option maxHeartbeats 4000000 in
set_option maxRecDepth 20000 in
theorem t_law03_FamilyHasShapes (fuel : Nat) {p0 : Int} {p1 : Int} {p2 : Int} (r : Bool) (h : m_law03_FamilyHasShapes fuel p0 p1 p2 = some r) :
    Meets Try.prog 16 #[Value.int .i64 (p0), Value.int .i64 (p1), Value.int .i64 (p2)] [] (fun x : Unit => Value.bool (r)) (fun x l => l) (fun _ l => l) := by
  refine Meets.of (vs := [Value.int .i64 (p0), Value.int .i64 (p1), Value.int .i64 (p2)]) Try.func16 rfl Try.ntmps16 rfl fun c => ?_
  unfold m_law03_FamilyHasShapes at h
  refine J.seq ?_
  refine J.region ?_
  refine J.quiet (Y.assign rfl) rfl ?_
  refine J.done ?_
  refine J.thenN ?_
  refine J.seq ?_
  refine J.region ?_
  refine J.quiet (Y.move rfl) rfl ?_
  replace h := bnd h; obtain ⟨r1, hr2, h⟩ := h
  refine J.loud (Loud.callL body34 (t_made_Mod fuel  r1 hr2) rfl (LentAll.nil) (fun _ _ => rfl)) rfl fun x3 => ?_
  refine J.quiet (Y.addW rfl rfl) rfl ?_
  refine J.quiet (Y.move rfl) rfl ?_
  replace h := bnd h; obtain ⟨r4, hr5, h⟩ := h
  refine J.loud (Loud.callL body34 (t_made_Mod fuel  r4 hr5) rfl (LentAll.nil) (fun _ _ => rfl)) rfl fun x6 => ?_
  refine J.quiet (Y.addW rfl rfl) rfl ?_
  refine J.quiet (Y.move rfl) rfl ?_
  replace h := bnd h; obtain ⟨r7, hr8, h⟩ := h
  refine J.loud (Loud.callL body34 (t_made_Mod fuel  r7 hr8) rfl (LentAll.nil) (fun _ _ => rfl)) rfl fun x9 => ?_
  refine J.quiet (Y.addW rfl rfl) rfl ?_
  refine J.quiet (Y.assign rfl) rfl ?_
  refine J.quiet (Y.assign rfl) rfl ?_
  refine J.quiet (Y.assign rfl) rfl ?_
  refine J.done ?_
  refine J.thenN ?_
  refine J.seq ?_
  refine J.region ?_
  refine J.quiet (Y.move rfl) rfl ?_
  replace h := bnd h; obtain ⟨r10, hr11, h⟩ := h
  refine J.loud (Loud.callL body19 (t_family_Ring fuel  r10 hr11) rfl (LentAll.nil) (fun _ _ => rfl)) rfl fun x12 => ?_
  refine J.quiet (Y.move rfl) rfl ?_
  refine J.quiet (Y.extract rfl rfl) rfl ?_
  refine J.quiet (Y.extract rfl rfl) rfl ?_
  refine J.loud (Loud.alloc (cs := [Value.slice none 0 0, Value.slice none 0 0]) rfl rfl) rfl fun b13 => ?_
  refine J.know (Know.one ((Lent.ar (Lent.res 1 rfl) FI64))) fun ho14 => ?_
  refine J.know (Know.one (Lent.sl (Lent.rows (i := 2) (j := 3) rfl rfl FI64I64p))) fun ho15 => ?_
  refine J.storeAll 0 (vs := [x12.1, x12.2.1]) rfl rfl (all1 ho14 (all1 ho15 rfl)) rfl rfl rfl ?_
  refine J.quiet (Y.assign rfl) rfl ?_
  refine J.done ?_
  refine J.thenN ?_
  refine J.seq ?_
  refine J.region ?_
  refine J.quiet (Y.move rfl) rfl ?_
  replace h := bnd h; obtain ⟨r16, hr17, h⟩ := h
  refine J.loud (Loud.callL body22 (t_family_Path fuel  r16 hr17) rfl (LentAll.nil) (fun _ _ => rfl)) rfl fun x18 => ?_
  refine J.quiet (Y.move rfl) rfl ?_
  refine J.quiet (Y.extract rfl rfl) rfl ?_
  refine J.quiet (Y.extract rfl rfl) rfl ?_
  refine J.loud (Loud.alloc (cs := [Value.slice none 0 0, Value.slice none 0 0]) rfl rfl) rfl fun b19 => ?_
  refine J.know (Know.one ((Lent.ar (Lent.res 1 rfl) FI64))) fun ho20 => ?_
  refine J.know (Know.one (Lent.sl (Lent.rows (i := 2) (j := 3) rfl rfl FI64I64p))) fun ho21 => ?_
  refine J.storeAll 0 (vs := [x18.1, x18.2.1]) rfl rfl (all1 ho20 (all1 ho21 rfl)) rfl rfl rfl ?_
  refine J.quiet (Y.assign rfl) rfl ?_
  refine J.done ?_
  refine J.thenN ?_
  refine J.seq ?_
  refine J.region ?_
  refine J.quiet (Y.move rfl) rfl ?_
  replace h := bnd h; obtain ⟨r22, hr23, h⟩ := h
  refine J.loud (Loud.callL body24 (t_family_Star fuel  r22 hr23) rfl (LentAll.nil) (fun _ _ => rfl)) rfl fun x24 => ?_
  refine J.quiet (Y.move rfl) rfl ?_
  refine J.quiet (Y.extract rfl rfl) rfl ?_
  refine J.quiet (Y.extract rfl rfl) rfl ?_
  refine J.loud (Loud.alloc (cs := [Value.slice none 0 0, Value.slice none 0 0]) rfl rfl) rfl fun b25 => ?_
  refine J.know (Know.one ((Lent.ar (Lent.res 1 rfl) FI64))) fun ho26 => ?_
  refine J.know (Know.one (Lent.sl (Lent.rows (i := 2) (j := 3) rfl rfl FI64I64p))) fun ho27 => ?_
  refine J.storeAll 0 (vs := [x24.1, x24.2.1]) rfl rfl (all1 ho26 (all1 ho27 rfl)) rfl rfl rfl ?_
  refine J.quiet (Y.assign rfl) rfl ?_
  refine J.done ?_
  refine J.thenN ?_
  refine J.seq ?_
  refine J.region ?_
  refine J.quiet (Y.move rfl) rfl ?_
  replace h := bnd h; obtain ⟨r28, hr29, h⟩ := h
  refine J.loud (Loud.callL body26 (t_family_Complete fuel  r28 hr29) rfl (LentAll.nil) (fun _ _ => rfl)) rfl fun x30 => ?_
  refine J.quiet (Y.move rfl) rfl ?_
  refine J.quiet (Y.extract rfl rfl) rfl ?_
  refine J.quiet (Y.extract rfl rfl) rfl ?_
  refine J.loud (Loud.alloc (cs := [Value.slice none 0 0, Value.slice none 0 0]) rfl rfl) rfl fun b31 => ?_
  refine J.know (Know.one ((Lent.ar (Lent.res 1 rfl) FI64))) fun ho32 => ?_
  refine J.know (Know.one (Lent.sl (Lent.rows (i := 2) (j := 3) rfl rfl FI64I64p))) fun ho33 => ?_
  refine J.storeAll 0 (vs := [x30.1, x30.2.1]) rfl rfl (all1 ho32 (all1 ho33 rfl)) rfl rfl rfl ?_
  refine J.quiet (Y.assign rfl) rfl ?_
  refine J.done ?_
  refine J.thenN ?_
  refine J.seq ?_
  refine J.region ?_
  refine J.quiet (Y.move rfl) rfl ?_
  refine J.quiet (Y.move rfl) rfl ?_
  replace h := bnd h; obtain ⟨r34, hr35, h⟩ := h
  refine J.loud (Loud.callL body28 (t_family_Grid fuel  r34 hr35) rfl (LentAll.nil) (fun _ _ => rfl)) rfl fun x36 => ?_
  refine J.quiet (Y.move rfl) rfl ?_
  refine J.quiet (Y.extract rfl rfl) rfl ?_
  refine J.quiet (Y.extract rfl rfl) rfl ?_
  refine J.loud (Loud.alloc (cs := [Value.slice none 0 0, Value.slice none 0 0]) rfl rfl) rfl fun b37 => ?_
  refine J.know (Know.one ((Lent.ar (Lent.res 1 rfl) FI64))) fun ho38 => ?_
  refine J.know (Know.one (Lent.sl (Lent.rows (i := 2) (j := 3) rfl rfl FI64I64p))) fun ho39 => ?_
  refine J.storeAll 0 (vs := [x36.1, x36.2.1]) rfl rfl (all1 ho38 (all1 ho39 rfl)) rfl rfl rfl ?_
  refine J.quiet (Y.assign rfl) rfl ?_
  refine J.done ?_
  refine J.thenN ?_
  refine J.seq ?_
  refine J.seq ?_
  refine J.midI (A := Bool) (B := Unit) (fun a41 => law03_FamilyHasShapes_k1 fuel r1 r4 r7 r10 r16 r22 r28 r34 a41 = some r) (fun a41 b42 => [(0, Value.int .i64 (wI .i64 ((3 : Int) + r1))), (1, Value.int .i64 (wI .i64 ((1 : Int) + r4))), (2, Value.int .i64 (wI .i64 ((1 : Int) + r7))), (7, Value.pointer (some ⟨b13, 0, none⟩)), (9, Value.pointer (some ⟨b19, 0, none⟩)), (11, Value.pointer (some ⟨b25, 0, none⟩)), (13, Value.pointer (some ⟨b31, 0, none⟩)), (15, Value.pointer (some ⟨b37, 0, none⟩)), (69, Value.bool (a41))]) (fun a41 b42 => [Blk b37 [x36.1, x36.2.1] 26, Ar EI64 x36.1 r34.1.1, Ar Enc.raw x36.2.1 x36.2.2, Rws EI64I64p x36.2.2 r34.1.2, Blk b31 [x30.1, x30.2.1] 26, Ar EI64 x30.1 r28.1.1, Ar Enc.raw x30.2.1 x30.2.2, Rws EI64I64p x30.2.2 r28.1.2, Blk b25 [x24.1, x24.2.1] 26, Ar EI64 x24.1 r22.1.1, Ar Enc.raw x24.2.1 x24.2.2, Rws EI64I64p x24.2.2 r22.1.2, Blk b19 [x18.1, x18.2.1] 26, Ar EI64 x18.1 r16.1.1, Ar Enc.raw x18.2.1 x18.2.2, Rws EI64I64p x18.2.2 r16.1.2, Blk b13 [x12.1, x12.2.1] 26, Ar EI64 x12.1 r10.1.1, Ar Enc.raw x12.2.1 x12.2.2, Rws EI64I64p x12.2.2 r10.1.2]) (fun a41 b42 => []) ?_ ?_
  · refine J.region ?_
    refine J.quiet (Y.move rfl) rfl ?_
    refine J.quiet (Y.neq rfl rfl) rfl ?_
    refine J.quiet (Y.move rfl) rfl ?_
    refine J.guardD (by exact rfl) (by exact rfl) (fun hp84 => ?_) (fun hp84 => ?_)
    · replace h := ifP hp84 h
      refine J.guardN rfl rfl rfl ?_
      refine J.guardN rfl rfl rfl ?_
      refine J.quiet (Y.pickT rfl rfl) rfl ?_
      refine J.quiet (Y.move rfl) rfl ?_
      refine J.guardN rfl rfl rfl ?_
      refine J.guardN rfl rfl rfl ?_
      refine J.quiet (Y.pickT rfl rfl) rfl ?_
      refine J.quiet (Y.move rfl) rfl ?_
      refine J.guardN rfl rfl rfl ?_
      refine J.guardN rfl rfl rfl ?_
      refine J.quiet (Y.pickT rfl rfl) rfl ?_
      refine J.quiet (Y.move rfl) rfl ?_
      refine J.guardN rfl rfl rfl ?_
      refine J.guardN rfl rfl rfl ?_
      refine J.quiet (Y.pickT rfl rfl) rfl ?_
      refine J.done ?_
      refine J.thenN ?_
      exact J.meetI (true) (()) h (by repeat (first | exact SubF.nil | refine SubF.cons rfl ?_)) (SubM.refl _) (LentAll.refl _ _)
    · replace h := ifN hp84 h
      refine J.guardY rfl (Y.move rfl) rfl ?_
      refine J.guardY rfl (Y.neq rfl rfl) rfl ?_
      refine J.quiet (Y.pickF rfl rfl) rfl ?_
      refine J.quiet (Y.move rfl) rfl ?_
      refine J.guardD (by exact rfl) (by exact rfl) (fun hp85 => ?_) (fun hp85 => ?_)
      · replace h := ifP hp85 h
        refine J.guardN rfl rfl rfl ?_
        refine J.guardN rfl rfl rfl ?_
        refine J.quiet (Y.pickT rfl rfl) rfl ?_
        refine J.quiet (Y.move rfl) rfl ?_
        refine J.guardN rfl rfl rfl ?_
        refine J.guardN rfl rfl rfl ?_
        refine J.quiet (Y.pickT rfl rfl) rfl ?_
        refine J.quiet (Y.move rfl) rfl ?_
        refine J.guardN rfl rfl rfl ?_
        refine J.guardN rfl rfl rfl ?_
        refine J.quiet (Y.pickT rfl rfl) rfl ?_
        refine J.done ?_
        refine J.thenN ?_
        exact J.meetI (true) (()) h (by repeat (first | exact SubF.nil | refine SubF.cons rfl ?_)) (SubM.refl _) (LentAll.refl _ _)
      · replace h := ifN hp85 h
        refine J.guardY rfl (Y.move rfl) rfl ?_
        refine J.guardY rfl (Y.neq rfl rfl) rfl ?_
        refine J.quiet (Y.pickF rfl rfl) rfl ?_
        refine J.quiet (Y.move rfl) rfl ?_
        refine J.guardD (by exact rfl) (by exact rfl) (fun hp86 => ?_) (fun hp86 => ?_)
        · replace h := ifP hp86 h
          refine J.guardN rfl rfl rfl ?_
          refine J.guardN rfl rfl rfl ?_
          refine J.quiet (Y.pickT rfl rfl) rfl ?_
          refine J.quiet (Y.move rfl) rfl ?_
          refine J.guardN rfl rfl rfl ?_
          refine J.guardN rfl rfl rfl ?_
          refine J.quiet (Y.pickT rfl rfl) rfl ?_
          refine J.done ?_
          refine J.thenN ?_
          exact J.meetI (true) (()) h (by repeat (first | exact SubF.nil | refine SubF.cons rfl ?_)) (SubM.refl _) (LentAll.refl _ _)
        · replace h := ifN hp86 h
          refine J.guardY rfl (Y.move rfl) rfl ?_
          refine J.guardY rfl (Y.neq rfl rfl) rfl ?_
          refine J.quiet (Y.pickF rfl rfl) rfl ?_
          refine J.quiet (Y.move rfl) rfl ?_
          refine J.guardD (by exact rfl) (by exact rfl) (fun hp87 => ?_) (fun hp87 => ?_)
          · replace h := ifP hp87 h
            refine J.guardN rfl rfl rfl ?_
            refine J.guardN rfl rfl rfl ?_
            refine J.quiet (Y.pickT rfl rfl) rfl ?_
            refine J.done ?_
            refine J.thenN ?_
            exact J.meetI (true) (()) h (by repeat (first | exact SubF.nil | refine SubF.cons rfl ?_)) (SubM.refl _) (LentAll.refl _ _)
          · replace h := ifN hp87 h
            refine J.guardY rfl (Y.move rfl) rfl ?_
            refine J.guardY rfl (Y.neq rfl rfl) rfl ?_
            refine J.quiet (Y.pickF rfl rfl) rfl ?_
            refine J.done ?_
            refine J.thenN ?_
            exact J.meetI (decide (r34.2 ≠ (0 : Int))) (()) h (by repeat (first | exact SubF.nil | refine SubF.cons rfl ?_)) (SubM.refl _) (LentAll.refl _ _)
  · clear h
    intro a41 b42 h
    unfold law03_FamilyHasShapes_k1 at h
    refine J.cond (by exact rfl) (fun hp43 => ?_) (fun hp43 => ?_)
    · replace h := ifP hp43 h
      refine J.seq ?_
      refine J.region ?_
      refine J.quiet (Y.assign rfl) rfl ?_
      refine J.done ?_
      refine J.thenN ?_
      refine J.ret ?_
      refine J.thenR ?_
      obtain rfl := Option.some.inj h
      exact J.retG1 (()) rfl rfl (RV.tmp rfl) (SubM.nil) LentAll.nil
    · replace h := ifBN hp43 h
      refine J.skip ?_
      refine J.thenN ?_
      refine J.seq ?_
      refine J.midI (A := Bool) (B := Unit) (fun a45 => law03_FamilyHasShapes_k2  a45 = some r) (fun a45 b46 => [(6, Value.bool (a45))]) (fun a45 b46 => []) (fun a45 b46 => []) ?_ ?_
      · refine J.region ?_
        replace h := bnd h; obtain ⟨r47, hr48, h⟩ := h
        refine J.loud (Loud.callL body18 (t_law03_awake fuel  r47 hr48) rfl (LentAll.nil) (fun _ _ => rfl)) rfl fun x49 => ?_
        refine J.quiet (Y.move rfl) rfl ?_
        refine J.guard (by exact rfl) (by exact rfl) (fun hp50 => ?_) (fun hp50 => ?_)
        · replace h := ifP hp50 h
          refine J.guardY rfl (Y.loadBAll 16 rfl rfl rfl rfl) rfl ?_
          refine J.guardY rfl (Y.move rfl) rfl ?_
          refine J.guardY rfl (Y.move rfl) rfl ?_
          refine J.guardY rfl (Y.move rfl) rfl ?_
          replace h := ck_some h; obtain ⟨hc51, h⟩ := h
          refine J.guardY rfl (Y.quoW rfl rfl hc51) rfl ?_
          replace h := bnd h; obtain ⟨r52, hr53, h⟩ := h
          refine J.loudG rfl (Loud.callL body70 (t_law03_shape fuel x12.1 x12.2.1 (List.zip x12.2.2 r10.1.2) r52 hr53) rfl (LentAll.cons (Lent.ar (Lent.res 17 rfl) FI64) (LentAll.cons (Lent.rows (i := 18) (j := 19) rfl rfl FI64I64p) (LentAll.nil))) (fun _ _ => rfl)) rfl fun x54 => ?_
          refine J.quiet (Y.pickT rfl rfl) rfl ?_
          refine J.quiet (Y.move rfl) rfl ?_
          refine J.guard (by exact rfl) (by exact rfl) (fun hp55 => ?_) (fun hp55 => ?_)
          · replace h := ifP hp55 h
            refine J.guardY rfl (Y.loadBAll 12 rfl rfl rfl rfl) rfl ?_
            refine J.guardY rfl (Y.move rfl) rfl ?_
            refine J.guardY rfl (Y.move rfl) rfl ?_
            refine J.guardY rfl (Y.subW rfl rfl) rfl ?_
            refine J.guardY rfl (Y.move rfl) rfl ?_
            refine J.guardY rfl (Y.subW rfl rfl) rfl ?_
            replace h := bnd h; obtain ⟨r56, hr57, h⟩ := h
            refine J.loudG rfl (Loud.callL body70 (t_law03_shape fuel x18.1 x18.2.1 (List.zip x18.2.2 r16.1.2) r56 hr57) rfl (LentAll.cons (Lent.ar (Lent.res 13 rfl) FI64) (LentAll.cons (Lent.rows (i := 14) (j := 15) rfl rfl FI64I64p) (LentAll.nil))) (fun _ _ => rfl)) rfl fun x58 => ?_
            refine J.quiet (Y.pickT rfl rfl) rfl ?_
            refine J.quiet (Y.move rfl) rfl ?_
            refine J.guard (by exact rfl) (by exact rfl) (fun hp59 => ?_) (fun hp59 => ?_)
            · replace h := ifP hp59 h
              refine J.guardY rfl (Y.loadBAll 8 rfl rfl rfl rfl) rfl ?_
              refine J.guardY rfl (Y.move rfl) rfl ?_
              refine J.guardY rfl (Y.move rfl) rfl ?_
              refine J.guardY rfl (Y.subW rfl rfl) rfl ?_
              replace h := bnd h; obtain ⟨r60, hr61, h⟩ := h
              refine J.loudG rfl (Loud.callL body70 (t_law03_shape fuel x24.1 x24.2.1 (List.zip x24.2.2 r22.1.2) r60 hr61) rfl (LentAll.cons (Lent.ar (Lent.res 9 rfl) FI64) (LentAll.cons (Lent.rows (i := 10) (j := 11) rfl rfl FI64I64p) (LentAll.nil))) (fun _ _ => rfl)) rfl fun x62 => ?_
              refine J.quiet (Y.pickT rfl rfl) rfl ?_
              refine J.quiet (Y.move rfl) rfl ?_
              refine J.guard (by exact rfl) (by exact rfl) (fun hp63 => ?_) (fun hp63 => ?_)
              · replace h := ifP hp63 h
                refine J.guardY rfl (Y.loadBAll 4 rfl rfl rfl rfl) rfl ?_
                refine J.guardY rfl (Y.move rfl) rfl ?_
                refine J.guardY rfl (Y.move rfl) rfl ?_
                refine J.guardY rfl (Y.move rfl) rfl ?_
                refine J.guardY rfl (Y.subW rfl rfl) rfl ?_
                refine J.guardY rfl (Y.mulW rfl rfl) rfl ?_
                replace h := ck_some h; obtain ⟨hc64, h⟩ := h
                refine J.guardY rfl (Y.quoW rfl rfl hc64) rfl ?_
                replace h := bnd h; obtain ⟨r65, hr66, h⟩ := h
                refine J.loudG rfl (Loud.callL body70 (t_law03_shape fuel x30.1 x30.2.1 (List.zip x30.2.2 r28.1.2) r65 hr66) rfl (LentAll.cons (Lent.ar (Lent.res 5 rfl) FI64) (LentAll.cons (Lent.rows (i := 6) (j := 7) rfl rfl FI64I64p) (LentAll.nil))) (fun _ _ => rfl)) rfl fun x67 => ?_
                refine J.quiet (Y.pickT rfl rfl) rfl ?_
                refine J.quiet (Y.move rfl) rfl ?_
                refine J.guard (by exact rfl) (by exact rfl) (fun hp68 => ?_) (fun hp68 => ?_)
                · replace h := ifP hp68 h
                  refine J.guardY rfl (Y.loadBAll 0 rfl rfl rfl rfl) rfl ?_
                  refine J.guardY rfl (Y.move rfl) rfl ?_
                  refine J.guardY rfl (Y.move rfl) rfl ?_
                  refine J.guardY rfl (Y.mulW rfl rfl) rfl ?_
                  refine J.guardY rfl (Y.move rfl) rfl ?_
                  refine J.guardY rfl (Y.move rfl) rfl ?_
                  refine J.guardY rfl (Y.subW rfl rfl) rfl ?_
                  refine J.guardY rfl (Y.mulW rfl rfl) rfl ?_
                  refine J.guardY rfl (Y.move rfl) rfl ?_
                  refine J.guardY rfl (Y.move rfl) rfl ?_
                  refine J.guardY rfl (Y.subW rfl rfl) rfl ?_
                  refine J.guardY rfl (Y.mulW rfl rfl) rfl ?_
                  refine J.guardY rfl (Y.addW rfl rfl) rfl ?_
                  refine J.guardY rfl (Y.move rfl) rfl ?_
                  refine J.guardY rfl (Y.move rfl) rfl ?_
                  refine J.guardY rfl (Y.addW rfl rfl) rfl ?_
                  refine J.guardY rfl (Y.subW rfl rfl) rfl ?_
                  replace h := bnd h; obtain ⟨r69, hr70, h⟩ := h
                  refine J.loudG rfl (Loud.callL body70 (t_law03_shape fuel x36.1 x36.2.1 (List.zip x36.2.2 r34.1.2) r69 hr70) rfl (LentAll.cons (Lent.ar (Lent.res 1 rfl) FI64) (LentAll.cons (Lent.rows (i := 2) (j := 3) rfl rfl FI64I64p) (LentAll.nil))) (fun _ _ => rfl)) rfl fun x71 => ?_
                  refine J.quiet (Y.pickT rfl rfl) rfl ?_
                  refine J.quiet (Y.move rfl) rfl ?_
                  refine J.guard (by exact rfl) (by exact rfl) (fun hp72 => ?_) (fun hp72 => ?_)
                  · replace h := ifP hp72 h
                    refine J.guardY rfl (Y.loadBAll 12 rfl rfl rfl rfl) rfl ?_
                    replace h := bnd h; obtain ⟨r73, hr74, h⟩ := h
                    refine J.loudG rfl (Loud.callL body41 (t_graph_Tree fuel x18.1 x18.2.1 (List.zip x18.2.2 r16.1.2) r73 hr74) rfl (LentAll.cons (Lent.ar (Lent.res 13 rfl) FI64) (LentAll.cons (Lent.rows (i := 14) (j := 15) rfl rfl FI64I64p) (LentAll.nil))) (fun _ _ => rfl)) rfl fun x75 => ?_
                    refine J.quiet (Y.pickT rfl rfl) rfl ?_
                    refine J.quiet (Y.move rfl) rfl ?_
                    refine J.guard (by exact rfl) (by exact rfl) (fun hp76 => ?_) (fun hp76 => ?_)
                    · replace h := ifP hp76 h
                      refine J.guardY rfl (Y.loadBAll 8 rfl rfl rfl rfl) rfl ?_
                      replace h := bnd h; obtain ⟨r77, hr78, h⟩ := h
                      refine J.loudG rfl (Loud.callL body41 (t_graph_Tree fuel x24.1 x24.2.1 (List.zip x24.2.2 r22.1.2) r77 hr78) rfl (LentAll.cons (Lent.ar (Lent.res 9 rfl) FI64) (LentAll.cons (Lent.rows (i := 10) (j := 11) rfl rfl FI64I64p) (LentAll.nil))) (fun _ _ => rfl)) rfl fun x79 => ?_
                      refine J.quiet (Y.pickT rfl rfl) rfl ?_
                      refine J.quiet (Y.move rfl) rfl ?_
                      refine J.guard (by exact rfl) (by exact rfl) (fun hp80 => ?_) (fun hp80 => ?_)
                      · replace h := ifP hp80 h
                        refine J.guardY rfl (Y.loadBAll 16 rfl rfl rfl rfl) rfl ?_
                        replace h := bnd h; obtain ⟨r81, hr82, h⟩ := h
                        refine J.loudG rfl (Loud.callL body41 (t_graph_Tree fuel x12.1 x12.2.1 (List.zip x12.2.2 r10.1.2) r81 hr82) rfl (LentAll.cons (Lent.ar (Lent.res 17 rfl) FI64) (LentAll.cons (Lent.rows (i := 18) (j := 19) rfl rfl FI64I64p) (LentAll.nil))) (fun _ _ => rfl)) rfl fun x83 => ?_
                        refine J.guardY rfl (Y.not rfl) rfl ?_
                        refine J.quiet (Y.pickT rfl rfl) rfl ?_
                        refine J.quiet (Y.assign rfl) rfl ?_
                        refine J.done ?_
                        refine J.thenN ?_
                        exact J.meetI ((!r81)) (()) h (by repeat (first | exact SubF.nil | refine SubF.cons rfl ?_)) (SubM.nil) (LentAll.refl _ _)
                      · replace h := ifBN hp80 h
                        refine J.guardN rfl rfl rfl ?_
                        refine J.guardN rfl rfl rfl ?_
                        refine J.guardN rfl rfl rfl ?_
                        refine J.quiet (Y.pickF rfl rfl) rfl ?_
                        refine J.quiet (Y.assign rfl) rfl ?_
                        refine J.done ?_
                        refine J.thenN ?_
                        exact J.meetI (false) (()) h (by repeat (first | exact SubF.nil | refine SubF.cons rfl ?_)) (SubM.nil) (LentAll.refl _ _)
                    · replace h := ifBN hp76 h
                      refine J.guardN rfl rfl rfl ?_
                      refine J.guardN rfl rfl rfl ?_
                      refine J.quiet (Y.pickF rfl rfl) rfl ?_
                      refine J.quiet (Y.move rfl) rfl ?_
                      refine J.guardN rfl rfl rfl ?_
                      refine J.guardN rfl rfl rfl ?_
                      refine J.guardN rfl rfl rfl ?_
                      refine J.quiet (Y.pickF rfl rfl) rfl ?_
                      refine J.quiet (Y.assign rfl) rfl ?_
                      refine J.done ?_
                      refine J.thenN ?_
                      exact J.meetI (false) (()) h (by repeat (first | exact SubF.nil | refine SubF.cons rfl ?_)) (SubM.nil) (LentAll.refl _ _)
                  · replace h := ifBN hp72 h
                    refine J.guardN rfl rfl rfl ?_
                    refine J.guardN rfl rfl rfl ?_
                    refine J.quiet (Y.pickF rfl rfl) rfl ?_
                    refine J.quiet (Y.move rfl) rfl ?_
                    refine J.guardN rfl rfl rfl ?_
                    refine J.guardN rfl rfl rfl ?_
                    refine J.quiet (Y.pickF rfl rfl) rfl ?_
                    refine J.quiet (Y.move rfl) rfl ?_
                    refine J.guardN rfl rfl rfl ?_
                    refine J.guardN rfl rfl rfl ?_
                    refine J.guardN rfl rfl rfl ?_
                    refine J.quiet (Y.pickF rfl rfl) rfl ?_
                    refine J.quiet (Y.assign rfl) rfl ?_
                    refine J.done ?_
                    refine J.thenN ?_
                    exact J.meetI (false) (()) h (by repeat (first | exact SubF.nil | refine SubF.cons rfl ?_)) (SubM.nil) (LentAll.refl _ _)
                · replace h := ifBN hp68 h
                  refine J.guardN rfl rfl rfl ?_
                  refine J.guardN rfl rfl rfl ?_
                  refine J.guardN rfl rfl rfl ?_
                  refine J.guardN rfl rfl rfl ?_
                  refine J.guardN rfl rfl rfl ?_
                  refine J.guardN rfl rfl rfl ?_
                  refine J.guardN rfl rfl rfl ?_
                  refine J.guardN rfl rfl rfl ?_
                  refine J.guardN rfl rfl rfl ?_
                  refine J.guardN rfl rfl rfl ?_
                  refine J.guardN rfl rfl rfl ?_
                  refine J.guardN rfl rfl rfl ?_
                  refine J.guardN rfl rfl rfl ?_
                  refine J.guardN rfl rfl rfl ?_
                  refine J.guardN rfl rfl rfl ?_
                  refine J.guardN rfl rfl rfl ?_
                  refine J.guardN rfl rfl rfl ?_
                  refine J.guardN rfl rfl rfl ?_
                  refine J.quiet (Y.pickF rfl rfl) rfl ?_
                  refine J.quiet (Y.move rfl) rfl ?_
                  refine J.guardN rfl rfl rfl ?_
                  refine J.guardN rfl rfl rfl ?_
                  refine J.quiet (Y.pickF rfl rfl) rfl ?_
                  refine J.quiet (Y.move rfl) rfl ?_
                  refine J.guardN rfl rfl rfl ?_
                  refine J.guardN rfl rfl rfl ?_
                  refine J.quiet (Y.pickF rfl rfl) rfl ?_
                  refine J.quiet (Y.move rfl) rfl ?_
                  refine J.guardN rfl rfl rfl ?_
                  refine J.guardN rfl rfl rfl ?_
                  refine J.guardN rfl rfl rfl ?_
                  refine J.quiet (Y.pickF rfl rfl) rfl ?_
                  refine J.quiet (Y.assign rfl) rfl ?_
                  refine J.done ?_
                  refine J.thenN ?_
                  exact J.meetI (false) (()) h (by repeat (first | exact SubF.nil | refine SubF.cons rfl ?_)) (SubM.nil) (LentAll.refl _ _)
              · replace h := ifBN hp63 h
                refine J.guardN rfl rfl rfl ?_
                refine J.guardN rfl rfl rfl ?_
                refine J.guardN rfl rfl rfl ?_
                refine J.guardN rfl rfl rfl ?_
                refine J.guardN rfl rfl rfl ?_
                refine J.guardN rfl rfl rfl ?_
                refine J.guardN rfl rfl rfl ?_
                refine J.guardN rfl rfl rfl ?_
                refine J.quiet (Y.pickF rfl rfl) rfl ?_
                refine J.quiet (Y.move rfl) rfl ?_
                refine J.guardN rfl rfl rfl ?_
                refine J.guardN rfl rfl rfl ?_
                refine J.guardN rfl rfl rfl ?_
                refine J.guardN rfl rfl rfl ?_
                refine J.guardN rfl rfl rfl ?_
                refine J.guardN rfl rfl rfl ?_
                refine J.guardN rfl rfl rfl ?_
                refine J.guardN rfl rfl rfl ?_
                refine J.guardN rfl rfl rfl ?_
                refine J.guardN rfl rfl rfl ?_
                refine J.guardN rfl rfl rfl ?_
                refine J.guardN rfl rfl rfl ?_
                refine J.guardN rfl rfl rfl ?_
                refine J.guardN rfl rfl rfl ?_
                refine J.guardN rfl rfl rfl ?_
                refine J.guardN rfl rfl rfl ?_
                refine J.guardN rfl rfl rfl ?_
                refine J.guardN rfl rfl rfl ?_
                refine J.quiet (Y.pickF rfl rfl) rfl ?_
                refine J.quiet (Y.move rfl) rfl ?_
                refine J.guardN rfl rfl rfl ?_
                refine J.guardN rfl rfl rfl ?_
                refine J.quiet (Y.pickF rfl rfl) rfl ?_
                refine J.quiet (Y.move rfl) rfl ?_
                refine J.guardN rfl rfl rfl ?_
                refine J.guardN rfl rfl rfl ?_
                refine J.quiet (Y.pickF rfl rfl) rfl ?_
                refine J.quiet (Y.move rfl) rfl ?_
                refine J.guardN rfl rfl rfl ?_
                refine J.guardN rfl rfl rfl ?_
                refine J.guardN rfl rfl rfl ?_
                refine J.quiet (Y.pickF rfl rfl) rfl ?_
                refine J.quiet (Y.assign rfl) rfl ?_
                refine J.done ?_
                refine J.thenN ?_
                exact J.meetI (false) (()) h (by repeat (first | exact SubF.nil | refine SubF.cons rfl ?_)) (SubM.nil) (LentAll.refl _ _)
            · replace h := ifBN hp59 h
              refine J.guardN rfl rfl rfl ?_
              refine J.guardN rfl rfl rfl ?_
              refine J.guardN rfl rfl rfl ?_
              refine J.guardN rfl rfl rfl ?_
              refine J.guardN rfl rfl rfl ?_
              refine J.quiet (Y.pickF rfl rfl) rfl ?_
              refine J.quiet (Y.move rfl) rfl ?_
              refine J.guardN rfl rfl rfl ?_
              refine J.guardN rfl rfl rfl ?_
              refine J.guardN rfl rfl rfl ?_
              refine J.guardN rfl rfl rfl ?_
              refine J.guardN rfl rfl rfl ?_
              refine J.guardN rfl rfl rfl ?_
              refine J.guardN rfl rfl rfl ?_
              refine J.guardN rfl rfl rfl ?_
              refine J.quiet (Y.pickF rfl rfl) rfl ?_
              refine J.quiet (Y.move rfl) rfl ?_
              refine J.guardN rfl rfl rfl ?_
              refine J.guardN rfl rfl rfl ?_
              refine J.guardN rfl rfl rfl ?_
              refine J.guardN rfl rfl rfl ?_
              refine J.guardN rfl rfl rfl ?_
              refine J.guardN rfl rfl rfl ?_
              refine J.guardN rfl rfl rfl ?_
              refine J.guardN rfl rfl rfl ?_
              refine J.guardN rfl rfl rfl ?_
              refine J.guardN rfl rfl rfl ?_
              refine J.guardN rfl rfl rfl ?_
              refine J.guardN rfl rfl rfl ?_
              refine J.guardN rfl rfl rfl ?_
              refine J.guardN rfl rfl rfl ?_
              refine J.guardN rfl rfl rfl ?_
              refine J.guardN rfl rfl rfl ?_
              refine J.guardN rfl rfl rfl ?_
              refine J.guardN rfl rfl rfl ?_
              refine J.quiet (Y.pickF rfl rfl) rfl ?_
              refine J.quiet (Y.move rfl) rfl ?_
              refine J.guardN rfl rfl rfl ?_
              refine J.guardN rfl rfl rfl ?_
              refine J.quiet (Y.pickF rfl rfl) rfl ?_
              refine J.quiet (Y.move rfl) rfl ?_
              refine J.guardN rfl rfl rfl ?_
              refine J.guardN rfl rfl rfl ?_
              refine J.quiet (Y.pickF rfl rfl) rfl ?_
              refine J.quiet (Y.move rfl) rfl ?_
              refine J.guardN rfl rfl rfl ?_
              refine J.guardN rfl rfl rfl ?_
              refine J.guardN rfl rfl rfl ?_
              refine J.quiet (Y.pickF rfl rfl) rfl ?_
              refine J.quiet (Y.assign rfl) rfl ?_
              refine J.done ?_
              refine J.thenN ?_
              exact J.meetI (false) (()) h (by repeat (first | exact SubF.nil | refine SubF.cons rfl ?_)) (SubM.nil) (LentAll.refl _ _)
          · replace h := ifBN hp55 h
            refine J.guardN rfl rfl rfl ?_
            refine J.guardN rfl rfl rfl ?_
            refine J.guardN rfl rfl rfl ?_
            refine J.guardN rfl rfl rfl ?_
            refine J.guardN rfl rfl rfl ?_
            refine J.guardN rfl rfl rfl ?_
            refine J.guardN rfl rfl rfl ?_
            refine J.quiet (Y.pickF rfl rfl) rfl ?_
            refine J.quiet (Y.move rfl) rfl ?_
            refine J.guardN rfl rfl rfl ?_
            refine J.guardN rfl rfl rfl ?_
            refine J.guardN rfl rfl rfl ?_
            refine J.guardN rfl rfl rfl ?_
            refine J.guardN rfl rfl rfl ?_
            refine J.quiet (Y.pickF rfl rfl) rfl ?_
            refine J.quiet (Y.move rfl) rfl ?_
            refine J.guardN rfl rfl rfl ?_
            refine J.guardN rfl rfl rfl ?_
            refine J.guardN rfl rfl rfl ?_
            refine J.guardN rfl rfl rfl ?_
            refine J.guardN rfl rfl rfl ?_
            refine J.guardN rfl rfl rfl ?_
            refine J.guardN rfl rfl rfl ?_
            refine J.guardN rfl rfl rfl ?_
            refine J.quiet (Y.pickF rfl rfl) rfl ?_
            refine J.quiet (Y.move rfl) rfl ?_
            refine J.guardN rfl rfl rfl ?_
            refine J.guardN rfl rfl rfl ?_
            refine J.guardN rfl rfl rfl ?_
            refine J.guardN rfl rfl rfl ?_
            refine J.guardN rfl rfl rfl ?_
            refine J.guardN rfl rfl rfl ?_
            refine J.guardN rfl rfl rfl ?_
            refine J.guardN rfl rfl rfl ?_
            refine J.guardN rfl rfl rfl ?_
            refine J.guardN rfl rfl rfl ?_
            refine J.guardN rfl rfl rfl ?_
            refine J.guardN rfl rfl rfl ?_
            refine J.guardN rfl rfl rfl ?_
            refine J.guardN rfl rfl rfl ?_
            refine J.guardN rfl rfl rfl ?_
            refine J.guardN rfl rfl rfl ?_
            refine J.guardN rfl rfl rfl ?_
            refine J.guardN rfl rfl rfl ?_
            refine J.quiet (Y.pickF rfl rfl) rfl ?_
            refine J.quiet (Y.move rfl) rfl ?_
            refine J.guardN rfl rfl rfl ?_
            refine J.guardN rfl rfl rfl ?_
            refine J.quiet (Y.pickF rfl rfl) rfl ?_
            refine J.quiet (Y.move rfl) rfl ?_
            refine J.guardN rfl rfl rfl ?_
            refine J.guardN rfl rfl rfl ?_
            refine J.quiet (Y.pickF rfl rfl) rfl ?_
            refine J.quiet (Y.move rfl) rfl ?_
            refine J.guardN rfl rfl rfl ?_
            refine J.guardN rfl rfl rfl ?_
            refine J.guardN rfl rfl rfl ?_
            refine J.quiet (Y.pickF rfl rfl) rfl ?_
            refine J.quiet (Y.assign rfl) rfl ?_
            refine J.done ?_
            refine J.thenN ?_
            exact J.meetI (false) (()) h (by repeat (first | exact SubF.nil | refine SubF.cons rfl ?_)) (SubM.nil) (LentAll.refl _ _)
        · replace h := ifBN hp50 h
          refine J.guardN rfl rfl rfl ?_
          refine J.guardN rfl rfl rfl ?_
          refine J.guardN rfl rfl rfl ?_
          refine J.guardN rfl rfl rfl ?_
          refine J.guardN rfl rfl rfl ?_
          refine J.guardN rfl rfl rfl ?_
          refine J.quiet (Y.pickF rfl rfl) rfl ?_
          refine J.quiet (Y.move rfl) rfl ?_
          refine J.guardN rfl rfl rfl ?_
          refine J.guardN rfl rfl rfl ?_
          refine J.guardN rfl rfl rfl ?_
          refine J.guardN rfl rfl rfl ?_
          refine J.guardN rfl rfl rfl ?_
          refine J.guardN rfl rfl rfl ?_
          refine J.guardN rfl rfl rfl ?_
          refine J.quiet (Y.pickF rfl rfl) rfl ?_
          refine J.quiet (Y.move rfl) rfl ?_
          refine J.guardN rfl rfl rfl ?_
          refine J.guardN rfl rfl rfl ?_
          refine J.guardN rfl rfl rfl ?_
          refine J.guardN rfl rfl rfl ?_
          refine J.guardN rfl rfl rfl ?_
          refine J.quiet (Y.pickF rfl rfl) rfl ?_
          refine J.quiet (Y.move rfl) rfl ?_
          refine J.guardN rfl rfl rfl ?_
          refine J.guardN rfl rfl rfl ?_
          refine J.guardN rfl rfl rfl ?_
          refine J.guardN rfl rfl rfl ?_
          refine J.guardN rfl rfl rfl ?_
          refine J.guardN rfl rfl rfl ?_
          refine J.guardN rfl rfl rfl ?_
          refine J.guardN rfl rfl rfl ?_
          refine J.quiet (Y.pickF rfl rfl) rfl ?_
          refine J.quiet (Y.move rfl) rfl ?_
          refine J.guardN rfl rfl rfl ?_
          refine J.guardN rfl rfl rfl ?_
          refine J.guardN rfl rfl rfl ?_
          refine J.guardN rfl rfl rfl ?_
          refine J.guardN rfl rfl rfl ?_
          refine J.guardN rfl rfl rfl ?_
          refine J.guardN rfl rfl rfl ?_
          refine J.guardN rfl rfl rfl ?_
          refine J.guardN rfl rfl rfl ?_
          refine J.guardN rfl rfl rfl ?_
          refine J.guardN rfl rfl rfl ?_
          refine J.guardN rfl rfl rfl ?_
          refine J.guardN rfl rfl rfl ?_
          refine J.guardN rfl rfl rfl ?_
          refine J.guardN rfl rfl rfl ?_
          refine J.guardN rfl rfl rfl ?_
          refine J.guardN rfl rfl rfl ?_
          refine J.guardN rfl rfl rfl ?_
          refine J.quiet (Y.pickF rfl rfl) rfl ?_
          refine J.quiet (Y.move rfl) rfl ?_
          refine J.guardN rfl rfl rfl ?_
          refine J.guardN rfl rfl rfl ?_
          refine J.quiet (Y.pickF rfl rfl) rfl ?_
          refine J.quiet (Y.move rfl) rfl ?_
          refine J.guardN rfl rfl rfl ?_
          refine J.guardN rfl rfl rfl ?_
          refine J.quiet (Y.pickF rfl rfl) rfl ?_
          refine J.quiet (Y.move rfl) rfl ?_
          refine J.guardN rfl rfl rfl ?_
          refine J.guardN rfl rfl rfl ?_
          refine J.guardN rfl rfl rfl ?_
          refine J.quiet (Y.pickF rfl rfl) rfl ?_
          refine J.quiet (Y.assign rfl) rfl ?_
          refine J.done ?_
          refine J.thenN ?_
          exact J.meetI (false) (()) h (by repeat (first | exact SubF.nil | refine SubF.cons rfl ?_)) (SubM.nil) (LentAll.refl _ _)
      · clear h
        intro a45 b46 h
        unfold law03_FamilyHasShapes_k2 at h
        refine J.ret ?_
        obtain rfl := Option.some.inj h
        exact J.retG1 (()) rfl rfl (RV.tmp rfl) (SubM.refl _) LentAll.nil

end Go.Proofs.Ytemhmmcakmidkaa
end
section
set_option linter.unusedVariables false
set_option linter.unusedSimpArgs false
namespace Go.Proofs.Ytemhmmcakmidkaa
open Go.Sx
theorem shape_of {g : GR} (hV : VG g) {n R L : Nat} {f : Nat → Nat → Bool} {δ : Nat → Nat → Nat} (hn : g.2.length = n) (hadj : ∀ v u, v < n → u < n → (Adj g v u ↔ f v u = true)) (hdeg : degSum g = 2 * L) (ok : okShape n f δ R = true) :
    Conn g ∧ m_law03_shape 1000 g (n : Int) (L : Int) (R : Int) = some true := by
  subst hn
  have h1 := hV.n1
  unfold okShape at ok
  rw [Bool.and_eq_true] at ok
  obtain ⟨ok1, ok2⟩ := ok
  have a0 : ∀ s v, s < g.2.length → v < g.2.length → (δ s v = 0 ↔ v = s) ∧ δ s v ≤ R ∧ (0 < δ s v → ∃ u, u < g.2.length ∧ Adj g v u ∧ δ s u + 1 = δ s v) ∧ ∀ u, u < g.2.length → Adj g v u → δ s u ≤ δ s v + 1 := by
    intro s v hs hv
    have := List.all_eq_true.1 (List.all_eq_true.1 ok1 s (by simp; omega)) v (by simp; omega)
    rw [Bool.and_eq_true, Bool.and_eq_true, Bool.and_eq_true] at this
    obtain ⟨b1, b2, b3, b4⟩ := this
    refine ⟨?_, Nat.le_of_ble_eq_true b2, fun hp => ?_, fun u hu ha => ?_⟩
    · rw [beq_iff_eq] at b1
      constructor
      · intro e; rw [e] at b1; simpa using b1.symm
      · intro e; subst e; simpa using b1
    · rw [Bool.or_eq_true] at b3
      rcases b3 with b3 | b3
      · have := eq_of_beq b3; omega
      · obtain ⟨u, hu, hx⟩ := List.any_eq_true.1 b3
        rw [Bool.and_eq_true] at hx
        have hu' : u < g.2.length := by simpa using hu
        exact ⟨u, hu', (hadj v u hv hu').2 hx.1, eq_of_beq hx.2⟩
    · have := List.all_eq_true.1 b4 u (by simp; omega)
      rw [Bool.or_eq_true] at this
      rcases this with h | h
      · rw [(hadj v u hv hu).1 ha] at h; cases h
      · exact Nat.le_of_ble_eq_true h
  have key : ∀ s, s < g.2.length → ∀ d, Dist g s d → ∀ v, v < g.2.length → D d v = δ s v := fun s hs d hD =>
    Dist.unique hV hs hD (δ s) (fun v hv => (a0 s v hs hv).1) (fun v hv => (a0 s v hs hv).2.2.1) (fun v u hv hu ha => (a0 s v hs hv).2.2.2 u hu ha)
  have hc : Conn g := by
    obtain ⟨d, _, hD⟩ := search_ok hV (s := 0) (by omega)
    refine (conn_iff hV (s := 0) (by omega) hD).1 fun v hv => ?_
    rw [hD.len] at hv
    rw [key 0 (by omega) d hD v hv]; omega
  refine ⟨hc, ?_⟩
  obtain ⟨r, hr, hr1, s, hs, hr2⟩ := diameter_ok hV hc
  have hrR : r = R := by
    obtain ⟨d, _, hD, _, v, hv, he⟩ := hr2
    rw [key s hs d hD v hv] at he
    have h2 := (a0 s v hs hv).2.1
    obtain ⟨s', hs', hx⟩ := List.any_eq_true.1 ok2
    obtain ⟨v', hv', hy⟩ := List.any_eq_true.1 hx
    have hs' : s' < g.2.length := by simpa using hs'
    have hv' : v' < g.2.length := by simpa using hv'
    obtain ⟨d', r', hd', _, hE⟩ := ecc_search hV hs'
    have h3 := hr1 s' hs' r' hE
    obtain ⟨d2, _, hD2, h4, _⟩ := hE
    have h5 := h4 v' hv'
    rw [key s' hs' d2 hD2 v' hv', eq_of_beq hy] at h5
    omega
  unfold m_law03_shape
  rw [bindS (size_eq hV), bindS ((valid_eq g hV.light).1 hV), if_pos rfl, if_pos rfl, hdeg, if_pos (show (((2 * L / 2 : Nat)) : Int) = (L : Int) by omega), bindS hr, hrR]
  unfold law03_shape_k1
  rw [decide_eq_true rfl]

theorem relShape {n R L : Nat} {f : Nat → Nat → Bool} {δ : Nat → Nat → Nat} (h1 : 1 ≤ n) (h24 : n ≤ 24) (ok : okShape n f δ R = true) (okr : okRel n f L = true) :
    VG (relG f n) ∧ degSum (relG f n) = 2 * L ∧ Conn (relG f n) ∧ m_law03_shape 1000 (relG f n) (n : Int) (L : Int) (R : Int) = some true := by
  unfold okRel at okr
  rw [Bool.and_eq_true] at okr
  obtain ⟨o1, o2⟩ := okr
  have hl : (relG f n).2.length = n := selP_len f n
  have hV : VG (relG f n) := by
    refine rel_valid h1 h24 (fun v u hv hu h => ?_) (fun v hv => ?_)
    · have := List.all_eq_true.1 o1 v (by simp; omega)
      rw [Bool.and_eq_true] at this
      have := List.all_eq_true.1 this.2 u (by simp; omega)
      rw [h] at this
      simpa using this
    · have := List.all_eq_true.1 o1 v (by simp; omega)
      rw [Bool.and_eq_true] at this
      simpa using this.1
  have hd : degSum (relG f n) = 2 * L := by
    rw [← eq_of_beq o2]
    unfold degSum
    rw [hl]
    refine sumN_eq fun v hv => ?_
    rw [rel_row hv]
    simp [preRow]
  exact ⟨hV, hd, shape_of hV hl (fun v u hv hu => ⟨fun h => ((rel_adj hv).1 h).2, fun h => (rel_adj hv).2 ⟨hu, h⟩⟩) hd ok⟩

theorem ring_row {n v : Nat} (h : v < n) : row (ringG n) v = ringRow n v := by
  show at' ((List.range n).map (ringRow n)) (v : Int) = _
  rw [at'_nat, List.getD_eq_getElem?_getD, List.getElem?_map, List.getElem?_range h]; rfl

theorem prev_eq {n v : Nat} (h : v < n) : (v + n - 1) % n = if v = 0 then n - 1 else v - 1 := by
  split
  · rename_i e; subst e
    rw [Nat.zero_add]; exact Nat.mod_eq_of_lt (by omega)
  · rw [show v + n - 1 = (v - 1) + n by omega, Nat.add_mod_right]; exact Nat.mod_eq_of_lt (by omega)
theorem succ_eq {n v : Nat} (h : v < n) : (v + 1) % n = if v + 1 = n then 0 else v + 1 := by
  split
  · rename_i e; rw [e]; exact Nat.mod_self n
  · exact Nat.mod_eq_of_lt (by omega)

theorem ring_lnk {n v i : Nat} (hv : v < n) (hi : i < (row (ringG n) v).length) : (i = 0 ∧ lnk (row (ringG n) v) i = (((if v = 0 then n - 1 else v - 1 : Nat) : Int), 1)) ∨ (i = 1 ∧ lnk (row (ringG n) v) i = (((if v + 1 = n then 0 else v + 1 : Nat) : Int), 1)) := by
  rw [ring_row hv] at hi ⊢
  unfold ringRow at hi ⊢
  simp only [List.length_cons, List.length_nil] at hi
  rw [prev_eq hv, succ_eq hv]
  rcases (show i = 0 ∨ i = 1 by omega) with rfl | rfl
  · exact .inl ⟨rfl, rfl⟩
  · exact .inr ⟨rfl, rfl⟩

theorem ring_adj {n v u : Nat} (hv : v < n) : Adj (ringG n) v u ↔ (u = (if v = 0 then n - 1 else v - 1) ∨ u = (if v + 1 = n then 0 else v + 1)) := by
  have h2 : (row (ringG n) v).length = 2 := by rw [ring_row hv]; rfl
  constructor
  · rintro ⟨i, hi, he⟩
    rcases ring_lnk hv hi with ⟨_, e⟩ | ⟨_, e⟩
    · rw [e] at he; exact .inl (by dsimp only at he; omega)
    · rw [e] at he; exact .inr (by dsimp only at he; omega)
  · rintro (h | h)
    · refine ⟨0, by omega, ?_⟩
      rcases ring_lnk hv (i := 0) (by omega) with ⟨_, e⟩ | ⟨e, _⟩
      · rw [e, h]
      · omega
    · refine ⟨1, by omega, ?_⟩
      rcases ring_lnk hv (i := 1) (by omega) with ⟨e, _⟩ | ⟨_, e⟩
      · omega
      · rw [e, h]

theorem ring_valid {n : Nat} (h3 : 3 ≤ n) (h24 : n ≤ 24) : VG (ringG n) := by
  have hl : (ringG n).2.length = n := by simp [ringG]
  have two : ∀ v, v < n → (row (ringG n) v).length = 2 := fun v hv => by rw [ring_row hv]; rfl
  refine ⟨by omega, by omega, by rw [hl]; exact iota_len n, fun v hv => ?_, fun v hv i hi => ?_⟩
  · rw [hl] at hv
    refine ⟨?_, by rw [two v hv, hl]; omega, fun i hi => ?_, fun k hk => ?_⟩
    · rw [show idOf (ringG n) v = (v : Int) from iota_at hv]; omega
    · rw [hl]
      have hlk := ring_lnk hv hi
      refine ⟨?_, ?_, ?_, fun k hk => ?_⟩
      · rcases hlk with ⟨_, e⟩ | ⟨_, e⟩ <;> (rw [e]; dsimp only; split <;> omega)
      · rcases hlk with ⟨_, e⟩ | ⟨_, e⟩ <;> (rw [e]; dsimp only; split <;> omega)
      · rcases hlk with ⟨_, e⟩ | ⟨_, e⟩ <;> (rw [e]; dsimp only; omega)
      · have hlk2 := ring_lnk hv (i := k) (by omega)
        rcases hlk with ⟨e0, e⟩ | ⟨e0, e⟩
        · omega
        · rcases hlk2 with ⟨f0, f⟩ | ⟨f0, f⟩
          · rw [e, f]; dsimp only; split <;> split <;> omega
          · omega
    · rw [show idOf (ringG n) v = (v : Int) from iota_at hv, show idOf (ringG n) k = (k : Int) from iota_at (by omega)]; omega
  · rw [hl] at hv
    have hlk := ring_lnk hv hi
    obtain ⟨u, hu, he, hw⟩ : ∃ u : Nat, u < n ∧ lnk (row (ringG n) v) i = ((u : Int), 1) ∧ Adj (ringG n) v u := by
      rcases hlk with ⟨_, e⟩ | ⟨_, e⟩
      · exact ⟨_, by split <;> omega, e, (ring_adj hv).2 (.inl rfl)⟩
      · exact ⟨_, by split <;> omega, e, (ring_adj hv).2 (.inr rfl)⟩
    have hb : Adj (ringG n) u v := by
      rw [ring_adj hv] at hw
      rw [ring_adj hu]
      rcases hw with hw | hw
      · right; subst hw; split <;> split <;> omega
      · left; subst hw; split <;> split <;> omega
    obtain ⟨j, hj, hje⟩ := hb
    unfold SymAt
    rw [he]
    refine ⟨j, hj, hje, ?_⟩
    show (lnk (row (ringG n) u) j).2 = 1
    rcases ring_lnk hu hj with ⟨_, e⟩ | ⟨_, e⟩ <;> rw [e]

theorem hasShapes_pure (p q r : Int) : m_law03_FamilyHasShapes 1000 p q r = some true := by
  obtain ⟨x1, hx, k, rfl, hk⟩ := mod_ok p (n := 22) (by omega) (by omega)
  obtain ⟨x2, hy, w, rfl, hw⟩ := mod_ok q (n := 4) (by omega) (by omega)
  obtain ⟨x3, hz, h, rfl, hh⟩ := mod_ok r (n := 6) (by omega) (by omega)
  have en : wI .i64 ((3 : Int) + (k : Int)) = ((k + 3 : Nat) : Int) := by rw [wr (by omega) (by omega)]; omega
  have ew : wI .i64 ((1 : Int) + (w : Int)) = ((w + 1 : Nat) : Int) := by rw [wr (by omega) (by omega)]; omega
  have eh : wI .i64 ((1 : Int) + (h : Int)) = ((h + 1 : Nat) : Int) := by rw [wr (by omega) (by omega)]; omega
  have hwh : (w + 1) * (h + 1) ≤ 4 * 6 := Nat.mul_le_mul (by omega) (by omega)
  have hwh1 : 1 * 1 ≤ (w + 1) * (h + 1) := Nat.mul_le_mul (by omega) (by omega)
  -- the graphs
  have r1 : m_family_Ring 1000 ((k + 3 : Nat) : Int) = some (ringG (k + 3), 0) := eq_of_beq (List.all_eq_true.1 ringK3 k (by simp; omega))
  have r2 : m_family_Path 1000 ((k + 3 : Nat) : Int) = some (relG pathF (k + 3), 0) := by
    unfold m_family_Path
    rw [bindS (ofSize_eq (k + 3) (by omega) (by omega) pathF _ (fun v u hv hu hne => ?_) (fun v _ => by simp [pathF]))]
    unfold m_family_Path_1
    rw [wr (by omega) (by omega)]
    congr 1
    unfold pathF
    rw [Bool.eq_iff_iff, decide_eq_true_eq, Bool.or_eq_true, beq_iff_eq, beq_iff_eq]
    omega
  have r3 : m_family_Star 1000 ((k + 3 : Nat) : Int) = some (relG starF (k + 3), 0) := by
    unfold m_family_Star
    rw [bindS (ofSize_eq (k + 3) (by omega) (by omega) starF _ (fun v u hv hu hne => ?_) (fun v _ => by simp [starF]))]
    unfold m_family_Star_1
    congr 1
    unfold starF
    rw [Bool.eq_iff_iff, decide_eq_true_eq]
    simp only [Bool.or_eq_true, Bool.and_eq_true, Bool.not_eq_true', beq_iff_eq, beq_eq_false_iff_ne]
    omega
  have r4 : m_family_Complete 1000 ((k + 3 : Nat) : Int) = some (relG fullF (k + 3), 0) := by
    unfold m_family_Complete
    rw [bindS (ofSize_eq (k + 3) (by omega) (by omega) fullF _ (fun v u _ _ hne => by simp [m_family_Complete_1, fullF, hne]) (fun v _ => by simp [fullF]))]
  have em : wI .i64 (((w + 1 : Nat) : Int) * ((h + 1 : Nat) : Int)) = (((w + 1) * (h + 1) : Nat) : Int) := by
    rw [← Int.natCast_mul, wr (by omega) (by omega)]
  have r5 : m_family_Grid 1000 ((w + 1 : Nat) : Int) ((h + 1 : Nat) : Int) = some (relG (refN (w + 1)) ((w + 1) * (h + 1)), 0) := by
    unfold m_family_Grid family_Grid_k1
    rw [if_neg (by omega), if_neg (by omega), if_neg (by omega), decide_eq_false (by omega), if_neg (by simp), em]
    rw [bindS (ofSize_eq ((w + 1) * (h + 1)) (by omega) (by omega) (refN (w + 1)) _ (fun v u hv hu hne => ?_) (fun v hv => ?_))]
    · rw [famGrid_1 (w + 1) v u (by omega) (by omega) (by omega) (by omega) hne, gridN (w + 1) v u (by omega) (by omega) (by omega) (by omega)]
    · rw [← gridN (w + 1) v v (by omega) (by omega) (by omega) (by omega)]; simp [famN]
  -- their shapes
  have s1 := ring_valid (n := k + 3) (by omega) (by omega)
  have l1 : (ringG (k + 3)).2.length = k + 3 := by simp [ringG]
  have d1 : degSum (ringG (k + 3)) = 2 * (k + 3) := by
    unfold degSum
    rw [l1, sumN_eq (h := fun _ => 2) fun v hv => by rw [ring_row hv]; rfl, sumN_const]
  obtain ⟨c1, t1⟩ := shape_of s1 l1 (fun v u hv hu => by
    rw [ring_adj hv, ← prev_eq hv, ← succ_eq hv]; simp [ringF]) d1 (List.all_eq_true.1 ringK2 k (by simp; omega))
  have o2 := List.all_eq_true.1 pathK2 k (by simp; omega)
  rw [Bool.and_eq_true] at o2
  obtain ⟨v2, d2, c2, t2⟩ := relShape (by omega) (by omega) o2.1 o2.2
  have o3 := List.all_eq_true.1 starK2 k (by simp; omega)
  rw [Bool.and_eq_true] at o3
  obtain ⟨v3, d3, c3, t3⟩ := relShape (by omega) (by omega) o3.1 o3.2
  have o4 := List.all_eq_true.1 fullK2 k (by simp; omega)
  rw [Bool.and_eq_true] at o4
  obtain ⟨v4, d4, c4, t4⟩ := relShape (by omega) (by omega) o4.1 o4.2
  have o5 := List.all_eq_true.1 (List.all_eq_true.1 gridK2 w (by simp; omega)) h (by simp; omega)
  rw [Bool.and_eq_true] at o5
  obtain ⟨v5, d5, c5, t5⟩ := relShape (by omega) (by omega) o5.1 o5.2
  rw [show ((2 : Nat) : Int) = 2 from rfl] at t3
  rw [show ((1 : Nat) : Int) = 1 from rfl] at t4
  -- trees
  have u1 := (tree_eq s1).1 c1
  rw [d1, l1, decide_eq_false (by omega)] at u1
  have u2 := (tree_eq v2).1 c2
  rw [d2, selP_len, decide_eq_true (by omega)] at u2
  have u3 := (tree_eq v3).1 c3
  rw [d3, selP_len, decide_eq_true (by omega)] at u3
  unfold m_law03_FamilyHasShapes
  rw [show ((22 : Nat) : Int) = 22 from rfl] at hx
  rw [show ((4 : Nat) : Int) = 4 from rfl] at hy
  rw [show ((6 : Nat) : Int) = 6 from rfl] at hz
  rw [bindS hx, bindS hy, bindS hz, en, ew, eh, bindS r1, bindS r2, bindS r3, bindS r4, bindS r5, if_neg (by simp), if_neg (by simp), if_neg (by simp), if_neg (by simp), decide_eq_false (by simp)]
  unfold law03_FamilyHasShapes_k1
  have q1 : wI .i64 (Int.tdiv ((k + 3 : Nat) : Int) 2) = (((k + 3) / 2 : Nat) : Int) := by
    rw [show (2 : Int) = ((2 : Nat) : Int) from rfl, tdivN, wr (by omega) (by omega)]
  have q2 : wI .i64 (((k + 3 : Nat) : Int) - 1) = ((k + 2 : Nat) : Int) := by rw [wr (by omega) (by omega)]; omega
  have hkk : (k + 3) * (k + 2) ≤ 24 * 24 := Nat.mul_le_mul (by omega) (by omega)
  have q3 : wI .i64 (Int.tdiv (wI .i64 (((k + 3 : Nat) : Int) * ((k + 2 : Nat) : Int))) 2) = (((k + 3) * (k + 2) / 2 : Nat) : Int) := by
    rw [← Int.natCast_mul, wr (x := (((k + 3) * (k + 2) : Nat) : Int)) (by omega) (by omega), show (2 : Int) = ((2 : Nat) : Int) from rfl, tdivN, wr (by omega) (by omega)]
  have q4 : wI .i64 (((h + 1 : Nat) : Int) - 1) = ((h : Nat) : Int) := by rw [wr (by omega) (by omega)]; omega
  have q5 : wI .i64 (((w + 1 : Nat) : Int) - 1) = ((w : Nat) : Int) := by rw [wr (by omega) (by omega)]; omega
  have hwa : (w + 1) * h ≤ 4 * 6 := Nat.mul_le_mul (by omega) (by omega)
  have hwb : (h + 1) * w ≤ 6 * 4 := Nat.mul_le_mul (by omega) (by omega)
  have q6 : wI .i64 ((wI .i64 (((w + 1 : Nat) : Int) * (h : Int))) + (wI .i64 (((h + 1 : Nat) : Int) * (w : Int)))) = (((w + 1) * h + (h + 1) * w : Nat) : Int) := by
    rw [← Int.natCast_mul, ← Int.natCast_mul, wr (x := (((w + 1) * h : Nat) : Int)) (by omega) (by omega), wr (x := (((h + 1) * w : Nat) : Int)) (by omega) (by omega), wr (by omega) (by omega)]
    omega
  have q7 : wI .i64 ((wI .i64 (((w + 1 : Nat) : Int) + ((h + 1 : Nat) : Int))) - 2) = ((w + h : Nat) : Int) := by
    rw [wr (x := ((w + 1 : Nat) : Int) + ((h + 1 : Nat) : Int)) (by omega) (by omega), wr (by omega) (by omega)]; omega
  rw [if_neg (by simp), bindS awakeK, if_pos rfl, ckT (by decide), en, ew, eh, q1, q2, q3, q4, q5, q6, q7, em, bindS t1, if_pos rfl, bindS t2, if_pos rfl, bindS t3, if_pos rfl, ckT (by decide), bindS t4, if_pos rfl, bindS t5, if_pos rfl, bindS u2, if_pos rfl, bindS u3, if_pos rfl, bindS u1]
  rfl
end Go.Proofs.Ytemhmmcakmidkaa
end
