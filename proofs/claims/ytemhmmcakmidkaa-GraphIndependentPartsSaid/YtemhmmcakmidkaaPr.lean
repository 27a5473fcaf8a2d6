/- Sets of nodes as bits, and GraphIndependentParts: the plain law. Conditions: none. -/
import Derived.Test.YtemhmmcakmidkaaPj
import Derived.Test.YtemhmmcakmidkaaX9
namespace Go.Proofs.Ytemhmmcakmidkaa
open Go.Sx

theorem wrapU (a : Nat) (h : a < 4294967296) : IntKind.u32.wrap (a : Int) = a := by rw [← wI_eq]; exact if_pos ⟨by omega, by omega⟩

def N32 (x : Int) : Nat := (BitVec.ofInt 32 x).toNat
theorem N32_lt (x : Int) : N32 x < 4294967296 := (BitVec.ofInt 32 x).isLt
theorem N32_nat {a : Nat} (h : a < 4294967296) : N32 (a : Int) = a := by
  unfold N32; rw [BitVec.ofInt_natCast, BitVec.toNat_ofNat]; exact Nat.mod_eq_of_lt h

theorem bAnd_eq (x y : Int) : bAnd .u32 x y = ((N32 x &&& N32 y : Nat) : Int) := by
  show IntKind.u32.wrap (((BitVec.ofInt 32 x &&& BitVec.ofInt 32 y).toNat : Nat) : Int) = _
  rw [BitVec.toNat_and]
  exact wrapU _ (Nat.lt_of_le_of_lt Nat.and_le_left (N32_lt x))
theorem bOr_eq (x y : Int) : bOr .u32 x y = ((N32 x ||| N32 y : Nat) : Int) := by
  show IntKind.u32.wrap (((BitVec.ofInt 32 x ||| BitVec.ofInt 32 y).toNat : Nat) : Int) = _
  rw [BitVec.toNat_or]
  exact wrapU _ (Nat.or_lt_two_pow (n := 32) (N32_lt x) (N32_lt y))
theorem bAndNot0 (x y : Int) : bAndNot .u32 x y = 0 ↔ ∀ i, (N32 x).testBit i = true → (N32 y).testBit i = true := by
  have e : bAndNot .u32 x y = (((BitVec.ofInt 32 x &&& ~~~ BitVec.ofInt 32 y).toNat : Nat) : Int) := wrapU _ (BitVec.ofInt 32 x &&& ~~~ BitVec.ofInt 32 y).isLt
  have hb : ∀ i, (BitVec.ofInt 32 x &&& ~~~ BitVec.ofInt 32 y).toNat.testBit i = ((N32 x).testBit i && (decide (i < 32) && !(N32 y).testBit i)) := by
    intro i
    have := BitVec.getLsbD_and (x := BitVec.ofInt 32 x) (y := ~~~ BitVec.ofInt 32 y) (i := i)
    rw [BitVec.getLsbD_not] at this
    exact this
  have hx : ∀ i, (N32 x).testBit i = true → i < 32 := by
    intro i hi
    apply Classical.byContradiction
    intro hc
    rw [Nat.testBit_lt_two_pow (Nat.lt_of_lt_of_le (N32_lt x) (Nat.pow_le_pow_right (n := 2) (by omega) (show 32 ≤ i by omega)))] at hi
    cases hi
  rw [e]
  constructor
  · intro h i hi
    have h0 : (BitVec.ofInt 32 x &&& ~~~ BitVec.ofInt 32 y).toNat = 0 := by omega
    have := hb i
    rw [h0, Nat.zero_testBit, hi, decide_eq_true (hx i hi)] at this
    simpa using this
  · intro h
    have : (BitVec.ofInt 32 x &&& ~~~ BitVec.ofInt 32 y).toNat = 0 := by
      apply Nat.eq_of_testBit_eq
      intro i
      rw [hb i, Nat.zero_testBit]
      cases hi : (N32 x).testBit i with
      | false => rfl
      | true => rw [h i hi]; simp
    omega
theorem pow32 {k : Nat} (hk : k < 32) : 2 ^ k < 4294967296 := Nat.pow_lt_pow_right (n := 32) (by omega) hk
theorem bShl1 {k : Nat} (hk : k < 32) : bShl .u32 1 (k : Int) = ((2 ^ k : Nat) : Int) := by
  show IntKind.u32.wrap (1 * 2 ^ (min ((k : Int).toNat) 32)) = _
  rw [Int.toNat_natCast, Nat.min_eq_left (by omega), Int.one_mul, show (2 : Int) ^ k = ((2 ^ k : Nat) : Int) by simp]
  exact wrapU _ (pow32 hk)
theorem bShr_eq {a k : Nat} (hk : k < 32) : bShr .u32 (a : Int) (k : Int) = ((a / 2 ^ k : Nat) : Int) := by
  show Int.fdiv (a : Int) (2 ^ (min ((k : Int).toNat) 32)) = _
  rw [Int.toNat_natCast, Nat.min_eq_left (by omega), show (2 : Int) ^ k = ((2 ^ k : Nat) : Int) by simp, Int.fdiv_eq_ediv_of_nonneg _ (Int.natCast_nonneg _)]
  simp
theorem hasBit {a k : Nat} (hk : k < 32) (ha : a < 4294967296) : bAnd .u32 (bShr .u32 (a : Int) (k : Int)) 1 = 1 ↔ a.testBit k = true := by
  have h1 : N32 1 = 1 := N32_nat (a := 1) (by omega)
  rw [bShr_eq hk, bAnd_eq, N32_nat (Nat.lt_of_le_of_lt (Nat.div_le_self _ _) ha), h1, Nat.and_one_is_mod, Nat.testBit_eq_decide_div_mod_eq, decide_eq_true_eq]
  omega

/-- the nodes with a neighbour in s -/
theorem around_ok {g : GR} (hV : VG g) {s : Nat} (hs : s < 4294967296) : OK (fun r : Int => ∃ m : Nat, r = m ∧ m < 4294967296 ∧ ∀ v, m.testBit v = true ↔ v < g.2.length ∧ ∃ u, Adj g v u ∧ s.testBit u = true) (m_graph_around 1000 g (s : Int)) := by
  have h24 := hV.n24
  unfold m_graph_around
  refine iter_ok (fun z : Int × Int => ∃ k : Nat, z.2 = k ∧ k ≤ g.2.length ∧ ∃ m : Nat, z.1 = m ∧ m < 4294967296 ∧ ∀ v, m.testBit v = true ↔ v < k ∧ ∃ u, Adj g v u ∧ s.testBit u = true) (fun z => 31 - z.2.toNat) ?_ 1000 _ ⟨0, rfl, by omega, 0, rfl, by omega, fun v => by simp⟩ (by simp)
  rintro ⟨a, z⟩ ag ⟨k, hz, hk, m, hm, hm32, hb⟩ hag
  dsimp only at hz hm
  subst hz hm
  unfold graph_around_s1 graph_around_k1
  dsimp only
  by_cases hlt : k < g.2.length
  rotate_left
  · rw [if_neg (by omega)]
    have hkn : k = g.2.length := by omega
    subst hkn
    exact ⟨_, rfl, m, rfl, hm32, hb⟩
  have hdeg := (hV.node k hlt).deg
  rw [if_pos (by omega), ckT (by omega)]
  refine iter_ok (fun z : Int × Int => ∃ i : Nat, z.2 = i ∧ i ≤ (row g k).length ∧ ∃ m : Nat, z.1 = m ∧ m < 4294967296 ∧ ∀ v, m.testBit v = true ↔ (v < k ∧ ∃ u, Adj g v u ∧ s.testBit u = true) ∨ (v = k ∧ ∃ j, j < i ∧ s.testBit (lnk (row g k) j).1.toNat = true)) (fun z => 31 - z.2.toNat) ?_ 1000 _ ⟨0, rfl, by omega, m, rfl, hm32, fun v => by rw [hb v]; exact ⟨.inl, fun h => h.elim id fun ⟨_, j, hj, _⟩ => absurd hj (by omega)⟩⟩ (by simp)
  rintro ⟨a, z⟩ ag2 ⟨i, hz, hi, m, hm, hm32, hb⟩ hag2
  dsimp only at hz hm
  subst hz hm
  unfold graph_around_s2 graph_around_k2 graph_around_k3
  dsimp only
  by_cases hil : i < (row g k).length
  · obtain ⟨u, hu, hue, hadj⟩ := hV.port hlt hil
    rw [if_pos (show (i : Int) < ((row g k).length : Int) by omega), ckT (show 0 ≤ (i : Int) ∧ (i : Int) < ((row g k).length : Int) by omega), show at' (at' g.2 (k : Int)) (i : Int) = lnk (row g k) i from rfl, hue, ckT (by omega), wr (by omega) (by omega)]
    by_cases hbit : s.testBit u = true
    · rw [if_pos ((hasBit (by omega) hs).2 hbit), ckT (by omega), bShl1 (by omega), bOr_eq, N32_nat hm32, N32_nat (pow32 (by omega))]
      refine hag2 _ ⟨i + 1, by simp, by omega, _, rfl, Nat.or_lt_two_pow (n := 32) hm32 (pow32 (by omega)), fun v => ?_⟩ (by dsimp only; omega)
      rw [Nat.testBit_or, Nat.testBit_two_pow, Bool.or_eq_true, hb v, decide_eq_true_eq]
      constructor
      · rintro ((h | ⟨rfl, j, hj, h⟩) | rfl)
        · exact .inl h
        · exact .inr ⟨rfl, j, by omega, h⟩
        · exact .inr ⟨rfl, i, by omega, by rw [hue]; exact hbit⟩
      · rintro (h | ⟨rfl, _⟩)
        · exact .inl (.inl h)
        · exact .inr rfl
    · rw [if_neg (fun h => hbit ((hasBit (by omega) hs).1 h))]
      refine hag2 _ ⟨i + 1, by simp, by omega, m, rfl, hm32, fun v => ?_⟩ (by dsimp only; omega)
      rw [hb v]
      constructor
      · rintro (h | ⟨rfl, j, hj, h⟩)
        · exact .inl h
        · exact .inr ⟨rfl, j, by omega, h⟩
      · rintro (h | ⟨rfl, j, hj, h⟩)
        · exact .inl h
        · by_cases hji : j = i
          · subst hji; rw [hue] at h; exact absurd h hbit
          · exact .inr ⟨rfl, j, by omega, h⟩
  · rw [if_neg (show ¬ (i : Int) < ((row g k).length : Int) by omega), wr (by omega) (by omega)]
    refine hag _ ⟨k + 1, by simp, by omega, m, rfl, hm32, fun v => ?_⟩ (by dsimp only; omega)
    rw [hb v]
    constructor
    · rintro (⟨h1, h2⟩ | ⟨rfl, j, hj, h⟩)
      · exact ⟨by omega, h2⟩
      · obtain ⟨u, hu, hue, hadj⟩ := hV.port hlt (show j < (row g v).length by omega)
        rw [hue] at h
        exact ⟨by omega, u, hadj, h⟩
    · rintro ⟨h1, u, ⟨j, hj, hju⟩, h2⟩
      by_cases hvk : v = k
      · subst hvk
        exact .inr ⟨rfl, j, by omega, by rw [hju]; exact h2⟩
      · exact .inl ⟨by omega, u, ⟨j, hj, hju⟩, h2⟩

/-- a set of nodes without neighbours in it -/
def Indep (g : GR) (s : Nat) : Prop := (∀ v, s.testBit v = true → v < g.2.length) ∧ ∀ v u, s.testBit v = true → s.testBit u = true → ¬ Adj g v u

theorem all_eq {g : GR} (hV : VG g) : m_graph_All 1000 g = some ((2 ^ g.2.length - 1 : Nat) : Int) := by
  have h24 := hV.n24
  have hl := hV.len
  have hp := pow32 (show g.2.length < 32 by omega)
  have hpos : 1 ≤ 2 ^ g.2.length := Nat.one_le_two_pow
  unfold m_graph_All
  rw [ckT (by omega), hl, bShl1 (by omega), show ((2 ^ g.2.length : Nat) : Int) - 1 = ((2 ^ g.2.length - 1 : Nat) : Int) by omega]
  congr 1
  exact if_pos ⟨by omega, by omega⟩

theorem independent_eq {g : GR} (hV : VG g) {s : Nat} (hs : s < 4294967296) : (Indep g s → m_graph_Independent 1000 g (s : Int) = some true) ∧ (¬ Indep g s → m_graph_Independent 1000 g (s : Int) = some false) := by
  have h24 := hV.n24
  have hp := pow32 (show g.2.length < 32 by omega)
  unfold m_graph_Independent graph_Independent_k1
  rw [(valid_eq g hV.light).1 hV, bindS rfl, if_pos rfl, all_eq hV, bindS rfl]
  have hall : bAndNot .u32 (s : Int) ((2 ^ g.2.length - 1 : Nat) : Int) = 0 ↔ ∀ v, s.testBit v = true → v < g.2.length := by
    rw [bAndNot0, N32_nat hs, N32_nat (by omega)]
    constructor
    · intro h v hv
      have := h v hv
      rw [Nat.testBit_two_pow_sub_one] at this
      exact of_decide_eq_true this
    · intro h v hv
      rw [Nat.testBit_two_pow_sub_one]
      exact decide_eq_true (h v hv)
  by_cases h1 : ∀ v, s.testBit v = true → v < g.2.length
  rotate_left
  · rw [if_neg (fun h => h1 (hall.1 h))]
    exact ⟨fun h => absurd h.1 h1, fun _ => rfl⟩
  rw [if_pos (hall.2 h1)]
  obtain ⟨_, hr, m, rfl, hm32, hb⟩ := around_ok hV hs
  rw [hr, bindS rfl, bAnd_eq, N32_nat hm32, N32_nat hs]
  have hiff : (((m &&& s : Nat) : Int) = 0) ↔ ∀ v u, s.testBit v = true → s.testBit u = true → ¬ Adj g v u := by
    constructor
    · intro h v u hv hu ha
      have h0 : m &&& s = 0 := by omega
      have : (m &&& s).testBit v = true := by
        rw [Nat.testBit_and, hv, (hb v).2 ⟨h1 v hv, u, ha, hu⟩]; rfl
      rw [h0, Nat.zero_testBit] at this
      cases this
    · intro h
      have : m &&& s = 0 := by
        apply Nat.eq_of_testBit_eq
        intro v
        rw [Nat.testBit_and, Nat.zero_testBit]
        cases hv : s.testBit v with
        | false => simp
        | true =>
          cases hmv : m.testBit v with
          | false => rfl
          | true =>
            obtain ⟨_, u, ha, hu⟩ := (hb v).1 hmv
            exact absurd ha (h v u hv hu)
      omega
  by_cases h2 : ∀ v u, s.testBit v = true → s.testBit u = true → ¬ Adj g v u
  · rw [decide_eq_true (hiff.2 h2)]
    exact ⟨fun _ => rfl, fun h => absurd ⟨h1, h2⟩ h⟩
  · rw [decide_eq_false (fun h => h2 (hiff.1 h))]
    exact ⟨fun h => absurd h.2 h2, fun _ => rfl⟩

theorem wU64 {k : Nat} (hk : k < 32) : wI .u64 (k : Int) = k := by
  show IntKind.u64.wrap (k : Int) = k
  have : ∀ j : Fin 32, IntKind.u64.wrap ((j.1 : Nat) : Int) = (j.1 : Nat) := by decide
  exact this ⟨k, hk⟩

theorem has_eq {s v : Nat} (hs : s < 4294967296) (hv : v < 32) : m_ref01_Has 1000 (s : Int) (v : Int) = some (s.testBit v) := by
  unfold m_ref01_Has ref01_Has_k1
  rw [if_pos (by omega), if_pos (by omega), wU64 hv, ckT (by omega)]
  congr 1
  by_cases h : s.testBit v = true
  · rw [h]; exact decide_eq_true ((hasBit hv hs).2 h)
  · rw [Bool.not_eq_true] at h
    rw [h]; exact decide_eq_false fun h2 => by rw [(hasBit hv hs).1 h2] at h; cases h

theorem refAll_ok {n : Nat} (hn : n ≤ 24) : OK (fun r : Int => ∃ m : Nat, r = m ∧ m < 4294967296 ∧ ∀ v, m.testBit v = true ↔ v < n) (m_ref01_All 1000 (n : Int)) := by
  unfold m_ref01_All
  refine iter_ok (fun z : Int × Int => ∃ k : Nat, z.2 = k ∧ k ≤ n ∧ ∃ m : Nat, z.1 = m ∧ m < 4294967296 ∧ ∀ v, m.testBit v = true ↔ v < k) (fun z => 31 - z.2.toNat) ?_ 1000 _ ⟨0, rfl, by omega, 0, rfl, by omega, fun v => by simp⟩ (by simp)
  rintro ⟨a, z⟩ ag ⟨k, hz, hk, m, hm, hm32, hb⟩ hag
  dsimp only at hz hm
  subst hz hm
  unfold ref01_All_s1 ref01_All_k2 ref01_All_k1
  dsimp only
  by_cases hlt : k < n
  · rw [if_pos (by omega), if_pos (by rw [decide_eq_true_eq]; omega), wU64 (by omega), ckT (by omega), bShl1 (by omega), bOr_eq, N32_nat hm32, N32_nat (pow32 (by omega)), wr (by omega) (by omega)]
    refine hag _ ⟨k + 1, by simp, by omega, _, rfl, Nat.or_lt_two_pow (n := 32) hm32 (pow32 (by omega)), fun v => ?_⟩ (by dsimp only; omega)
    rw [Nat.testBit_or, Nat.testBit_two_pow, Bool.or_eq_true, hb v, decide_eq_true_eq]
    omega
  · rw [if_neg (by omega), if_neg (by simp)]
    have : k = n := by omega
    subst this
    exact ⟨_, rfl, m, rfl, hm32, hb⟩

theorem parts_pure (g : GR) (p q : Int) : m_law01_GraphIndependentParts 1000 g p q = some true := by
  unfold m_law01_GraphIndependentParts
  by_cases hV : VG g
  rotate_left
  · rw [(fair_eq g).2 hV, bindS rfl, if_pos (show (!false) = true from rfl), awake01]; rfl
  have h24 := hV.n24
  obtain ⟨_, hall, a, rfl, ha32, hab⟩ := refAll_ok h24
  rw [(fair_eq g).1 hV, bindS rfl, if_neg (by simp), hall, bindS rfl]
  have hs32 : (N32 p &&& a) < 4294967296 := Nat.lt_of_le_of_lt Nat.and_le_left (N32_lt p)
  have hse : bAnd .u32 p (a : Int) = ((N32 p &&& a : Nat) : Int) := by rw [bAnd_eq, N32_nat ha32]
  have hsub : ∀ v, (N32 p &&& a).testBit v = true → v < g.2.length := fun v hv => by
    rw [Nat.testBit_and, Bool.and_eq_true] at hv
    exact (hab v).1 hv.2
  have loop : ∀ b : Bool, (b = true ↔ Indep g (N32 p &&& a)) → law01_GraphIndependentParts_k1 1000 g p (a : Int) b false = some true := by
    intro b hbI
    unfold law01_GraphIndependentParts_k1
    rw [if_neg (by simp)]
    refine iter_eq (fun z : Bool × Int => ∃ k : Nat, z.2 = k ∧ k ≤ g.2.length ∧ (z.1 = true ↔ ∃ v u, v < k ∧ (N32 p &&& a).testBit v = true ∧ (N32 p &&& a).testBit u = true ∧ Adj g v u)) (fun z => 31 - z.2.toNat) ?_ 1000 _ ⟨0, rfl, by omega, ⟨fun h => (by cases h), fun ⟨v, u, h, _⟩ => absurd h (by omega)⟩⟩ (by simp)
    rintro ⟨f, z⟩ ag ⟨k, hz, hk, hf⟩ hag
    dsimp only at hz hf
    subst hz
    unfold law01_GraphIndependentParts_s1
    dsimp only
    by_cases hlt : k < g.2.length
    rotate_left
    · rw [if_neg (by omega)]
      unfold law01_GraphIndependentParts_k2 law01_GraphIndependentParts_k3
      rw [awake01, bindS rfl, if_pos rfl]
      have hkn : k = g.2.length := by omega
      have : b = !f := by
        by_cases hI : Indep g (N32 p &&& a)
        · rw [hbI.2 hI]
          cases f with
          | false => rfl
          | true =>
            obtain ⟨v, u, _, h1, h2, h3⟩ := hf.1 rfl
            exact absurd h3 (hI.2 v u h1 h2)
        · have hb : b = false := by
            cases b with
            | false => rfl
            | true => exact absurd (hbI.1 rfl) hI
          have hft : f = true := by
            apply hf.2
            apply Classical.byContradiction
            intro hc
            exact hI ⟨hsub, fun v u h1 h2 h3 => hc ⟨v, u, by have := hsub v h1; omega, h1, h2, h3⟩⟩
          rw [hb, hft]; rfl
      rw [this]; simp
    have hdeg := (hV.node k hlt).deg
    rw [if_pos (by omega)]
    refine iter_eq (fun z : Bool × Int => ∃ i : Nat, z.2 = i ∧ i ≤ (row g k).length ∧ (z.1 = true ↔ (∃ v u, v < k ∧ (N32 p &&& a).testBit v = true ∧ (N32 p &&& a).testBit u = true ∧ Adj g v u) ∨ ((N32 p &&& a).testBit k = true ∧ ∃ j, j < i ∧ (N32 p &&& a).testBit (lnk (row g k) j).1.toNat = true))) (fun z => 31 - z.2.toNat) ?_ 1000 _ ⟨0, rfl, by omega, by
      dsimp only
      rw [hf]
      exact ⟨.inl, fun h => h.elim id fun ⟨_, j, hj, _⟩ => absurd hj (by omega)⟩⟩ (by simp)
    rintro ⟨f2, z⟩ ag2 ⟨i, hz, hi, hf2⟩ hag2
    dsimp only at hz hf2
    subst hz
    unfold law01_GraphIndependentParts_s2
    dsimp only
    rw [ckT (by omega)]
    by_cases hil : i < (row g k).length
    · obtain ⟨u, hu, hue, hadj⟩ := hV.port hlt hil
      rw [if_pos (show (i : Int) < ((row g k).length : Int) by omega)]
      unfold law01_GraphIndependentParts_k5
      dsimp only
      rw [wr (by omega) (by omega)]
      by_cases hft : f2 = true
      · rw [if_pos hft]
        refine hag2 _ ⟨i + 1, by simp, by omega, ⟨fun _ => ?_, fun _ => rfl⟩⟩ (by dsimp only; omega)
        rcases hf2.1 hft with h | ⟨h1, j, hj, h2⟩
        · exact .inl h
        · exact .inr ⟨h1, j, by omega, h2⟩
      · rw [if_neg hft, hse, has_eq hs32 (by omega), bindS rfl]
        have hno : ¬ ((∃ v u, v < k ∧ (N32 p &&& a).testBit v = true ∧ (N32 p &&& a).testBit u = true ∧ Adj g v u) ∨ ((N32 p &&& a).testBit k = true ∧ ∃ j, j < i ∧ (N32 p &&& a).testBit (lnk (row g k) j).1.toNat = true)) := fun h => hft (hf2.2 h)
        by_cases hkb : (N32 p &&& a).testBit k = true
        · rw [if_pos hkb, ckT (by omega), ckT (show 0 ≤ (i : Int) ∧ (i : Int) < ((row g k).length : Int) by omega), show at' (at' g.2 (k : Int)) (i : Int) = lnk (row g k) i from rfl, hue, has_eq hs32 (by omega), bindS rfl]
          refine hag2 _ ⟨i + 1, by simp, by omega, ⟨fun h => .inr ⟨hkb, i, by omega, by rw [hue]; exact h⟩, ?_⟩⟩ (by dsimp only; omega)
          rintro (h | ⟨h1, j, hj, h2⟩)
          · exact absurd (.inl h) hno
          · by_cases hji : j = i
            · subst hji; rw [hue] at h2; exact h2
            · exact absurd (.inr ⟨h1, j, by omega, h2⟩) hno
        · rw [if_neg hkb]
          refine hag2 _ ⟨i + 1, by simp, by omega, ⟨fun h => (by cases h), ?_⟩⟩ (by dsimp only; omega)
          rintro (h | ⟨h1, _⟩)
          · exact absurd (.inl h) hno
          · exact absurd h1 hkb
    · rw [if_neg (show ¬ (i : Int) < ((row g k).length : Int) by omega)]
      unfold law01_GraphIndependentParts_k4
      dsimp only
      rw [wr (by omega) (by omega)]
      refine hag _ ⟨k + 1, by simp, by omega, ?_⟩ (by dsimp only; omega)
      dsimp only
      rw [hf2]
      constructor
      · rintro (⟨v, u, h1, h2⟩ | ⟨h1, j, hj, h2⟩)
        · exact ⟨v, u, by omega, h2⟩
        · obtain ⟨u, hu, hue, hadj⟩ := hV.port hlt (show j < (row g k).length by omega)
          rw [hue] at h2
          exact ⟨k, u, by omega, h1, h2, hadj⟩
      · rintro ⟨v, u, h1, h2, h3, h4⟩
        by_cases hvk : v = k
        · subst hvk
          obtain ⟨j, hj, hju⟩ := h4
          exact .inr ⟨h2, j, by omega, by rw [hju]; exact h3⟩
        · exact .inl ⟨v, u, by omega, h2, h3, h4⟩
  rw [hse]
  by_cases hI : Indep g (N32 p &&& a)
  · have hI2 : Indep g ((N32 p &&& a) &&& N32 q) := by
      have hsu : ∀ v, ((N32 p &&& a) &&& N32 q).testBit v = true → (N32 p &&& a).testBit v = true := fun v hv => by
        rw [Nat.testBit_and, Bool.and_eq_true] at hv; exact hv.1
      exact ⟨fun v hv => hI.1 v (hsu v hv), fun v u hv hu => hI.2 v u (hsu v hv) (hsu u hu)⟩
    rw [(independent_eq hV hs32).1 hI, bindS rfl, if_pos rfl, bAnd_eq, N32_nat hs32, (independent_eq hV (Nat.lt_of_le_of_lt Nat.and_le_left hs32)).1 hI2, bindS rfl]
    exact loop true ⟨fun _ => hI, fun _ => rfl⟩
  · rw [(independent_eq hV hs32).2 hI, bindS rfl, if_neg (by simp)]
    exact loop false ⟨fun h => (by cases h), fun h => absurd h hI⟩
end Go.Proofs.Ytemhmmcakmidkaa
