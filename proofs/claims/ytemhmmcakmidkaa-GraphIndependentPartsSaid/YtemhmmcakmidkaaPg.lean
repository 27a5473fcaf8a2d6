/- Graphs: what is valid, and that the reference's Valid says just that. Conditions: at most 30 nodes with 30 ports. -/
import Derived.Test.YtemhmmcakmidkaaPu
import Derived.Test.YtemhmmcakmidkaaX51
namespace Go.Proofs.Ytemhmmcakmidkaa
open Go.Sx

/-- a loop that goes through 0 .. N - 1 and stops with 'bad' at the first number without a property -/
theorem iter_if {R : Type} {step : Int → (Int → Option R) → Option R} {K : Option R} {bad : R} (N : Nat) (p : Nat → Prop)
    (hok : ∀ (k : Nat) ag, k < N → p k → step k ag = ag ((k : Int) + 1)) (hbad : ∀ (k : Nat) ag, k < N → ¬ p k → step k ag = some bad) (hend : ∀ ag, step N ag = K) :
    ∀ (fuel : Nat), N < fuel → ((∀ k, k < N → p k) → iter step fuel 0 = K) ∧ (¬ (∀ k, k < N → p k) → iter step fuel 0 = some bad) := by
  intro fuel hf
  have key : ∀ (d a fuel : Nat), a + d = N → d < fuel → ((∀ k, a ≤ k → k < N → p k) → iter step fuel (a : Int) = K) ∧ (¬ (∀ k, a ≤ k → k < N → p k) → iter step fuel (a : Int) = some bad) := by
    intro d
    induction d with
    | zero =>
      intro a fuel ha hf
      obtain rfl : a = N := by omega
      cases fuel with
      | zero => omega
      | succ f => exact ⟨fun _ => hend _, fun h => absurd (fun k h1 h2 => by omega) h⟩
    | succ d ih =>
      intro a fuel ha hf
      cases fuel with
      | zero => omega
      | succ f =>
        obtain ⟨i1, i2⟩ := ih (a + 1) f (by omega) (by omega)
        have e : ((a + 1 : Nat) : Int) = (a : Int) + 1 := by omega
        rw [e] at i1 i2
        by_cases hp : p a
        · have hs : iter step (f + 1) (a : Int) = iter step f ((a : Int) + 1) := hok a _ (by omega) hp
          rw [hs]
          refine ⟨fun h => i1 fun k h1 h2 => h k (by omega) h2, fun h => i2 fun h' => h fun k h1 h2 => ?_⟩
          by_cases hk : k = a
          · subst hk; exact hp
          · exact h' k (by omega) h2
        · exact ⟨fun h => absurd (h a (Nat.le_refl _) (by omega)) hp, fun _ => hbad a _ (by omega) hp⟩
  obtain ⟨h1, h2⟩ := key N 0 fuel (by omega) hf
  exact ⟨fun h => h1 fun k _ hk => h k hk, fun h => h2 fun h' => h fun k hk => h' k (by omega) hk⟩

abbrev GR := List Int × List (List (Int × Int))

theorem refIn_eq (fuel : Nat) (v lo hi : Int) : m_ref01_In fuel v lo hi = some (decide (lo ≤ v ∧ v ≤ hi)) := by
  unfold m_ref01_In ref01_In_k1
  by_cases h : lo ≤ v
  · rw [if_pos h]; congr 1; exact decide_eq_decide.2 ⟨fun h2 => ⟨h, h2⟩, fun h2 => h2.2⟩
  · rw [if_neg h, decide_eq_false (fun h2 => h h2.1)]

/-- the links of a node, its degree, its identifier -/
abbrev row (g : GR) (v : Nat) : List (Int × Int) := at' g.2 (v : Int)
abbrev idOf (g : GR) (v : Nat) : Int := at' g.1 (v : Int)
abbrev lnk (l : List (Int × Int)) (i : Nat) : Int × Int := at' l (i : Int)

def light (g : GR) : Prop := g.1.length ≤ 30 ∧ g.2.length ≤ 30 ∧ ∀ v, v < g.2.length → (row g v).length ≤ 30

/-- link i of the list is possible at node v of n -/
def LinkOk (l : List (Int × Int)) (v n i : Nat) : Prop := (0 ≤ (lnk l i).1 ∧ (lnk l i).1 ≤ (n : Int) - 1) ∧ (lnk l i).1 ≠ v ∧ (1 ≤ (lnk l i).2 ∧ (lnk l i).2 ≤ 15) ∧ ∀ k, k < i → (lnk l k).1 ≠ (lnk l i).1

def LinksOk (l : List (Int × Int)) (v n : Nat) : Prop := ∀ i, i < l.length → LinkOk l v n i

theorem linksValid_eq (l : List (Int × Int)) (v n : Nat) (hl : l.length ≤ 30) (hn : n ≤ 30) : (LinksOk l v n → m_ref01_linksValid 1000 l v n = some true) ∧ (¬ LinksOk l v n → m_ref01_linksValid 1000 l v n = some false) := by
  unfold m_ref01_linksValid
  have inner : ∀ (i : Nat) (ag : Int → Option Bool), i < l.length → ((∀ k, k < i → (lnk l k).1 ≠ (lnk l i).1) → iter (ref01_linksValid_s2 l i ag) 1000 0 = ag ((i : Int) + 1)) ∧ (¬ (∀ k, k < i → (lnk l k).1 ≠ (lnk l i).1) → iter (ref01_linksValid_s2 l i ag) 1000 0 = some false) := by
    intro i ag hi
    refine iter_if i _ (fun k ag2 hk hp => ?_) (fun k ag2 hk hp => ?_) (fun ag2 => ?_) 1000 (by omega)
    · unfold ref01_linksValid_s2
      rw [if_pos (by omega), ckT (by omega), ckT (by omega), if_neg hp, wr (by omega) (by omega)]
    · unfold ref01_linksValid_s2
      rw [if_pos (by omega), ckT (by omega), ckT (by omega), if_pos (Decidable.not_not.1 hp)]
    · unfold ref01_linksValid_s2 ref01_linksValid_k2
      rw [if_neg (by omega), wr (by omega) (by omega)]
  refine iter_if l.length (LinkOk l v n) (fun i ag hi hp => ?_) (fun i ag hi hp => ?_) (fun ag => ?_) 1000 (by omega)
  · obtain ⟨h1, h2, h3, h4⟩ := hp
    unfold ref01_linksValid_s1 ref01_linksValid_k3
    rw [if_pos (by omega), ckT (by omega), wr (x := (n : Int) - 1) (by omega) (by omega), refIn_eq, decide_eq_true h1, bindS rfl, if_neg (by simp), ckT (by omega), if_neg h2, ckT (by omega), refIn_eq, decide_eq_true h3, bindS rfl, if_neg (by simp)]
    exact (inner i ag hi).1 h4
  · unfold ref01_linksValid_s1 ref01_linksValid_k3
    rw [if_pos (by omega), ckT (by omega), wr (x := (n : Int) - 1) (by omega) (by omega), refIn_eq]
    by_cases h1 : 0 ≤ (lnk l i).1 ∧ (lnk l i).1 ≤ (n : Int) - 1
    · rw [decide_eq_true h1, bindS rfl, if_neg (by simp), ckT (by omega)]
      by_cases h2 : (lnk l i).1 = v
      · rw [if_pos h2]; rfl
      · rw [if_neg h2, ckT (by omega), refIn_eq]
        by_cases h3 : 1 ≤ (lnk l i).2 ∧ (lnk l i).2 ≤ 15
        · rw [decide_eq_true h3, bindS rfl, if_neg (by simp)]
          exact (inner i ag hi).2 fun h4 => hp ⟨h1, h2, h3, h4⟩
        · rw [decide_eq_false h3]; rfl
    · rw [decide_eq_false h1]; rfl
  · unfold ref01_linksValid_s1 ref01_linksValid_k1
    rw [if_neg (by omega)]

/-- the first port of a list that leads to u -/
def portOf (l : List (Int × Int)) (u : Int) : Int := match l.findIdx? (fun x => decide (x.1 = u)) with
  | some i => i
  | none => -1

theorem portOf_some {l : List (Int × Int)} {u : Int} (i : Nat) (hi : i < l.length) (hu : (lnk l i).1 = u) (hf : ∀ k, k < i → (lnk l k).1 ≠ u) : portOf l u = i := by
  have : l.findIdx? (fun x => decide (x.1 = u)) = some i := by
    rw [List.findIdx?_eq_some_iff_getElem]
    have e : ∀ k (hk : k < l.length), lnk l k = l[k] := fun k hk => by rw [lnk, at'_nat, List.getD_eq_getElem?_getD, List.getElem?_eq_getElem hk]; rfl
    refine ⟨hi, by rw [← e i hi]; simpa using hu, fun k hk => ?_⟩
    have := hf k hk
    rw [e k (by omega)] at this
    simpa using this
  rw [portOf, this]
theorem portOf_none {l : List (Int × Int)} {u : Int} (hf : ∀ k, k < l.length → (lnk l k).1 ≠ u) : portOf l u = -1 := by
  have : l.findIdx? (fun x => decide (x.1 = u)) = none := by
    rw [List.findIdx?_eq_none_iff]
    intro x hx
    obtain ⟨k, hk, rfl⟩ := List.getElem_of_mem hx
    have := hf k hk
    rw [lnk, at'_nat, List.getD_eq_getElem?_getD, List.getElem?_eq_getElem hk] at this
    simpa using this
  rw [portOf, this]

/-- the port, or -1 and none -/
theorem portOf_cases (l : List (Int × Int)) (u : Int) : (∃ i, i < l.length ∧ (lnk l i).1 = u ∧ (∀ k, k < i → (lnk l k).1 ≠ u) ∧ portOf l u = i) ∨ ((∀ k, k < l.length → (lnk l k).1 ≠ u) ∧ portOf l u = -1) := by
  by_cases h : ∀ k, k < l.length → (lnk l k).1 ≠ u
  · exact .inr ⟨h, portOf_none h⟩
  · left
    have hex : ∃ k, k < l.length ∧ (lnk l k).1 = u := by
      apply Classical.byContradiction
      intro hc
      exact h fun k hk he => hc ⟨k, hk, he⟩
    obtain ⟨k, hk, hku⟩ := hex
    have : ∀ m, (∃ k, k ≤ m ∧ k < l.length ∧ (lnk l k).1 = u) → ∃ i, i < l.length ∧ (lnk l i).1 = u ∧ ∀ k, k < i → (lnk l k).1 ≠ u := by
      intro m
      induction m with
      | zero => rintro ⟨k, h1, h2, h3⟩; exact ⟨k, h2, h3, fun j hj => by omega⟩
      | succ m ih =>
        rintro ⟨k, h1, h2, h3⟩
        by_cases hlt : ∃ j, j ≤ m ∧ j < l.length ∧ (lnk l j).1 = u
        · exact ih hlt
        · exact ⟨k, h2, h3, fun j hj he => hlt ⟨j, by omega, by omega, he⟩⟩
    obtain ⟨i, h1, h2, h3⟩ := this k ⟨k, Nat.le_refl _, hk, hku⟩
    exact ⟨i, h1, h2, h3, portOf_some i h1 h2 h3⟩

theorem refPort_eq (g : GR) (v : Nat) (u : Int) (hv : v < g.2.length) (hl : (row g v).length ≤ 30) : m_ref01_Port 1000 g v u = some (portOf (row g v) u) := by
  unfold m_ref01_Port
  rcases portOf_cases (row g v) u with ⟨i, hi, hu, hf, he⟩ | ⟨hf, he⟩
  · rw [he]
    refine iter_eq (fun x : Int => ∃ k : Nat, x = k ∧ k ≤ i) (fun x => 31 - x.toNat) ?_ 1000 _ ⟨0, rfl, by omega⟩ (by omega)
    rintro x ag ⟨k, rfl, hk⟩ hag
    unfold ref01_Port_s1
    rw [ckT (by omega), if_pos (show (k : Int) < ((row g v).length : Int) by omega), ckT (by omega), ckT (show 0 ≤ (k : Int) ∧ (k : Int) < ((row g v).length : Int) by omega)]
    by_cases e : k = i
    · subst e; exact if_pos hu
    · rw [if_neg (hf k (by omega)), wr (by omega) (by omega)]
      exact hag _ ⟨k + 1, by omega, by omega⟩ (by omega)
  · rw [he]
    refine iter_eq (fun x : Int => ∃ k : Nat, x = k ∧ k ≤ (row g v).length) (fun x => 31 - x.toNat) ?_ 1000 _ ⟨0, rfl, by omega⟩ (by omega)
    rintro x ag ⟨k, rfl, hk⟩ hag
    unfold ref01_Port_s1
    rw [ckT (by omega)]
    by_cases e : k < (row g v).length
    · rw [if_pos (show (k : Int) < ((row g v).length : Int) by omega), ckT (by omega), ckT (show 0 ≤ (k : Int) ∧ (k : Int) < ((row g v).length : Int) by omega), if_neg (hf k e), wr (by omega) (by omega)]
      exact hag _ ⟨k + 1, by omega, by omega⟩ (by omega)
    · rw [if_neg (show ¬ (k : Int) < ((row g v).length : Int) by omega)]; rfl
end Go.Proofs.Ytemhmmcakmidkaa
