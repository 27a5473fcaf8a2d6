/- Plain laws in one text: Pg, Ph, Pi, Pj, Pm, Pn, Po, Pq, Ps, Pt, Pr, Pw. Conditions: none. -/
import Derived.Test.YtemhmmcakmidkaaPu
import Derived.Test.YtemhmmcakmidkaaX51
import Derived.Test.YtemhmmcakmidkaaX46
import Derived.Test.YtemhmmcakmidkaaX64
import Derived.Test.YtemhmmcakmidkaaX81
import Derived.Test.YtemhmmcakmidkaaX4
import Derived.KernelRfl
import Derived.Test.YtemhmmcakmidkaaX5
import Derived.Test.YtemhmmcakmidkaaX6
import Derived.Test.YtemhmmcakmidkaaX8
import Derived.Test.YtemhmmcakmidkaaX7
import Derived.Test.YtemhmmcakmidkaaMb
section
namespace Go.Proofs.Ytemhmmcakmidkaa
open Go.Sx

/-- a loop that goes through 0 .. N - 1 and stops with 'bad' at the first number without a property -/
theorem iter_if {R : Type} {step : Int → (Int → Option R) → Option R} {K : Option R} {bad : R} (N : Nat) (p : Nat → Prop)
    (hok : ∀ (k : Nat) ag, k < N → p k → step k ag = ag ((k : Int) + 1)) (hbad : ∀ (k : Nat) ag, k < N → ¬ p k → step k ag = some bad) (hend : ∀ ag, step N ag = K) :
    ∀ (fuel : Nat), N < fuel → ((∀ k, k < N → p k) → iter step fuel 0 = K) ∧ (¬ (∀ k, k < N → p k) → iter step fuel 0 = some bad) := by
  intro fuel hf
  have key : ∀ (d a fuel : Nat), a + d = N → d < fuel → ((∀ k, a ≤ k → k < N → p k) → iter step fuel (a : Int) = K) ∧ (¬ (∀ k, a ≤ k → k < N → p k) → iter step fuel (a : Int) = some bad) := by
    intro d
    induction d with
    | zero =>
      intro a fuel ha hf
      obtain rfl : a = N := by omega
      cases fuel with
      | zero => omega
      | succ f => exact ⟨fun _ => hend _, fun h => absurd (fun k h1 h2 => by omega) h⟩
    | succ d ih =>
      intro a fuel ha hf
      cases fuel with
      | zero => omega
      | succ f =>
        obtain ⟨i1, i2⟩ := ih (a + 1) f (by omega) (by omega)
        have e : ((a + 1 : Nat) : Int) = (a : Int) + 1 := by omega
        rw [e] at i1 i2
        by_cases hp : p a
        · have hs : iter step (f + 1) (a : Int) = iter step f ((a : Int) + 1) := hok a _ (by omega) hp
          rw [hs]
          refine ⟨fun h => i1 fun k h1 h2 => h k (by omega) h2, fun h => i2 fun h' => h fun k h1 h2 => ?_⟩
          by_cases hk : k = a
          · subst hk; exact hp
          · exact h' k (by omega) h2
        · exact ⟨fun h => absurd (h a (Nat.le_refl _) (by omega)) hp, fun _ => hbad a _ (by omega) hp⟩
  obtain ⟨h1, h2⟩ := key N 0 fuel (by omega) hf
  exact ⟨fun h => h1 fun k _ hk => h k hk, fun h => h2 fun h' => h fun k hk => h' k (by omega) hk⟩

abbrev GR := List Int × List (List (Int × Int))

theorem refIn_eq (fuel : Nat) (v lo hi : Int) : m_ref01_In fuel v lo hi = some (decide (lo ≤ v ∧ v ≤ hi)) := by
  unfold m_ref01_In ref01_In_k1
  by_cases h : lo ≤ v
  · rw [if_pos h]; congr 1; exact decide_eq_decide.2 ⟨fun h2 => ⟨h, h2⟩, fun h2 => h2.2⟩
  · rw [if_neg h, decide_eq_false (fun h2 => h h2.1)]

/-- the links of a node, its degree, its identifier -/
abbrev row (g : GR) (v : Nat) : List (Int × Int) := at' g.2 (v : Int)
abbrev idOf (g : GR) (v : Nat) : Int := at' g.1 (v : Int)
abbrev lnk (l : List (Int × Int)) (i : Nat) : Int × Int := at' l (i : Int)

def light (g : GR) : Prop := g.1.length ≤ 30 ∧ g.2.length ≤ 30 ∧ ∀ v, v < g.2.length → (row g v).length ≤ 30

/-- link i of the list is possible at node v of n -/
def LinkOk (l : List (Int × Int)) (v n i : Nat) : Prop := (0 ≤ (lnk l i).1 ∧ (lnk l i).1 ≤ (n : Int) - 1) ∧ (lnk l i).1 ≠ v ∧ (1 ≤ (lnk l i).2 ∧ (lnk l i).2 ≤ 15) ∧ ∀ k, k < i → (lnk l k).1 ≠ (lnk l i).1

def LinksOk (l : List (Int × Int)) (v n : Nat) : Prop := ∀ i, i < l.length → LinkOk l v n i

theorem linksValid_eq (l : List (Int × Int)) (v n : Nat) (hl : l.length ≤ 30) (hn : n ≤ 30) : (LinksOk l v n → m_ref01_linksValid 1000 l v n = some true) ∧ (¬ LinksOk l v n → m_ref01_linksValid 1000 l v n = some false) := by
  unfold m_ref01_linksValid
  have inner : ∀ (i : Nat) (ag : Int → Option Bool), i < l.length → ((∀ k, k < i → (lnk l k).1 ≠ (lnk l i).1) → iter (ref01_linksValid_s2 l i ag) 1000 0 = ag ((i : Int) + 1)) ∧ (¬ (∀ k, k < i → (lnk l k).1 ≠ (lnk l i).1) → iter (ref01_linksValid_s2 l i ag) 1000 0 = some false) := by
    intro i ag hi
    refine iter_if i _ (fun k ag2 hk hp => ?_) (fun k ag2 hk hp => ?_) (fun ag2 => ?_) 1000 (by omega)
    · unfold ref01_linksValid_s2
      rw [if_pos (by omega), ckT (by omega), ckT (by omega), if_neg hp, wr (by omega) (by omega)]
    · unfold ref01_linksValid_s2
      rw [if_pos (by omega), ckT (by omega), ckT (by omega), if_pos (Decidable.not_not.1 hp)]
    · unfold ref01_linksValid_s2 ref01_linksValid_k2
      rw [if_neg (by omega), wr (by omega) (by omega)]
  refine iter_if l.length (LinkOk l v n) (fun i ag hi hp => ?_) (fun i ag hi hp => ?_) (fun ag => ?_) 1000 (by omega)
  · obtain ⟨h1, h2, h3, h4⟩ := hp
    unfold ref01_linksValid_s1 ref01_linksValid_k3
    rw [if_pos (by omega), ckT (by omega), wr (x := (n : Int) - 1) (by omega) (by omega), refIn_eq, decide_eq_true h1, bindS rfl, if_neg (by simp), ckT (by omega), if_neg h2, ckT (by omega), refIn_eq, decide_eq_true h3, bindS rfl, if_neg (by simp)]
    exact (inner i ag hi).1 h4
  · unfold ref01_linksValid_s1 ref01_linksValid_k3
    rw [if_pos (by omega), ckT (by omega), wr (x := (n : Int) - 1) (by omega) (by omega), refIn_eq]
    by_cases h1 : 0 ≤ (lnk l i).1 ∧ (lnk l i).1 ≤ (n : Int) - 1
    · rw [decide_eq_true h1, bindS rfl, if_neg (by simp), ckT (by omega)]
      by_cases h2 : (lnk l i).1 = v
      · rw [if_pos h2]; rfl
      · rw [if_neg h2, ckT (by omega), refIn_eq]
        by_cases h3 : 1 ≤ (lnk l i).2 ∧ (lnk l i).2 ≤ 15
        · rw [decide_eq_true h3, bindS rfl, if_neg (by simp)]
          exact (inner i ag hi).2 fun h4 => hp ⟨h1, h2, h3, h4⟩
        · rw [decide_eq_false h3]; rfl
    · rw [decide_eq_false h1]; rfl
  · unfold ref01_linksValid_s1 ref01_linksValid_k1
    rw [if_neg (by omega)]

/-- the first port of a list that leads to u -/
def portOf (l : List (Int × Int)) (u : Int) : Int := match l.findIdx? (fun x => decide (x.1 = u)) with
  | some i => i
  | none => -1

theorem portOf_some {l : List (Int × Int)} {u : Int} (i : Nat) (hi : i < l.length) (hu : (lnk l i).1 = u) (hf : ∀ k, k < i → (lnk l k).1 ≠ u) : portOf l u = i := by
  have : l.findIdx? (fun x => decide (x.1 = u)) = some i := by
    rw [List.findIdx?_eq_some_iff_getElem]
    have e : ∀ k (hk : k < l.length), lnk l k = l[k] := fun k hk => by rw [lnk, at'_nat, List.getD_eq_getElem?_getD, List.getElem?_eq_getElem hk]; rfl
    refine ⟨hi, by rw [← e i hi]; simpa using hu, fun k hk => ?_⟩
    have := hf k hk
    rw [e k (by omega)] at this
    simpa using this
  rw [portOf, this]
theorem portOf_none {l : List (Int × Int)} {u : Int} (hf : ∀ k, k < l.length → (lnk l k).1 ≠ u) : portOf l u = -1 := by
  have : l.findIdx? (fun x => decide (x.1 = u)) = none := by
    rw [List.findIdx?_eq_none_iff]
    intro x hx
    obtain ⟨k, hk, rfl⟩ := List.getElem_of_mem hx
    have := hf k hk
    rw [lnk, at'_nat, List.getD_eq_getElem?_getD, List.getElem?_eq_getElem hk] at this
    simpa using this
  rw [portOf, this]

/-- the port, or -1 and none -/
theorem portOf_cases (l : List (Int × Int)) (u : Int) : (∃ i, i < l.length ∧ (lnk l i).1 = u ∧ (∀ k, k < i → (lnk l k).1 ≠ u) ∧ portOf l u = i) ∨ ((∀ k, k < l.length → (lnk l k).1 ≠ u) ∧ portOf l u = -1) := by
  by_cases h : ∀ k, k < l.length → (lnk l k).1 ≠ u
  · exact .inr ⟨h, portOf_none h⟩
  · left
    have hex : ∃ k, k < l.length ∧ (lnk l k).1 = u := by
      apply Classical.byContradiction
      intro hc
      exact h fun k hk he => hc ⟨k, hk, he⟩
    obtain ⟨k, hk, hku⟩ := hex
    have : ∀ m, (∃ k, k ≤ m ∧ k < l.length ∧ (lnk l k).1 = u) → ∃ i, i < l.length ∧ (lnk l i).1 = u ∧ ∀ k, k < i → (lnk l k).1 ≠ u := by
      intro m
      induction m with
      | zero => rintro ⟨k, h1, h2, h3⟩; exact ⟨k, h2, h3, fun j hj => by omega⟩
      | succ m ih =>
        rintro ⟨k, h1, h2, h3⟩
        by_cases hlt : ∃ j, j ≤ m ∧ j < l.length ∧ (lnk l j).1 = u
        · exact ih hlt
        · exact ⟨k, h2, h3, fun j hj he => hlt ⟨j, by omega, by omega, he⟩⟩
    obtain ⟨i, h1, h2, h3⟩ := this k ⟨k, Nat.le_refl _, hk, hku⟩
    exact ⟨i, h1, h2, h3, portOf_some i h1 h2 h3⟩

theorem refPort_eq (g : GR) (v : Nat) (u : Int) (hv : v < g.2.length) (hl : (row g v).length ≤ 30) : m_ref01_Port 1000 g v u = some (portOf (row g v) u) := by
  unfold m_ref01_Port
  rcases portOf_cases (row g v) u with ⟨i, hi, hu, hf, he⟩ | ⟨hf, he⟩
  · rw [he]
    refine iter_eq (fun x : Int => ∃ k : Nat, x = k ∧ k ≤ i) (fun x => 31 - x.toNat) ?_ 1000 _ ⟨0, rfl, by omega⟩ (by omega)
    rintro x ag ⟨k, rfl, hk⟩ hag
    unfold ref01_Port_s1
    rw [ckT (by omega), if_pos (show (k : Int) < ((row g v).length : Int) by omega), ckT (by omega), ckT (show 0 ≤ (k : Int) ∧ (k : Int) < ((row g v).length : Int) by omega)]
    by_cases e : k = i
    · subst e; exact if_pos hu
    · rw [if_neg (hf k (by omega)), wr (by omega) (by omega)]
      exact hag _ ⟨k + 1, by omega, by omega⟩ (by omega)
  · rw [he]
    refine iter_eq (fun x : Int => ∃ k : Nat, x = k ∧ k ≤ (row g v).length) (fun x => 31 - x.toNat) ?_ 1000 _ ⟨0, rfl, by omega⟩ (by omega)
    rintro x ag ⟨k, rfl, hk⟩ hag
    unfold ref01_Port_s1
    rw [ckT (by omega)]
    by_cases e : k < (row g v).length
    · rw [if_pos (show (k : Int) < ((row g v).length : Int) by omega), ckT (by omega), ckT (show 0 ≤ (k : Int) ∧ (k : Int) < ((row g v).length : Int) by omega), if_neg (hf k e), wr (by omega) (by omega)]
      exact hag _ ⟨k + 1, by omega, by omega⟩ (by omega)
    · rw [if_neg (show ¬ (k : Int) < ((row g v).length : Int) by omega)]; rfl
end Go.Proofs.Ytemhmmcakmidkaa
end
section
namespace Go.Proofs.Ytemhmmcakmidkaa
open Go.Sx

/-- a loop with a state that stops with 'bad' at the first number without a property -/
theorem iter_ifS {X R : Type} {step : X → (X → Option R) → Option R} {K : X → Option R} {bad : R} (N : Nat) (p : Nat → Prop) (I : Nat → X → Prop)
    (hok : ∀ (k : Nat) x ag, k < N → I k x → p k → ∃ x', I (k + 1) x' ∧ step x ag = ag x') (hbad : ∀ (k : Nat) x ag, k < N → I k x → ¬ p k → step x ag = some bad) (hend : ∀ x ag, I N x → step x ag = K x) :
    ∀ (fuel : Nat) (x : X), I 0 x → N < fuel → ((∀ k, k < N → p k) → ∃ x', I N x' ∧ iter step fuel x = K x') ∧ (¬ (∀ k, k < N → p k) → iter step fuel x = some bad) := by
  intro fuel x hI hf
  have key : ∀ (d a fuel : Nat) (x : X), a + d = N → d < fuel → I a x → ((∀ k, a ≤ k → k < N → p k) → ∃ x', I N x' ∧ iter step fuel x = K x') ∧ (¬ (∀ k, a ≤ k → k < N → p k) → iter step fuel x = some bad) := by
    intro d
    induction d with
    | zero =>
      intro a fuel x ha hf hI
      obtain rfl : a = N := by omega
      cases fuel with
      | zero => omega
      | succ f => exact ⟨fun _ => ⟨x, hI, hend _ _ hI⟩, fun h => absurd (fun k h1 h2 => by omega) h⟩
    | succ d ih =>
      intro a fuel x ha hf hI
      cases fuel with
      | zero => omega
      | succ f =>
        by_cases hp : p a
        · obtain ⟨x', hI', hs⟩ := hok a x (iter step f) (by omega) hI hp
          have hs : iter step (f + 1) x = iter step f x' := hs
          obtain ⟨i1, i2⟩ := ih (a + 1) f x' (by omega) (by omega) hI'
          rw [hs]
          refine ⟨fun h => i1 fun k h1 h2 => h k (by omega) h2, fun h => i2 fun h' => h fun k h1 h2 => ?_⟩
          by_cases hk : k = a
          · subst hk; exact hp
          · exact h' k (by omega) h2
        · exact ⟨fun h => absurd (h a (Nat.le_refl _) (by omega)) hp, fun _ => hbad a x _ (by omega) hI hp⟩
  obtain ⟨h1, h2⟩ := key N 0 fuel x (by omega) hf hI
  exact ⟨fun h => h1 fun k _ hk => h k hk, fun h => h2 fun h' => h fun k hk => h' k (by omega) hk⟩

theorem light_eq (g : GR) (hn : g.2.length ≤ 900) : (light g → m_made_LightGraph 1000 g = some true) ∧ (¬ light g → m_made_LightGraph 1000 g = some false) := by
  unfold m_made_LightGraph made_LightGraph_k1
  by_cases h1 : g.1.length ≤ 30
  · rw [if_neg (by omega)]
    by_cases h2 : g.2.length ≤ 30
    · rw [decide_eq_false (by omega), if_neg (by simp)]
      have := iter_if (step := made_LightGraph_s1 g) (K := some true) (bad := false) g.2.length (fun v => (row g v).length ≤ 30) (fun k ag hk hp => ?_) (fun k ag hk hp => ?_) (fun ag => ?_) 1000 (by omega)
      · exact ⟨fun h => this.1 h.2.2, fun h => this.2 fun h3 => h ⟨h1, h2, h3⟩⟩
      · unfold made_LightGraph_s1
        rw [if_pos (by omega), ckT (by omega), if_neg (show ¬ (30 : Int) < ((row g k).length : Int) by omega), wr (by omega) (by omega)]
      · unfold made_LightGraph_s1
        rw [if_pos (by omega), ckT (by omega), if_pos (show (30 : Int) < ((row g k).length : Int) by omega)]
      · unfold made_LightGraph_s1 made_LightGraph_k2
        rw [if_neg (by omega)]
    · rw [decide_eq_true (by omega), if_pos rfl]
      exact ⟨fun h => absurd h.2.1 h2, fun _ => rfl⟩
  · rw [if_pos (by omega), if_pos rfl]
    exact ⟨fun h => absurd h.1 h1, fun _ => rfl⟩

theorem lightGraph_eq (g : GR) : (light g → m_made_LightGraph 1000 g = some true) ∧ (¬ light g → m_made_LightGraph 1000 g = some false) := by
  by_cases hn : g.2.length ≤ 900
  · exact light_eq g hn
  · refine ⟨fun h => absurd h.2.1 (by omega), fun _ => ?_⟩
    unfold m_made_LightGraph made_LightGraph_k1
    by_cases h1 : g.1.length ≤ 30
    · rw [if_neg (by omega), decide_eq_true (by omega), if_pos rfl]
    · rw [if_pos (by omega), if_pos rfl]

/-- port i of node v has its link back, with the same weight -/
def SymAt (g : GR) (v i : Nat) : Prop := ∃ j, j < (at' g.2 (lnk (row g v) i).1).length ∧ (lnk (at' g.2 (lnk (row g v) i).1) j).1 = v ∧ (lnk (at' g.2 (lnk (row g v) i).1) j).2 = (lnk (row g v) i).2

structure NodeOk (g : GR) (v : Nat) : Prop where
  id : 0 ≤ idOf g v ∧ idOf g v ≤ 255
  deg : (row g v).length < g.2.length
  links : LinksOk (row g v) v g.2.length
  ids : ∀ k, k < v → idOf g k ≠ idOf g v

structure VG (g : GR) : Prop where
  n1 : 1 ≤ g.2.length
  n24 : g.2.length ≤ 24
  len : g.1.length = g.2.length
  node : ∀ v, v < g.2.length → NodeOk g v
  sym : ∀ v, v < g.2.length → ∀ i, i < (row g v).length → SymAt g v i

theorem refValid_eq (g : GR) (hl : light g) : (VG g → m_ref01_Valid 1000 g = some true) ∧ (¬ VG g → m_ref01_Valid 1000 g = some false) := by
  obtain ⟨l1, l2, l3⟩ := hl
  unfold m_ref01_Valid
  rw [refIn_eq, bindS rfl]
  by_cases h1 : 1 ≤ g.2.length ∧ g.2.length ≤ 24
  rotate_left
  · rw [decide_eq_false (by omega)]
    exact ⟨fun h => absurd ⟨h.n1, h.n24⟩ h1, fun _ => rfl⟩
  rw [decide_eq_true (by omega), if_neg (by simp)]
  by_cases h2 : g.1.length = g.2.length
  rotate_left
  · rw [decide_eq_true (by omega)]
    exact ⟨fun h => absurd h.len h2, fun _ => rfl⟩
  rw [decide_eq_false (by omega)]
  unfold ref01_Valid_k1
  rw [if_neg (by simp)]
  have hids : ∀ (v : Nat) (ag : Int → Option Bool), v < g.2.length → ((∀ k, k < v → idOf g k ≠ idOf g v) → iter (ref01_Valid_s4 g v ag) 1000 0 = ag ((v : Int) + 1)) ∧ (¬ (∀ k, k < v → idOf g k ≠ idOf g v) → iter (ref01_Valid_s4 g v ag) 1000 0 = some false) := by
    intro v ag hv
    refine iter_if v _ (fun k ag2 hk hp => ?_) (fun k ag2 hk hp => ?_) (fun ag2 => ?_) 1000 (by omega)
    · unfold ref01_Valid_s4
      rw [if_pos (by omega), ckT (by omega), ckT (by omega), if_neg hp, wr (by omega) (by omega)]
    · unfold ref01_Valid_s4
      rw [if_pos (by omega), ckT (by omega), ckT (by omega), if_pos (Decidable.not_not.1 hp)]
    · unfold ref01_Valid_s4 ref01_Valid_k6
      rw [if_neg (by omega), wr (by omega) (by omega)]
  have outer := iter_if (step := ref01_Valid_s3 1000 g) (K := ref01_Valid_k2 1000 g ()) (bad := false) g.2.length (NodeOk g) (fun v ag hv hp => ?_) (fun v ag hv hp => ?_) (fun ag => ?_) 1000 (by omega)
  rotate_left
  · unfold ref01_Valid_s3 ref01_Valid_k7
    rw [if_pos (by omega), ckT (by omega), refIn_eq, decide_eq_true hp.id, bindS rfl, if_neg (by simp), ckT (by omega), if_neg (show ¬ ((g.2.length : Int) ≤ ((row g v).length : Int)) from by have := hp.deg; omega), ckT (by omega), (linksValid_eq (row g v) v g.2.length (l3 v hv) l2).1 hp.links, bindS rfl, if_neg (by simp)]
    exact (hids v ag hv).1 hp.ids
  · unfold ref01_Valid_s3 ref01_Valid_k7
    rw [if_pos (by omega), ckT (by omega), refIn_eq]
    by_cases a1 : 0 ≤ idOf g v ∧ idOf g v ≤ 255
    rotate_left
    · rw [decide_eq_false a1]; rfl
    rw [decide_eq_true a1, bindS rfl, if_neg (by simp), ckT (by omega)]
    by_cases a2 : (row g v).length < g.2.length
    rotate_left
    · rw [if_pos (show (g.2.length : Int) ≤ ((row g v).length : Int) by omega)]; rfl
    rw [if_neg (show ¬ (g.2.length : Int) ≤ ((row g v).length : Int) by omega), ckT (by omega)]
    by_cases a3 : LinksOk (row g v) v g.2.length
    rotate_left
    · rw [(linksValid_eq (row g v) v g.2.length (l3 v hv) l2).2 a3]; rfl
    rw [(linksValid_eq (row g v) v g.2.length (l3 v hv) l2).1 a3, bindS rfl, if_neg (by simp)]
    exact (hids v ag hv).2 fun a4 => hp ⟨a1, a2, a3, a4⟩
  · unfold ref01_Valid_s3
    rw [if_neg (by omega)]
  by_cases hn : ∀ v, v < g.2.length → NodeOk g v
  rotate_left
  · exact ⟨fun h => absurd h.node hn, fun _ => outer.2 hn⟩
  rw [outer.1 hn]
  unfold ref01_Valid_k2
  have inner : ∀ (v : Nat) (ag : Int → Option Bool), v < g.2.length → ((∀ i, i < (row g v).length → SymAt g v i) → iter (ref01_Valid_s2 1000 g v ag) 1000 0 = ag ((v : Int) + 1)) ∧ (¬ (∀ i, i < (row g v).length → SymAt g v i) → iter (ref01_Valid_s2 1000 g v ag) 1000 0 = some false) := by
    intro v ag hv
    have hv3 := l3 v hv
    have body : ∀ (i : Nat) ag2, i < (row g v).length → (SymAt g v i → ref01_Valid_s2 1000 g v ag i ag2 = ag2 ((i : Int) + 1)) ∧ (¬ SymAt g v i → ref01_Valid_s2 1000 g v ag i ag2 = some false) := by
      intro i ag2 hi
      unfold ref01_Valid_s2
      rw [ckT (by omega), if_pos (show (i : Int) < ((row g v).length : Int) by omega), ckT (by omega), ckT (show 0 ≤ (i : Int) ∧ (i : Int) < ((row g v).length : Int) by omega)]
      have hu := ((hn v hv).links i hi).1
      obtain ⟨u, hu'⟩ : ∃ u : Nat, (lnk (row g v) i).1 = u := ⟨(lnk (row g v) i).1.toNat, by omega⟩
      have hun : u < g.2.length := by omega
      unfold SymAt
      rw [show (at' (at' g.2 (v : Int)) (i : Int)) = lnk (row g v) i from rfl, hu', refPort_eq g u v hun (l3 u hun), bindS rfl]
      have hlk := (hn u hun).links
      rcases portOf_cases (row g u) v with ⟨j, hj, hjv, hjf, he⟩ | ⟨hf, he⟩
      · rw [he, if_neg (by omega), ckT (by omega), ckT (show 0 ≤ (j : Int) ∧ (j : Int) < ((at' g.2 (u : Int)).length : Int) from ⟨by omega, by have : j < (row g u).length := hj; exact_mod_cast this⟩)]
        unfold ref01_Valid_k5
        constructor
        · rintro ⟨k, hk, hkv, hkw⟩
          have hkj : k = j := by
            rcases Nat.lt_trichotomy k j with h | h | h
            · exact absurd hkv (hjf k h)
            · exact h
            · exact absurd (hjv.trans hkv.symm) ((hlk k hk).2.2.2 j h)
          subst hkj
          rw [if_neg (by rw [decide_eq_false]; simp; exact fun h => h hkw), wr (by omega) (by omega)]
        · intro h
          rw [if_pos]
          exact decide_eq_true fun hw => h ⟨j, hj, hjv, hw⟩
      · rw [he, if_pos (by decide)]
        exact ⟨fun ⟨j, hj, hjv, _⟩ => absurd hjv (hf j hj), fun _ => rfl⟩
    refine iter_if (row g v).length _ (fun i ag2 hi hp => (body i ag2 hi).1 hp) (fun i ag2 hi hp => (body i ag2 hi).2 hp) (fun ag2 => ?_) 1000 (by omega)
    unfold ref01_Valid_s2 ref01_Valid_k4
    rw [ckT (by omega), if_neg (show ¬ (((row g v).length : Nat) : Int) < ((row g v).length : Int) by omega), wr (by omega) (by omega)]
  have outer2 := iter_if (step := ref01_Valid_s1 1000 g) (K := some true) (bad := false) g.2.length (fun v => ∀ i, i < (row g v).length → SymAt g v i) (fun v ag hv hp => ?_) (fun v ag hv hp => ?_) (fun ag => ?_) 1000 (by omega)
  · exact ⟨fun h => outer2.1 h.sym, fun h => outer2.2 fun hs => h ⟨h1.1, h1.2, h2, hn, hs⟩⟩
  · unfold ref01_Valid_s1
    rw [if_pos (by omega)]
    exact (inner v ag hv).1 hp
  · unfold ref01_Valid_s1
    rw [if_pos (by omega)]
    exact (inner v ag hv).2 hp
  · unfold ref01_Valid_s1 ref01_Valid_k3
    rw [if_neg (by omega)]

theorem at_set {α : Type} [Inhabited α] (l : List α) (i k : Nat) (y : α) (hi : i < l.length) : at' (l.set i y) (k : Int) = if k = i then y else at' l (k : Int) := by
  rw [at'_nat, at'_nat, List.getD_eq_getElem?_getD, List.getD_eq_getElem?_getD, List.getElem?_set]
  by_cases h : i = k
  · rw [if_pos h, if_pos h.symm, if_pos (by omega)]; rfl
  · rw [if_neg h, if_neg (Ne.symm h)]

def IdOk (l : List Int) (k : Nat) : Prop := (0 ≤ at' l (k : Int) ∧ at' l (k : Int) ≤ 255) ∧ ∀ j, j < k → at' l (j : Int) ≠ at' l (k : Int)

theorem differentIDs_eq (l : List Int) (hl : l.length ≤ 30) : ((∀ k, k < l.length → IdOk l k) → m_graph_DifferentIDs 1000 l = some true) ∧ (¬ (∀ k, k < l.length → IdOk l k) → m_graph_DifferentIDs 1000 l = some false) := by
  unfold m_graph_DifferentIDs
  have key := iter_ifS (step := graph_DifferentIDs_s1 l) (K := fun _ => some true) (bad := false) l.length (IdOk l) (fun k x => x.1 = (k : Int) ∧ x.2.length = 256 ∧ ∀ z : Nat, z < 256 → (at' x.2 (z : Int) = true ↔ ∃ j, j < k ∧ at' l (j : Int) = (z : Int))) ?_ ?_ ?_ 1000 ((0 : Int), (List.replicate 256 false)) ⟨rfl, List.length_replicate .., fun z hz => ?_⟩ (by omega)
  · exact ⟨fun h => by obtain ⟨x, _, hx⟩ := key.1 h; exact hx, key.2⟩
  · rintro k ⟨x1, x2⟩ ag hk ⟨hx, hlen, hs⟩ ⟨hr, hd⟩
    dsimp only at hx hlen hs
    subst hx
    obtain ⟨z, hz⟩ : ∃ z : Nat, at' l (k : Int) = z := ⟨(at' l (k : Int)).toNat, by omega⟩
    have hz2 : z < 256 := by omega
    have hno : ¬ at' x2 (z : Int) = true := by
      rw [hs z hz2]
      rintro ⟨j, hj, he⟩
      exact hd j hj (he.trans hz.symm)
    refine ⟨((k : Int) + 1, x2.set z true), ⟨by simp, by simp [hlen], fun y hy => ?_⟩, ?_⟩
    · dsimp only
      rw [at_set _ _ _ _ (by omega)]
      by_cases hyz : y = z
      · subst hyz
        rw [if_pos rfl]
        exact ⟨fun _ => ⟨k, by omega, hz⟩, fun _ => rfl⟩
      · rw [if_neg hyz, hs y hy]
        constructor
        · rintro ⟨j, hj, he⟩; exact ⟨j, by omega, he⟩
        · rintro ⟨j, hj, he⟩
          by_cases hjk : j = k
          · subst hjk; rw [hz] at he; omega
          · exact ⟨j, by omega, he⟩
    · unfold graph_DifferentIDs_s1 graph_DifferentIDs_k2
      dsimp only
      rw [if_pos (by omega), ckT (by omega), hz, if_neg (by omega), if_neg (by omega), ckT ⟨by omega, hlen⟩, if_neg hno, ckT ⟨by omega, hlen⟩, wr (by omega) (by omega)]
      rfl
  · rintro k ⟨x1, x2⟩ ag hk ⟨hx, hlen, hs⟩ hp
    dsimp only at hx hlen hs
    subst hx
    unfold graph_DifferentIDs_s1 graph_DifferentIDs_k2
    dsimp only
    rw [if_pos (by omega), ckT (by omega)]
    by_cases h1 : at' l (k : Int) < 0
    · rw [if_pos h1, if_pos rfl]
    rw [if_neg h1]
    by_cases h2 : 255 < at' l (k : Int)
    · rw [if_pos h2, if_pos rfl]
    rw [if_neg h2]
    obtain ⟨z, hz⟩ : ∃ z : Nat, at' l (k : Int) = z := ⟨(at' l (k : Int)).toNat, by omega⟩
    rw [hz, ckT ⟨by omega, hlen⟩, if_pos]
    rw [hs z (by omega)]
    apply Classical.byContradiction
    intro hc
    exact hp ⟨by omega, fun j hj he => hc ⟨j, hj, he.trans hz⟩⟩
  · rintro ⟨x1, x2⟩ ag ⟨hx, _, _⟩
    dsimp only at hx
    subst hx
    unfold graph_DifferentIDs_s1 graph_DifferentIDs_k1
    dsimp only
    rw [if_neg (by omega)]
  · rw [show at' (List.replicate 256 false) (z : Int) = false by rw [at'_nat, List.getD_eq_getElem?_getD, List.getElem?_replicate, if_pos hz]; rfl]
    exact ⟨fun h => (by cases h), fun ⟨j, hj, _⟩ => (by omega)⟩

theorem mget_mset {κ ν : Type} [DecidableEq κ] (k k' : κ) (v : ν) : ∀ l : List (κ × ν), mget k' (mset k v l) = if k' = k then some v else mget k' l
  | [] => by simp only [mset, mget]
  | x :: xs => by
    simp only [mset]
    by_cases h : k = x.1
    · rw [if_pos h]; simp only [mget]
      by_cases h2 : k' = k
      · rw [if_pos h2, if_pos h2]
      · rw [if_neg h2, if_neg h2, if_neg (fun h3 => h2 (h3.trans h.symm))]
    · rw [if_neg h]; simp only [mget]
      by_cases h2 : k' = x.1
      · rw [if_pos h2, if_neg (fun h3 => h (h3.symm.trans h2)), if_pos h2]
      · rw [if_neg h2, mget_mset k k' v xs]
        by_cases h3 : k' = k
        · rw [if_pos h3, if_pos h3]
        · rw [if_neg h3, if_neg h3, if_neg h2]

theorem mem_mset {κ ν : Type} [DecidableEq κ] {k : κ} {v : ν} {z : κ × ν} {l : List (κ × ν)} (h0 : mget k l = none) : z ∈ mset k v l ↔ z = (k, v) ∨ z ∈ l := by
  rw [mset_none k v l h0]
  simp [or_comm]

theorem mget_none {κ ν : Type} [DecidableEq κ] {k : κ} : ∀ {l : List (κ × ν)}, (∀ v, (k, v) ∉ l) → mget k l = none
  | [], _ => rfl
  | x :: xs, h => by
    simp only [mget]
    rw [if_neg (fun e => h x.2 (by rw [e]; exact List.mem_cons_self ..))]
    exact mget_none fun v hv => h v (List.mem_cons_of_mem _ hv)

theorem mget_none_mem {κ ν : Type} [DecidableEq κ] {k : κ} {v : ν} : ∀ {l : List (κ × ν)}, mget k l = none → (k, v) ∉ l
  | [], _ => by simp
  | x :: xs, h => by
    simp only [mget] at h
    by_cases e : k = x.1
    · rw [if_pos e] at h; cases h
    · rw [if_neg e] at h
      intro hm
      rcases List.mem_cons.1 hm with h2 | h2
      · exact e (by rw [← h2])
      · exact mget_none_mem h h2

theorem mget_some {κ ν : Type} [DecidableEq κ] {k : κ} {v : ν} : ∀ {l : List (κ × ν)}, mget k l = some v → (k, v) ∈ l
  | x :: xs, h => by
    simp only [mget] at h
    by_cases e : k = x.1
    · rw [if_pos e] at h; cases h; rw [e]; exact List.mem_cons_self ..
    · rw [if_neg e] at h; exact List.mem_cons_of_mem _ (mget_some h)

theorem mrun_all {κ ν : Type} (p : κ × ν → Prop) [DecidablePred p] : ∀ l : List (κ × ν), mrun (fun kv x => if p kv then some false else x) (some true) l = some (decide (∀ z ∈ l, ¬ p z))
  | [] => by simp [mrun]
  | x :: xs => by
    show (if p x then some false else mrun _ (some true) xs) = _
    rw [mrun_all p xs]
    by_cases h : p x
    · rw [if_pos h]; congr 1; symm; exact decide_eq_false fun h2 => h2 x (List.mem_cons_self ..) h
    · rw [if_neg h]; congr 1; apply decide_eq_decide.2; simp [h]

/-- the links that were read: all of the nodes below v, and of v those below i -/
def Read (ps : List (List (Int × Int))) (v i : Nat) (z : (Int × Int) × Int) : Prop := ∃ a b : Nat, (a < v ∨ (a = v ∧ b < i)) ∧ b < (at' ps (a : Int)).length ∧ z = (((a : Int), (lnk (at' ps (a : Int)) b).1), (lnk (at' ps (a : Int)) b).2)

def SymPs (ps : List (List (Int × Int))) : Prop := (∀ v, v < ps.length → LinksOk (at' ps (v : Int)) v ps.length) ∧ ∀ v, v < ps.length → ∀ i, i < (at' ps (v : Int)).length → SymAt ([], ps) v i

theorem symmetric_eq (ps : List (List (Int × Int))) (hn : ps.length ≤ 30) (hd : ∀ v, v < ps.length → (at' ps (v : Int)).length ≤ 30) : (SymPs ps → m_graph_symmetric 1000 ps = some true) ∧ (¬ SymPs ps → m_graph_symmetric 1000 ps = some false) := by
  unfold m_graph_symmetric
  have inner : ∀ (v : Nat) (m : List ((Int × Int) × Int)) ag, v < ps.length → (∀ z, z ∈ m ↔ Read ps v 0 z) →
      (LinksOk (at' ps (v : Int)) v ps.length → ∃ m', (∀ z, z ∈ m' ↔ Read ps (v + 1) 0 z) ∧ iter (graph_symmetric_s3 ps ((v : Int), m) ag) 1000 ((0 : Int), m) = ag ((v : Int) + 1, m')) ∧
      (¬ LinksOk (at' ps (v : Int)) v ps.length → iter (graph_symmetric_s3 ps ((v : Int), m) ag) 1000 ((0 : Int), m) = some false) := by
    intro v m ag hv hm
    have hdv := hd v hv
    have key := iter_ifS (step := graph_symmetric_s3 ps ((v : Int), m) ag) (K := fun x => ag ((v : Int) + 1, x.2)) (bad := false) (at' ps (v : Int)).length (LinkOk (at' ps (v : Int)) v ps.length) (fun i x => x.1 = (i : Int) ∧ ∀ z, z ∈ x.2 ↔ Read ps v i z) ?_ ?_ ?_ 1000 ((0 : Int), m) ⟨rfl, hm⟩ (by omega)
    · refine ⟨fun h => ?_, fun h => key.2 h⟩
      obtain ⟨x, ⟨hx1, hx2⟩, hx⟩ := key.1 h
      refine ⟨x.2, fun z => (hx2 z).trans ⟨?_, ?_⟩, hx⟩
      · rintro ⟨a, b, h1, h2, h3⟩; exact ⟨a, b, by omega, h2, h3⟩
      · rintro ⟨a, b, h1, h2, h3⟩
        refine ⟨a, b, ?_, h2, h3⟩
        by_cases ha : a = v
        · subst ha; exact .inr ⟨rfl, h2⟩
        · omega
    · rintro i ⟨x1, x2⟩ ag2 hi ⟨hx, hs⟩ ⟨p1, p2, p3, p4⟩
      dsimp only at hx hs
      subst hx
      have hg : mget (((v : Int), (lnk (at' ps (v : Int)) i).1)) x2 = none := by
        apply mget_none
        intro w hw
        obtain ⟨a, b, h1, h2, h3⟩ := (hs _).1 hw
        simp only [Prod.mk.injEq] at h3
        obtain ⟨⟨h4, h5⟩, _⟩ := h3
        have : a = v := by omega
        subst this
        have hb : b < i := by omega
        exact p4 b hb h5.symm
      refine ⟨((i : Int) + 1, mset (((v : Int), (lnk (at' ps (v : Int)) i).1)) (lnk (at' ps (v : Int)) i).2 x2), ⟨by simp, fun z => ?_⟩, ?_⟩
      · dsimp only
        rw [mem_mset hg, hs]
        constructor
        · rintro (rfl | ⟨a, b, h1, h2, h3⟩)
          · exact ⟨v, i, .inr ⟨rfl, by omega⟩, hi, rfl⟩
          · exact ⟨a, b, by omega, h2, h3⟩
        · rintro ⟨a, b, h1, h2, h3⟩
          by_cases hab : a = v ∧ b = i
          · left; rw [h3, hab.1, hab.2]
          · right; exact ⟨a, b, by omega, h2, h3⟩
      · replace p1 : 0 ≤ (at' (at' ps (v : Int)) (i : Int)).1 ∧ (at' (at' ps (v : Int)) (i : Int)).1 ≤ (ps.length : Int) - 1 := p1
        replace p3 : 1 ≤ (at' (at' ps (v : Int)) (i : Int)).2 ∧ (at' (at' ps (v : Int)) (i : Int)).2 ≤ 15 := p3
        unfold graph_symmetric_s3 graph_symmetric_k3 graph_symmetric_k4
        dsimp only
        rw [if_pos (by omega), ckT (by omega), if_neg (by omega), if_neg (by omega), if_neg (by rw [decide_eq_false p2]; simp), if_neg (by omega), if_neg (by rw [decide_eq_false (by omega)]; simp), hg, if_neg (by simp), wr (by omega) (by omega)]
    · rintro i ⟨x1, x2⟩ ag2 hi ⟨hx, hs⟩ hp
      dsimp only at hx hs
      subst hx
      unfold graph_symmetric_s3 graph_symmetric_k3 graph_symmetric_k4
      dsimp only
      rw [if_pos (by omega), ckT (by omega)]
      by_cases h1 : (lnk (at' ps (v : Int)) i).1 < 0
      · rw [if_pos h1, if_pos rfl]
      rw [if_neg h1]
      by_cases h2 : (ps.length : Int) ≤ (lnk (at' ps (v : Int)) i).1
      · rw [if_pos h2, if_pos rfl]
      rw [if_neg h2]
      by_cases h3 : (lnk (at' ps (v : Int)) i).1 = v
      · rw [if_pos (decide_eq_true h3)]
      rw [if_neg (by rw [decide_eq_false h3]; simp)]
      by_cases h4 : (lnk (at' ps (v : Int)) i).2 < 1
      · rw [if_pos h4, if_pos rfl]
      rw [if_neg h4]
      by_cases h5 : 15 < (lnk (at' ps (v : Int)) i).2
      · rw [if_pos (decide_eq_true h5)]
      rw [if_neg (by rw [decide_eq_false h5]; simp)]
      have : ∃ k, k < i ∧ (lnk (at' ps (v : Int)) k).1 = (lnk (at' ps (v : Int)) i).1 := by
        apply Classical.byContradiction
        intro hc
        exact hp ⟨by omega, h3, by omega, fun k hk he => hc ⟨k, hk, he⟩⟩
      obtain ⟨k, hk, he⟩ := this
      have hin := (hs _).2 ⟨v, k, .inr ⟨rfl, hk⟩, by omega, rfl⟩
      rw [if_pos]
      rw [← he]
      cases hg : mget (((v : Int), (lnk (at' ps (v : Int)) k).1)) x2 with
      | some w => rfl
      | none => exact absurd hin (by
          intro hin
          exact mget_none_mem hg hin)
    · rintro ⟨x1, x2⟩ ag2 ⟨hx, hs⟩
      dsimp only at hx hs
      subst hx
      unfold graph_symmetric_s3 graph_symmetric_k2
      dsimp only
      rw [if_neg (by omega), wr (by omega) (by omega)]
  have outer := iter_ifS (step := graph_symmetric_s2 1000 ps) (K := fun x => graph_symmetric_k1 x.2) (bad := false) ps.length (fun v => LinksOk (at' ps (v : Int)) v ps.length) (fun v x => x.1 = (v : Int) ∧ ∀ z, z ∈ x.2 ↔ Read ps v 0 z) ?_ ?_ ?_ 1000 ((0 : Int), []) ⟨rfl, fun z => ⟨fun h => (by cases h), fun ⟨a, b, h1, _⟩ => (by omega)⟩⟩ (by omega)
  rotate_left
  · rintro v ⟨x1, x2⟩ ag hv ⟨hx, hs⟩ hp
    dsimp only at hx hs
    subst hx
    obtain ⟨m', h1, h2⟩ := (inner v x2 ag hv hs).1 hp
    refine ⟨((v : Int) + 1, m'), ⟨by simp, h1⟩, ?_⟩
    · unfold graph_symmetric_s2
      dsimp only
      rw [if_pos (by omega), ckT (by omega)]
      exact h2
  · rintro v ⟨x1, x2⟩ ag hv ⟨hx, hs⟩ hp
    dsimp only at hx hs
    subst hx
    unfold graph_symmetric_s2
    dsimp only
    rw [if_pos (by omega), ckT (by omega)]
    exact (inner v x2 ag hv hs).2 hp
  · rintro ⟨x1, x2⟩ ag ⟨hx, hs⟩
    dsimp only at hx hs
    subst hx
    unfold graph_symmetric_s2
    dsimp only
    rw [if_neg (by omega)]
  by_cases hL : ∀ v, v < ps.length → LinksOk (at' ps (v : Int)) v ps.length
  rotate_left
  · exact ⟨fun h => absurd h.1 hL, fun _ => outer.2 hL⟩
  obtain ⟨⟨x1, x2⟩, ⟨hx, hs⟩, he⟩ := outer.1 hL
  rw [he]
  dsimp only at hs ⊢
  have hk : graph_symmetric_k1 x2 = some (decide (∀ z ∈ x2, ¬ (Option.getD (mget (z.1.2, z.1.1) x2) (0 : Int)) ≠ z.2)) := mrun_all (fun z : (Int × Int) × Int => (Option.getD (mget (z.1.2, z.1.1) x2) (0 : Int)) ≠ z.2) x2
  rw [hk]
  have hiff : (∀ z ∈ x2, ¬ (Option.getD (mget (z.1.2, z.1.1) x2) (0 : Int)) ≠ z.2) ↔ ∀ v, v < ps.length → ∀ i, i < (at' ps (v : Int)).length → SymAt ([], ps) v i := by
    constructor
    · intro h v hv i hi
      have hw := (hL v hv i hi).2.2.1
      have hin := (hs (((v : Int), (lnk (at' ps (v : Int)) i).1), (lnk (at' ps (v : Int)) i).2)).2 ⟨v, i, .inl hv, hi, rfl⟩
      have h2 := Decidable.not_not.1 (h _ hin)
      dsimp only at h2
      cases hg : mget ((lnk (at' ps (v : Int)) i).1, (v : Int)) x2 with
      | none => rw [hg] at h2; simp only [Option.getD] at h2; omega
      | some w =>
        rw [hg] at h2; simp only [Option.getD] at h2
        obtain ⟨a, b, h3, h4, h5⟩ := (hs _).1 (mget_some hg)
        simp only [Prod.mk.injEq] at h5
        obtain ⟨⟨h6, h7⟩, h8⟩ := h5
        refine ⟨b, ?_, ?_, ?_⟩
        · show b < (at' ps (lnk (at' ps (v : Int)) i).1).length
          rw [h6]; exact h4
        · show (lnk (at' ps (lnk (at' ps (v : Int)) i).1) b).1 = v
          rw [h6]; exact h7.symm
        · show (lnk (at' ps (lnk (at' ps (v : Int)) i).1) b).2 = (lnk (at' ps (v : Int)) i).2
          rw [h6, ← h8]; exact h2
    · intro h z hz hne
      obtain ⟨a, b, h3, h4, rfl⟩ := (hs z).1 hz
      have ha : a < ps.length := by omega
      apply hne
      obtain ⟨j, hj1, hj2, hj3⟩ := h a ha b h4
      have hu := (hL a ha b h4).1
      obtain ⟨u, hu'⟩ : ∃ u : Nat, (lnk (at' ps (a : Int)) b).1 = u := ⟨(lnk (at' ps (a : Int)) b).1.toNat, by omega⟩
      replace hj1 : j < (at' ps (lnk (at' ps (a : Int)) b).1).length := hj1
      replace hj2 : (lnk (at' ps (lnk (at' ps (a : Int)) b).1) j).1 = a := hj2
      replace hj3 : (lnk (at' ps (lnk (at' ps (a : Int)) b).1) j).2 = (lnk (at' ps (a : Int)) b).2 := hj3
      rw [hu'] at hj1 hj2 hj3
      have hun : u < ps.length := by omega
      dsimp only
      rw [hu', ← hj3]
      have hin := (hs (((u : Int), (lnk (at' ps (u : Int)) j).1), (lnk (at' ps (u : Int)) j).2)).2 ⟨u, j, .inl hun, hj1, rfl⟩
      rw [hj2] at hin
      cases hg : mget ((u : Int), (a : Int)) x2 with
      | none => exact absurd hin (mget_none_mem hg)
      | some w =>
        obtain ⟨a', b', h3', h4', h5⟩ := (hs _).1 (mget_some hg)
        simp only [Prod.mk.injEq] at h5
        obtain ⟨⟨h6, h7⟩, h8⟩ := h5
        have : a' = u := by omega
        subst this
        have hbj : b' = j := by
          rcases Nat.lt_trichotomy b' j with hl | hl | hl
          · exact absurd (h7.symm.trans hj2.symm) ((hL a' hun j hj1).2.2.2 b' hl)
          · exact hl
          · exact absurd (hj2.trans h7) ((hL a' hun b' h4').2.2.2 j hl)
        subst hbj
        exact h8
  by_cases hS : ∀ v, v < ps.length → ∀ i, i < (at' ps (v : Int)).length → SymAt ([], ps) v i
  · rw [decide_eq_true (hiff.2 hS)]
    exact ⟨fun _ => rfl, fun h => absurd ⟨hL, hS⟩ h⟩
  · rw [decide_eq_false (fun h => hS (hiff.1 h))]
    exact ⟨fun h => absurd h.2 hS, fun _ => rfl⟩

/-- numbers below N, all different: at most N -/
theorem pigeon : ∀ (N : Nat) (f : Nat → Nat) (k : Nat), (∀ i, i < k → f i < N) → (∀ i j, i < j → j < k → f i ≠ f j) → k ≤ N
  | 0, f, k, h, _ => by
    cases k with
    | zero => omega
    | succ k => exact absurd (h 0 (by omega)) (by omega)
  | N + 1, f, k, h, hd => by
    by_cases hex : ∃ a, a < k ∧ f a = N
    · obtain ⟨a, ha, hfa⟩ := hex
      have := pigeon N (fun i => if i < a then f i else f (i + 1)) (k - 1) (fun i hi => by
        split
        · have := h i (by omega); have := hd i a (by omega) ha; omega
        · have := h (i + 1) (by omega); have := hd a (i + 1) (by omega) (by omega); omega) (fun i j hij hj => by
        split <;> split
        · exact hd i j hij (by omega)
        · exact hd i (j + 1) (by omega) (by omega)
        · omega
        · exact hd (i + 1) (j + 1) (by omega) (by omega))
      omega
    · have := pigeon N f k (fun i hi => by
        have := h i hi
        have : f i ≠ N := fun e => hex ⟨i, hi, e⟩
        omega) hd
      omega

theorem deg_lt {l : List (Int × Int)} {v n : Nat} (hv : v < n) (h : LinksOk l v n) : l.length < n := by
  have := pigeon n (fun i => if i = l.length then v else (lnk l i).1.toNat) (l.length + 1) (fun i hi => by
    split
    · exact hv
    · have := (h i (by omega)).1; omega) (fun i j hij hj => by
    rw [if_neg (by omega)]
    have h1 := (h i (by omega)).1
    split
    · have := (h i (by omega)).2.1; omega
    · have h2 := (h j (by omega)).1
      have := (h j (by omega)).2.2.2 i hij
      omega)
  omega

theorem valid_eq (g : GR) (hl : light g) : (VG g → m_graph_Valid 1000 g = some true) ∧ (¬ VG g → m_graph_Valid 1000 g = some false) := by
  obtain ⟨l1, l2, l3⟩ := hl
  unfold m_graph_Valid graph_Valid_k1 graph_Valid_k2
  by_cases h1 : g.1.length < 1
  · rw [if_pos (by omega)]
    exact ⟨fun h => by have := h.n1; have := h.len; omega, fun _ => rfl⟩
  rw [if_neg (by omega)]
  by_cases h2 : 24 < g.1.length
  · rw [if_pos (by omega)]
    exact ⟨fun h => by have := h.n24; have := h.len; omega, fun _ => rfl⟩
  rw [if_neg (by omega)]
  by_cases h3 : g.1.length = g.2.length
  rotate_left
  · rw [decide_eq_true (by omega)]
    exact ⟨fun h => absurd h.len h3, fun _ => rfl⟩
  rw [decide_eq_false (by omega), if_neg (by simp)]
  by_cases h4 : ∀ k, k < g.1.length → IdOk g.1 k
  rotate_left
  · rw [(differentIDs_eq g.1 l1).2 h4, bindS rfl]
    exact ⟨fun h => absurd (fun k hk => ⟨(h.node k (by omega)).id, (h.node k (by omega)).ids⟩) h4, fun _ => rfl⟩
  rw [(differentIDs_eq g.1 l1).1 h4, bindS rfl, if_pos rfl]
  by_cases h5 : SymPs g.2
  · rw [(symmetric_eq g.2 l2 l3).1 h5]
    exact ⟨fun _ => rfl, fun h => absurd ⟨by omega, by omega, h3, fun v hv => ⟨(h4 v (by omega)).1, deg_lt hv (h5.1 v hv), h5.1 v hv, (h4 v (by omega)).2⟩, h5.2⟩ h⟩
  · rw [(symmetric_eq g.2 l2 l3).2 h5]
    exact ⟨fun h => absurd ⟨fun v hv => (h.node v hv).links, h.sym⟩ h5, fun _ => rfl⟩

theorem VG.light {g : GR} (h : VG g) : light g := ⟨by have := h.n24; have := h.len; omega, by have := h.n24; omega, fun v hv => by have := (h.node v hv).deg; have := h.n24; omega⟩
end Go.Proofs.Ytemhmmcakmidkaa
end
section
namespace Go.Proofs.Ytemhmmcakmidkaa
set_option linter.unusedVariables false
set_option linter.unusedSimpArgs false
open Go.Sx

abbrev D (d : List Int) (v : Nat) : Int := at' d (v : Int)

/-- node v has a link to u -/
def Adj (g : GR) (v u : Nat) : Prop := ∃ i, i < (row g v).length ∧ (lnk (row g v) i).1 = (u : Int)

theorem VG.port {g : GR} (h : VG g) {v i : Nat} (hv : v < g.2.length) (hi : i < (row g v).length) : ∃ u : Nat, u < g.2.length ∧ (lnk (row g v) i).1 = (u : Int) ∧ Adj g v u := by
  have hu := ((h.node v hv).links i hi).1
  exact ⟨(lnk (row g v) i).1.toNat, by omega, by omega, i, hi, by omega⟩

theorem VG.back {g : GR} (h : VG g) {v u : Nat} (hv : v < g.2.length) (ha : Adj g v u) : Adj g u v := by
  obtain ⟨i, hi, hu⟩ := ha
  obtain ⟨j, hj, hjv, _⟩ := h.sym v hv i hi
  rw [hu] at hj hjv
  exact ⟨j, hj, hjv⟩

theorem VG.adj_lt {g : GR} (h : VG g) {v u : Nat} (hv : v < g.2.length) (ha : Adj g v u) : u < g.2.length := by
  obtain ⟨i, hi, hu⟩ := ha
  have := ((h.node v hv).links i hi).1
  omega

def cneg (d : List Int) : Nat := d.countP fun x => decide (x < 0)

/-- what holds of the numbers at all times of the search from s -/
structure Core (g : GR) (s : Nat) (d : List Int) : Prop where
  len : d.length = g.2.length
  lo : ∀ v, v < g.2.length → -1 ≤ D d v
  zero : ∀ v, v < g.2.length → (D d v = 0 ↔ v = s)
  near : ∀ v, v < g.2.length → 0 < D d v → ∃ u, u < g.2.length ∧ Adj g v u ∧ D d u = D d v - 1
  hi : ∀ v, v < g.2.length → D d v + (cneg d : Int) ≤ (g.2.length : Int)

structure Qu (g : GR) (q d : List Int) (b : Int) (done : Nat → Prop) : Prop where
  mem : ∀ y ∈ q, ∃ v, v < g.2.length ∧ y = ((v : Nat) : Int) ∧ 0 ≤ D d v
  top : ∀ v, v < g.2.length → D d v ≤ b
  sort : q.Pairwise fun a c => at' d a ≤ at' d c
  done : ∀ v, v < g.2.length → 0 ≤ D d v → ((v : Nat) : Int) ∉ q → done v → ∀ u, u < g.2.length → Adj g v u → 0 ≤ D d u ∧ D d u ≤ D d v + 1

theorem D_getElem {d : List Int} {v : Nat} (h : v < d.length) : D d v = d[v] := by
  rw [D, at'_nat, List.getD_eq_getElem?_getD, List.getElem?_eq_getElem h]; rfl

theorem cneg_set {d : List Int} {u : Nat} {x : Int} (hu : u < d.length) (hn : D d u < 0) (hx : 0 ≤ x) : cneg (d.set u x) + 1 = cneg d := by
  unfold cneg
  rw [List.countP_set hu]
  have hp : 0 < d.countP fun x => decide (x < 0) := by
    rw [List.countP_pos_iff]
    exact ⟨d[u], List.getElem_mem hu, by rw [← D_getElem hu]; simpa using hn⟩
  rw [D_getElem hu] at hn
  rw [if_pos (by simpa using hn), if_neg (by simp; omega)]
  omega

/-- a node without a number gets one -/
theorem assign {g : GR} {s : Nat} {q d : List Int} {b : Int} {done : Nat → Prop} (hV : VG g) (hC : Core g s d) {x u : Nat} (hQ : Qu g q d (D d x + 1) done) (hx : x < g.2.length) (hx0 : 0 ≤ D d x) (hu : u < g.2.length) (hun : D d u < 0) (ha : Adj g x u) :
    Core g s (d.set u (D d x + 1)) ∧ Qu g (q ++ [(u : Int)]) (d.set u (D d x + 1)) (D d x + 1) done := by
  have hlen := hC.len
  have hat : ∀ v, D (d.set u (D d x + 1)) v = if v = u then D d x + 1 else D d v := fun v => at_set _ _ _ _ (by omega)
  have hcn := cneg_set (x := D d x + 1) (by omega : u < d.length) hun (by omega)
  refine ⟨⟨by simp [hlen], fun v hv => ?_, fun v hv => ?_, fun v hv => ?_, fun v hv => ?_⟩, ⟨fun y hy => ?_, fun v hv => ?_, ?_, fun v hv h0 hq hd w hw hadj => ?_⟩⟩
  · rw [hat]; split
    · omega
    · exact hC.lo v hv
  · rw [hat]; split
    · rename_i h; subst h
      have := (hC.zero v hv)
      constructor
      · intro; omega
      · intro h; have := this.2 h; omega
    · exact hC.zero v hv
  · rw [hat]; split
    · rename_i h; subst h
      intro _
      refine ⟨x, hx, hV.back hx ha, ?_⟩
      rw [hat, if_neg (by intro h; subst h; omega)]; omega
    · intro h0
      obtain ⟨w, hw, hadj, he⟩ := hC.near v hv h0
      refine ⟨w, hw, hadj, ?_⟩
      rw [hat, if_neg (by intro h; subst h; omega)]; exact he
  · rw [hat]; split
    · have := hC.hi x hx; omega
    · have := hC.hi v hv; omega
  · rcases List.mem_append.1 hy with hy | hy
    · obtain ⟨v, hv, rfl, h0⟩ := hQ.mem y hy
      refine ⟨v, hv, rfl, ?_⟩
      rw [hat]; split <;> omega
    · simp only [List.mem_singleton] at hy
      refine ⟨u, hu, hy, ?_⟩
      rw [hat, if_pos rfl]; omega
  · rw [hat]; split
    · omega
    · exact hQ.top v hv
  · rw [List.pairwise_append]
    have hq : ∀ y ∈ q, at' (d.set u (D d x + 1)) y = at' d y := by
      intro y hy
      obtain ⟨v, hv, rfl, h0⟩ := hQ.mem y hy
      have := hat v
      rw [if_neg (by intro h; subst h; omega)] at this
      exact this
    refine ⟨hQ.sort.imp_of_mem fun {a c} h1 h2 h => ?_, List.pairwise_singleton .., fun y hy z hz => ?_⟩
    · rw [hq a h1, hq c h2]; exact h
    · simp only [List.mem_singleton] at hz
      subst hz
      rw [hq y hy]
      have h2 := hat u
      rw [if_pos rfl] at h2
      obtain ⟨v, hv, rfl, h0⟩ := hQ.mem y hy
      have := hQ.top v hv
      show D d v ≤ D (d.set u (D d x + 1)) u
      omega
  · have hvu : v ≠ u := by
      rintro rfl
      exact hq (by simp)
    rw [hat, if_neg hvu] at h0
    rw [hat v, if_neg hvu]
    have := hQ.done v hv h0 (fun h => hq (List.mem_append_left _ h)) hd w hw hadj
    rw [hat w, if_neg (by rintro rfl; omega)]
    exact this

/-- the ports of node x one after another -/
theorem search_inner {g : GR} (hV : VG g) {s x : Nat} (hx : x < g.2.length) (rest d0 : List Int) (ag : List Int × List Int → Option (List Int)) (r : List Int → Prop)
    (hC : Core g s d0) (hx0 : 0 ≤ D d0 x) (hQ : Qu g rest d0 (D d0 x + 1) (fun v => v ≠ x)) (hm : rest.length + cneg d0 ≤ g.2.length)
    (hag : ∀ q d, Core g s d → D d x = D d0 x → Qu g q d (D d x + 1) (fun _ => True) → q.length + cneg d = rest.length + cneg d0 → (∀ y ∈ q, D d0 x ≤ at' d y) → OK r (ag (q, d)))
    (hge : ∀ y ∈ rest, D d0 x ≤ at' d0 y) :
    OK r (iter (graph_search_s2 g ((x : Int) :: rest, d0) ag) 1000 ((0 : Int), rest, d0)) := by
  have hdeg := (hV.node x hx).deg
  have h24 := hV.n24
  refine iter_ok (fun z : Int × List Int × List Int => ∃ k : Nat, z.1 = k ∧ k ≤ (row g x).length ∧ Core g s z.2.2 ∧ D z.2.2 x = D d0 x ∧ Qu g z.2.1 z.2.2 (D d0 x + 1) (fun v => v ≠ x) ∧ z.2.1.length + cneg z.2.2 = rest.length + cneg d0 ∧ (∀ i, i < k → ∀ u : Nat, (lnk (row g x) i).1 = u → 0 ≤ D z.2.2 u) ∧ (∀ y ∈ z.2.1, D d0 x ≤ at' z.2.2 y)) (fun z => 31 - z.1.toNat) ?_ 1000 _ ⟨0, rfl, by omega, hC, rfl, hQ, rfl, fun i hi => by omega, hge⟩ (by simp)
  rintro ⟨z1, q, d⟩ ag2 ⟨k, hz, hk, hC, hdx, hQ, hm2, hp, hge⟩ hag2
  dsimp only at hz hC hdx hQ hm2 hp hge
  subst hz
  have hlen := hC.len
  have e0 : at' ((x : Int) :: rest) 0 = (x : Int) := rfl
  unfold graph_search_s2 graph_search_k3
  dsimp only
  rw [e0]
  by_cases hlt : k < (row g x).length
  · rw [if_pos (show (k : Int) < ((row g x).length : Int) by omega), ckT (show 0 ≤ (k : Int) ∧ (k : Int) < ((row g x).length : Int) by omega)]
    obtain ⟨u, hu, hue, hadj⟩ := hV.port hx hlt
    rw [show at' (at' g.2 (x : Int)) (k : Int) = lnk (row g x) k from rfl, hue, ckT (by omega)]
    have hhi := hC.hi x hx
    by_cases hneg : at' d (u : Int) < 0
    · have hQ' : Qu g q d (D d x + 1) (fun v => v ≠ x) := by rw [hdx]; exact hQ
      obtain ⟨c1, c2⟩ := assign (b := 0) hV hC hQ' hx (by omega) hu hneg hadj
      have hcn := cneg_set (x := D d x + 1) (by omega : u < d.length) hneg (by omega)
      have hat : ∀ v, D (d.set u (D d x + 1)) v = if v = u then D d x + 1 else D d v := fun v => at_set _ _ _ _ (by omega)
      have hxu : x ≠ u := by rintro rfl; have : D d x < 0 := hneg; omega
      rw [if_pos hneg, ckT (by omega), ckT (by omega), ckT (by simp only [List.length_singleton]; omega), wr (x := (k : Int) + 1) (by omega) (by omega), wr (x := at' d (x : Int) + 1) (by show -9223372036854775808 ≤ D d x + 1; omega) (by show D d x + 1 ≤ _; omega)]
      refine hag2 _ ⟨k + 1, by simp, by omega, c1, ?_, ?_, ?_, ?_, ?_⟩ (by dsimp only; omega)
      · show D (d.set u (D d x + 1)) x = _
        rw [hat, if_neg hxu]; exact hdx
      · rw [← hdx]; exact c2
      · show (q ++ [(u : Int)]).length + cneg (d.set u (D d x + 1)) = _
        simp only [List.length_append, List.length_singleton]
        omega
      · intro i hi w hw
        show 0 ≤ D (d.set u (D d x + 1)) w
        rw [hat]
        split
        · omega
        · by_cases hik : i = k
          · subst hik; omega
          · exact hp i (by omega) w hw
      · intro y hy
        show D d0 x ≤ at' (d.set u (D d x + 1)) y
        rcases List.mem_append.1 hy with hy | hy
        · have h1 := hge y hy
          obtain ⟨v, hv, rfl, h0⟩ := hQ.mem y hy
          have h2 := hat v
          rw [if_neg (by intro h; subst h; have : D d v < 0 := hneg; omega)] at h2
          rw [show at' (d.set u (D d x + 1)) (v : Int) = D d v from h2]
          exact h1
        · simp only [List.mem_singleton] at hy
          subst hy
          rw [show at' (d.set u (D d x + 1)) (u : Int) = D d x + 1 from (hat u).trans (if_pos rfl)]
          omega
    · rw [if_neg hneg, wr (by omega) (by omega)]
      refine hag2 _ ⟨k + 1, by simp, by omega, hC, hdx, hQ, hm2, ?_, hge⟩ (by dsimp only; omega)
      intro i hi w hw
      by_cases hik : i = k
      · subst hik
        have : w = u := by omega
        subst this
        show 0 ≤ at' d (w : Int)
        omega
      · exact hp i (by omega) w hw
  · rw [if_neg (show ¬ (k : Int) < ((row g x).length : Int) by omega)]
    have hke : k = (row g x).length := by omega
    refine hag q d hC hdx ⟨hQ.mem, fun v hv => by rw [hdx]; exact hQ.top v hv, hQ.sort, fun v hv h0 hq _ u hu hadj => ?_⟩ hm2 hge
    by_cases hvx : v = x
    · subst hvx
      obtain ⟨i, hi, hie⟩ := hadj
      exact ⟨hp i (by omega) u hie, by rw [hdx]; exact hQ.top u hu⟩
    · exact hQ.done v hv h0 hq hvx u hu hadj

/-- what the search returns: the numbers are the steps from s -/
structure Dist (g : GR) (s : Nat) (d : List Int) : Prop where
  len : d.length = g.2.length
  lo : ∀ v, v < g.2.length → -1 ≤ D d v
  zero : ∀ v, v < g.2.length → (D d v = 0 ↔ v = s)
  near : ∀ v, v < g.2.length → 0 < D d v → ∃ u, u < g.2.length ∧ Adj g v u ∧ D d u = D d v - 1
  next : ∀ v, v < g.2.length → 0 ≤ D d v → ∀ u, u < g.2.length → Adj g v u → 0 ≤ D d u ∧ D d u ≤ D d v + 1
  hi : ∀ v, v < g.2.length → D d v ≤ (g.2.length : Int)

theorem search_loop {g : GR} (hV : VG g) {s : Nat} (d0 : List Int) (q0 : List Int) (hC : Core g s d0) (hQ : Qu g q0 d0 (match q0 with | [] => 1000 | y :: _ => at' d0 y + 1) (fun _ => True)) (hm : q0.length + cneg d0 ≤ g.2.length) :
    OK (Dist g s) (iter (graph_search_s1 1000 g) 1000 (q0, d0)) := by
  have h24 := hV.n24
  refine iter_ok (fun z : List Int × List Int => Core g s z.2 ∧ Qu g z.1 z.2 (match z.1 with | [] => 1000 | y :: _ => at' z.2 y + 1) (fun _ => True) ∧ z.1.length + cneg z.2 ≤ g.2.length) (fun z => z.1.length + cneg z.2) ?_ 1000 _ ⟨hC, hQ, hm⟩ (by dsimp only; omega)
  rintro ⟨q, d⟩ ag ⟨hC, hQ, hm⟩ hag
  dsimp only at hC hQ hm
  unfold graph_search_s1 graph_search_k2
  dsimp only
  cases q with
  | nil =>
    rw [if_neg (by simp)]
    exact ⟨d, rfl, hC.len, hC.lo, hC.zero, hC.near, fun v hv h0 u hu hadj => hQ.done v hv h0 (by simp) trivial u hu hadj, fun v hv => by have := hC.hi v hv; omega⟩
  | cons y rest =>
    obtain ⟨x, hx, rfl, hx0⟩ := hQ.mem y (List.mem_cons_self ..)
    have e0 : at' ((x : Int) :: rest) 0 = (x : Int) := rfl
    rw [if_pos (by simp only [List.length_cons]; omega), ckT (by simp only [List.length_cons]; omega), ckT (by simp only [List.length_cons]; omega), e0, ckT (by omega)]
    have hs := List.pairwise_cons.1 hQ.sort
    simp only [List.length_cons] at hm
    refine search_inner hV hx rest d ag _ hC hx0 ⟨fun z hz => hQ.mem z (List.mem_cons_of_mem _ hz), hQ.top, hs.2, fun v hv h0 hq hvx u hu hadj => hQ.done v hv h0 (fun h => ?_) trivial u hu hadj⟩ (by omega) (fun q' d' c1 c2 c3 c4 c5 => ?_) hs.1
    · rcases List.mem_cons.1 h with h | h
      · exact hvx (by omega)
      · exact hq h
    · refine hag (q', d') ⟨c1, ⟨c3.mem, fun v hv => ?_, c3.sort, c3.done⟩, by dsimp only; omega⟩ (by simp only [List.length_cons]; omega)
      dsimp only
      have ht := c3.top v hv
      cases q' with
      | nil =>
        dsimp only
        have := c1.hi x hx
        omega
      | cons z zs =>
        dsimp only
        have := c5 z (List.mem_cons_self ..)
        omega

theorem search_ok {g : GR} (hV : VG g) {s : Nat} (hs : s < g.2.length) : OK (Dist g s) (m_graph_search 1000 g (s : Int)) := by
  have h24 := hV.n24
  unfold m_graph_search
  rw [ckT (by omega)]
  refine iter_ok (fun z : Int × List Int => ∃ k : Nat, z.1 = k ∧ k ≤ g.2.length ∧ z.2.length = g.2.length ∧ ∀ v, v < k → D z.2 v = -1) (fun z => 31 - z.1.toNat) ?_ 1000 _ ⟨0, rfl, by omega, by simp, fun v hv => by omega⟩ (by simp)
  rintro ⟨z1, d⟩ ag ⟨k, hz, hk, hlen, hd⟩ hag
  dsimp only at hz hlen hd
  subst hz
  unfold graph_search_s3
  simp only [List.length_replicate, Int.toNat_natCast]
  by_cases hlt : k < g.2.length
  · rw [if_pos (by omega), ckT (by omega), wr (by omega) (by omega)]
    refine hag _ ⟨k + 1, by simp, by omega, by simp [hlen], fun v hv => ?_⟩ (by dsimp only; omega)
    show at' (d.set k (-1)) (v : Int) = -1
    rw [at_set _ _ _ _ (by omega)]
    split
    · rfl
    · exact hd v (by omega)
  · rw [if_neg (by omega)]
    unfold graph_search_k1
    rw [ckT (by omega)]
    have hd' : ∀ v, v < g.2.length → D d v = -1 := fun v hv => hd v (by omega)
    have hat : ∀ v, D (d.set s 0) v = if v = s then 0 else D d v := fun v => at_set _ _ _ _ (by omega)
    have hcn := cneg_set (x := 0) (by omega : s < d.length) (by rw [hd' s hs]; omega) (by omega)
    have hcl : cneg d ≤ d.length := List.countP_le_length ..
    refine search_loop hV _ _ ⟨by simp [hlen], fun v hv => ?_, fun v hv => ?_, fun v hv => ?_, fun v hv => ?_⟩ ⟨fun y hy => ?_, fun v hv => ?_, List.pairwise_singleton .., fun v hv h0 hq => ?_⟩ ?_
    · rw [Int.toNat_natCast, hat]; split
      · omega
      · rw [hd' v hv]; omega
    · rw [Int.toNat_natCast, hat]; split
      · rename_i h; exact ⟨fun _ => h, fun _ => rfl⟩
      · rename_i h; rw [hd' v hv]; exact ⟨fun h2 => by omega, fun h2 => absurd h2 h⟩
    · rw [Int.toNat_natCast, hat]; split
      · omega
      · rw [hd' v hv]; omega
    · rw [Int.toNat_natCast, hat]; split
      · omega
      · rw [hd' v hv]; omega
    · simp only [List.mem_singleton] at hy
      refine ⟨s, hs, hy, ?_⟩
      rw [Int.toNat_natCast, hat, if_pos rfl]; omega
    · rw [Int.toNat_natCast]
      have h2 : at' (d.set s 0) (s : Int) = 0 := (hat s).trans (if_pos rfl)
      show D (d.set s 0) v ≤ at' (d.set s 0) (s : Int) + 1
      rw [h2, hat]; split
      · omega
      · rw [hd' v hv]; omega
    · rw [Int.toNat_natCast, hat, if_neg (by rintro rfl; exact hq (by simp)), hd' v hv] at h0
      omega
    · rw [Int.toNat_natCast]
      simp only [List.length_singleton]
      omega
end Go.Proofs.Ytemhmmcakmidkaa
end
section
namespace Go.Proofs.Ytemhmmcakmidkaa
open Go.Sx

theorem awake01 : m_law01_awake 1000 = some true := by kernel_rfl

theorem fair_eq (g : GR) : (VG g → m_law01_fair 1000 g = some true) ∧ (¬ VG g → m_law01_fair 1000 g = some false) := by
  unfold m_law01_fair law01_fair_k1
  by_cases hl : light g
  · rw [(lightGraph_eq g).1 hl, bindS rfl, if_pos rfl]
    exact ⟨fun h => by rw [(refValid_eq g hl).1 h]; rfl, fun h => by rw [(refValid_eq g hl).2 h]; rfl⟩
  · rw [(lightGraph_eq g).2 hl]
    exact ⟨fun h => absurd h.light hl, fun _ => rfl⟩

theorem mod_ok (p : Int) {n : Nat} (hn : 1 ≤ n) (h24 : n ≤ 24) : OK (fun r : Int => ∃ s : Nat, r = s ∧ s < n) (m_made_Mod 1000 p (n : Int)) := by
  have h1 : Int.tmod p n < n := Int.tmod_lt_of_pos _ (by omega)
  have h2 : -(n : Int) < Int.tmod p n := by
    have := Int.tmod_lt_of_pos (-p) (show (0 : Int) < n by omega)
    rw [Int.neg_tmod] at this
    omega
  unfold m_made_Mod made_Mod_k1
  rw [ckT (by omega)]
  by_cases h : Int.tmod p n < 0
  · rw [if_pos h, wr (by omega) (by omega)]
    exact ⟨_, rfl, (Int.tmod p n + n).toNat, by omega, by omega⟩
  · rw [if_neg h]
    exact ⟨_, rfl, (Int.tmod p n).toNat, by omega, by omega⟩

theorem distances_ok {g : GR} (hV : VG g) {s : Nat} (hs : s < g.2.length) : OK (Dist g s) (m_graph_Distances 1000 g (s : Int)) := by
  unfold m_graph_Distances graph_Distances_k1
  rw [(valid_eq g hV.light).1 hV, bindS rfl, if_neg (by simp), if_neg (by omega), decide_eq_false (by omega), if_neg (by simp)]
  obtain ⟨d, hd, hD⟩ := search_ok hV hs
  rw [hd]
  exact ⟨d, rfl, hD⟩

theorem steps_pure (g : GR) (p : Int) : m_law01_GraphDistancesAreSteps 1000 g p = some true := by
  unfold m_law01_GraphDistancesAreSteps
  by_cases hV : VG g
  rotate_left
  · rw [(fair_eq g).2 hV, bindS rfl, if_pos (show (!false) = true from rfl), awake01]; rfl
  have h24 := hV.n24
  obtain ⟨r, hr, s, rfl, hs⟩ := mod_ok p hV.n1 h24
  obtain ⟨d, hd, hD⟩ := distances_ok hV hs
  have hlen := hD.len
  rw [(fair_eq g).1 hV, bindS rfl, if_neg (by simp), hr, bindS rfl, hd, bindS rfl, if_neg (by omega)]
  refine iter_eq (fun z : Int => ∃ v : Nat, z = v ∧ v ≤ g.2.length) (fun z => 31 - z.toNat) ?_ 1000 _ ⟨0, rfl, by omega⟩ (by simp)
  rintro z ag ⟨v, rfl, hv⟩ hag
  unfold law01_GraphDistancesAreSteps_s1 law01_GraphDistancesAreSteps_k1
  by_cases hlt : v < g.2.length
  rotate_left
  · rw [if_neg (by omega), awake01]; rfl
  have hdeg := (hV.node v hlt).deg
  have hlo := hD.lo v hlt
  have hhi := hD.hi v hlt
  have hlo' : -1 ≤ at' d (v : Int) := hlo
  rw [if_pos (by omega), ckT (by omega), if_neg (by omega), ckT (by omega)]
  have hz : ((decide (at' d (v : Int) = 0)) != (decide ((v : Int) = (s : Int)))) = false := by
    have := hD.zero v hlt
    by_cases e : v = s
    · have h0 : at' d (v : Int) = 0 := this.2 e
      rw [decide_eq_true h0, decide_eq_true (by omega)]; rfl
    · rw [decide_eq_false (fun h => e (this.1 h)), decide_eq_false (by omega)]; rfl
  rw [hz]
  unfold law01_GraphDistancesAreSteps_k2
  rw [if_neg (by simp)]
  refine iter_eq (fun z : Bool × Int => ∃ i : Nat, z.2 = i ∧ i ≤ (row g v).length ∧ ∀ k, k < i → ∀ u : Nat, (lnk (row g v) k).1 = u → D d u = D d v - 1 → z.1 = true) (fun z => 31 - z.2.toNat) ?_ 1000 _ ⟨0, rfl, by omega, fun k hk => by omega⟩ (by simp)
  rintro ⟨f, z⟩ ag2 ⟨i, hz, hi, hf⟩ hag2
  dsimp only at hz hf
  subst hz
  unfold law01_GraphDistancesAreSteps_s2
  dsimp only
  rw [ckT (by omega)]
  by_cases hil : i < (row g v).length
  · obtain ⟨u, hu, hue, hadj⟩ := hV.port hlt hil
    have hlu : -1 ≤ at' d (u : Int) := hD.lo u hu
    have hhu : at' d (u : Int) ≤ (g.2.length : Int) := hD.hi u hu
    have hhv : at' d (v : Int) ≤ (g.2.length : Int) := hhi
    have n1 : 0 ≤ at' d (v : Int) → 0 ≤ at' d (u : Int) ∧ at' d (u : Int) ≤ at' d (v : Int) + 1 := fun h => hD.next v hlt h u hu hadj
    have n2 : 0 ≤ at' d (u : Int) → 0 ≤ at' d (v : Int) ∧ at' d (v : Int) ≤ at' d (u : Int) + 1 := fun h => hD.next u hu h v hlt (hV.back hlt hadj)
    rw [if_pos (show (i : Int) < ((row g v).length : Int) by omega), ckT (by omega), ckT (show 0 ≤ (i : Int) ∧ (i : Int) < ((row g v).length : Int) by omega), show at' (at' g.2 (v : Int)) (i : Int) = lnk (row g v) i from rfl]
    unfold law01_GraphDistancesAreSteps_k6
    dsimp only
    rw [show at' (at' g.2 (v : Int)) (i : Int) = lnk (row g v) i from rfl, hue, ckT (by omega), ckT (by omega)]
    have hb : ((decide (at' d (u : Int) < 0)) != (decide (at' d (v : Int) < 0))) = false := by
      by_cases e : at' d (v : Int) < 0
      · rw [decide_eq_true e, decide_eq_true (by omega)]; rfl
      · rw [decide_eq_false e, decide_eq_false (by omega)]; rfl
    rw [hb, if_neg (by simp), ckT (by omega), wr (x := at' d (u : Int) - at' d (v : Int)) (by omega) (by omega), wr (x := at' d (v : Int) - at' d (u : Int)) (by omega) (by omega), if_neg (by omega), ckT (by omega), decide_eq_false (by omega), if_neg (by simp)]
    unfold law01_GraphDistancesAreSteps_k5
    dsimp only
    rw [wr (x := (i : Int) + 1) (by omega) (by omega)]
    by_cases hft : f = true
    · rw [if_pos hft]
      exact hag2 _ ⟨i + 1, by simp, by omega, fun _ _ _ _ _ => rfl⟩ (by dsimp only; omega)
    · rw [if_neg hft, ckT (by omega), wr (by omega) (by omega)]
      refine hag2 _ ⟨i + 1, by simp, by omega, fun k hk w hw he => ?_⟩ (by dsimp only; omega)
      by_cases hki : k = i
      · subst hki
        have : w = u := by omega
        subst this
        exact decide_eq_true he
      · exact absurd (hf k (by omega) w hw he) hft
  · rw [if_neg (show ¬ (i : Int) < ((row g v).length : Int) by omega)]
    unfold law01_GraphDistancesAreSteps_k3 law01_GraphDistancesAreSteps_k4
    rw [ckT (by omega)]
    have hgo : ag (wI .i64 ((v : Int) + 1)) = some true := by
      rw [wr (by omega) (by omega)]
      exact hag _ ⟨v + 1, by simp, by omega⟩ (by omega)
    by_cases hp : 0 < at' d (v : Int)
    · rw [if_pos hp]
      obtain ⟨u, hu, ⟨k, hk, hku⟩, he⟩ := hD.near v hlt hp
      rw [hf k (by omega) u hku he, if_neg (by simp)]
      exact hgo
    · rw [if_neg hp, if_neg (by simp)]
      exact hgo
end Go.Proofs.Ytemhmmcakmidkaa
end
section
namespace Go.Proofs.Ytemhmmcakmidkaa
open Go.Sx

/-- k steps lead from s to v -/
def Walk (g : GR) (s : Nat) : Nat → Nat → Prop
  | 0, v => v = s ∧ s < g.2.length
  | k + 1, v => ∃ u, Walk g s k u ∧ Adj g u v

theorem Walk.lt {g : GR} (hV : VG g) {s : Nat} : ∀ {k v : Nat}, Walk g s k v → v < g.2.length
  | 0, _, h => by obtain ⟨rfl, h⟩ := h; exact h
  | _ + 1, _, h => by obtain ⟨u, h1, h2⟩ := h; exact hV.adj_lt (Walk.lt hV h1) h2

theorem Walk.trans {g : GR} {s t : Nat} {k : Nat} (h : Walk g s k t) : ∀ {m v : Nat}, Walk g t m v → Walk g s (k + m) v
  | 0, _, h2 => by obtain ⟨rfl, _⟩ := h2; exact h
  | _ + 1, _, h2 => by obtain ⟨u, h3, h4⟩ := h2; exact ⟨u, Walk.trans h h3, h4⟩

theorem Walk.rev {g : GR} (hV : VG g) {s : Nat} : ∀ {k v : Nat}, Walk g s k v → Walk g v k s
  | 0, _, h => by obtain ⟨rfl, h⟩ := h; exact ⟨rfl, h⟩
  | k + 1, v, h => by
    obtain ⟨u, h1, h2⟩ := h
    have hu := Walk.lt hV h1
    have h3 : Walk g v 1 u := ⟨v, ⟨rfl, hV.adj_lt hu h2⟩, hV.back hu h2⟩
    have := Walk.trans h3 (Walk.rev hV h1)
    rwa [Nat.add_comm] at this

theorem Dist.le {g : GR} (hV : VG g) {s : Nat} {d : List Int} (h : Dist g s d) : ∀ {k v : Nat}, Walk g s k v → 0 ≤ D d v ∧ D d v ≤ k
  | 0, v, hw => by
    obtain ⟨rfl, hs⟩ := hw
    have := (h.zero v hs).2 rfl
    omega
  | k + 1, v, hw => by
    obtain ⟨u, h1, h2⟩ := hw
    have hu := Walk.lt hV h1
    have h3 := Dist.le hV h h1
    have h4 := h.next u hu h3.1 v (hV.adj_lt hu h2) h2
    omega

theorem Dist.walk {g : GR} (hV : VG g) {s : Nat} {d : List Int} (h : Dist g s d) : ∀ (k v : Nat), v < g.2.length → D d v = k → Walk g s k v
  | 0, v, hv, he => by
    have := (h.zero v hv).1 he
    exact ⟨this, by omega⟩
  | k + 1, v, hv, he => by
    obtain ⟨u, hu, hadj, hd⟩ := h.near v hv (by omega)
    exact ⟨u, Dist.walk hV h k u hu (by omega), hV.back hv hadj⟩

theorem Dist.pos {g : GR} (hV : VG g) {s : Nat} {d : List Int} (h : Dist g s d) {v : Nat} (hv : v < g.2.length) (h0 : 0 ≤ D d v) : Walk g s (D d v).toNat v :=
  Dist.walk hV h _ v hv (by omega)

/-- distances are symmetric -/
theorem Dist.symm {g : GR} (hV : VG g) {s t : Nat} {d e : List Int} (h : Dist g s d) (h2 : Dist g t e) (hs : s < g.2.length) (ht : t < g.2.length) : D d t = D e s := by
  have h3 := h.lo t ht
  have h4 := h2.lo s hs
  by_cases a : 0 ≤ D d t
  · have w1 := Dist.le hV h2 (Walk.rev hV (Dist.pos hV h ht a))
    have w2 := Dist.le hV h (Walk.rev hV (Dist.pos hV h2 hs w1.1))
    omega
  · by_cases b : 0 ≤ D e s
    · have w2 := Dist.le hV h (Walk.rev hV (Dist.pos hV h2 hs b))
      omega
    · omega

/-- a detour is not shorter -/
theorem Dist.tri {g : GR} (hV : VG g) {s t : Nat} {d e : List Int} (h : Dist g s d) (h2 : Dist g t e) {v : Nat} (ht : t < g.2.length) (hv : v < g.2.length) (a : 0 ≤ D d t) (b : 0 ≤ D e v) : 0 ≤ D d v ∧ D d v ≤ D d t + D e v := by
  have := Dist.le hV h (Walk.trans (Dist.pos hV h ht a) (Dist.pos hV h2 hv b))
  omega

theorem metric_pure (g : GR) (p q r : Int) : m_law01_GraphDistancesAreAMetric 1000 g p q r = some true := by
  unfold m_law01_GraphDistancesAreAMetric
  by_cases hV : VG g
  rotate_left
  · rw [(fair_eq g).2 hV, bindS rfl, if_pos (show (!false) = true from rfl), awake01]; rfl
  have h24 := hV.n24
  obtain ⟨_, hr1, x, rfl, hx⟩ := mod_ok p hV.n1 h24
  obtain ⟨_, hr2, y, rfl, hy⟩ := mod_ok q hV.n1 h24
  obtain ⟨_, hr3, z, rfl, hz⟩ := mod_ok r hV.n1 h24
  obtain ⟨a, ha, hA⟩ := distances_ok hV hx
  obtain ⟨b, hb, hB⟩ := distances_ok hV hy
  obtain ⟨c, hc, hC⟩ := distances_ok hV hz
  have la := hA.len
  have lb := hB.len
  have lc := hC.len
  rw [(fair_eq g).1 hV, bindS rfl, if_neg (by simp), hr1, bindS rfl, hr2, bindS rfl, hr3, bindS rfl, ha, bindS rfl, hb, bindS rfl, hc, bindS rfl, if_neg (by omega), if_neg (by omega), decide_eq_false (by omega)]
  have e1 : at' a (y : Int) = at' b (x : Int) := Dist.symm hV hA hB hx hy
  have e2 : at' b (z : Int) = at' c (y : Int) := Dist.symm hV hB hC hy hz
  have h1 : at' a (y : Int) ≤ (g.2.length : Int) := hA.hi y hy
  have h2 : at' b (z : Int) ≤ (g.2.length : Int) := hB.hi z hz
  have h3 : 0 ≤ at' a (y : Int) → 0 ≤ at' b (z : Int) → 0 ≤ at' a (z : Int) ∧ at' a (z : Int) ≤ at' a (y : Int) + at' b (z : Int) := fun u w => Dist.tri hV hA hB hy hz u w
  have last : law01_GraphDistancesAreAMetric_k2 1000 (x : Int) (y : Int) (z : Int) a b c false = some true := by
    unfold law01_GraphDistancesAreAMetric_k2 law01_GraphDistancesAreAMetric_k3
    rw [if_neg (by simp), awake01, bindS rfl, if_pos rfl, ckT (by omega), ckT (by omega), if_pos e1, ckT (by omega), ckT (by omega), decide_eq_true e2]
  unfold law01_GraphDistancesAreAMetric_k1
  rw [if_neg (by simp), ckT (by omega)]
  by_cases u : 0 ≤ at' a (y : Int)
  · rw [if_pos u, ckT (by omega)]
    by_cases w : 0 ≤ at' b (z : Int)
    · have := h3 u w
      rw [if_pos w, ckT (by omega), if_neg (by omega), ckT (by omega), ckT (by omega), ckT (by omega), wr (by omega) (by omega), decide_eq_false (by omega)]
      exact last
    · rw [if_neg w]; exact last
  · rw [if_neg u]; exact last
end Go.Proofs.Ytemhmmcakmidkaa
end
section
namespace Go.Proofs.Ytemhmmcakmidkaa
open Go.Sx

theorem greatest_ok (d : List Int) (h : d.length ≤ 30) : OK (fun r : Int => -1 ≤ r ∧ (∀ v, v < d.length → D d v ≤ r) ∧ (r = -1 ∨ ∃ v, v < d.length ∧ D d v = r)) (m_graph_greatest 1000 d) := by
  unfold m_graph_greatest
  refine iter_ok (fun z : Int × Int => ∃ k : Nat, z.2 = k ∧ k ≤ d.length ∧ -1 ≤ z.1 ∧ (∀ v, v < k → D d v ≤ z.1) ∧ (z.1 = -1 ∨ ∃ v, v < k ∧ D d v = z.1)) (fun z => 31 - z.2.toNat) ?_ 1000 _ ⟨0, rfl, by omega, by omega, fun v hv => by omega, .inl rfl⟩ (by simp)
  rintro ⟨m, z⟩ ag ⟨k, hz, hk, h1, h2, h3⟩ hag
  dsimp only at hz h1 h2 h3
  subst hz
  unfold graph_greatest_s1 graph_greatest_k1
  dsimp only
  by_cases hlt : k < d.length
  · rw [if_pos (by omega), ckT (by omega), wr (by omega) (by omega)]
    refine hag _ ⟨k + 1, by simp, by omega, by dsimp only; omega, fun v hv => ?_, ?_⟩ (by dsimp only; omega)
    · by_cases hvk : v = k
      · subst hvk; show D d v ≤ max m (D d v); omega
      · have := h2 v (by omega); show D d v ≤ max m (D d k); omega
    · by_cases hm : m ≤ D d k
      · exact .inr ⟨k, by omega, by show D d k = max m (D d k); omega⟩
      · rcases h3 with h3 | ⟨v, hv, he⟩
        · left; show max m (D d k) = -1; omega
        · exact .inr ⟨v, by omega, by show D d v = max m (D d k); omega⟩
  · rw [if_neg (by omega)]
    refine ⟨m, rfl, h1, fun v hv => h2 v (by omega), ?_⟩
    rcases h3 with h3 | ⟨v, hv, he⟩
    · exact .inl h3
    · exact .inr ⟨v, by omega, he⟩

/-- each node can be reached from each -/
def Conn (g : GR) : Prop := ∀ u v, u < g.2.length → v < g.2.length → ∃ k, Walk g u k v

theorem connected_eq {g : GR} (hV : VG g) : (Conn g → m_graph_Connected 1000 g = some true) ∧ (¬ Conn g → m_graph_Connected 1000 g = some false) := by
  have h1 := hV.n1
  have h24 := hV.n24
  unfold m_graph_Connected
  obtain ⟨d, hd, hD⟩ := search_ok hV (s := 0) (by omega)
  have hlen := hD.len
  rw [(valid_eq g hV.light).1 hV, bindS rfl, if_neg (by simp), show m_graph_search 1000 (g.1, g.2) 0 = some d from hd, bindS rfl]
  have key := iter_if (step := graph_Connected_s1 d) (K := some true) (bad := false) d.length (fun v => 0 ≤ D d v) (fun k ag hk hp => ?_) (fun k ag hk hp => ?_) (fun ag => ?_) 1000 (by omega)
  · have hiff : (∀ v, v < d.length → 0 ≤ D d v) ↔ Conn g := by
      constructor
      · intro h u v hu hv
        exact ⟨_, Walk.trans (Walk.rev hV (Dist.pos hV hD hu (h u (by omega)))) (Dist.pos hV hD hv (h v (by omega)))⟩
      · intro h v hv
        obtain ⟨k, hk⟩ := h 0 v (by omega) (by omega)
        exact (Dist.le hV hD hk).1
    exact ⟨fun h => key.1 (hiff.2 h), fun h => key.2 fun h2 => h (hiff.1 h2)⟩
  · unfold graph_Connected_s1
    rw [if_pos (by omega), ckT (by omega), if_neg (show ¬ D d k < 0 by omega), wr (by omega) (by omega)]
  · unfold graph_Connected_s1
    rw [if_pos (by omega), ckT (by omega), if_pos (show D d k < 0 by omega)]
  · unfold graph_Connected_s1 graph_Connected_k1
    rw [if_neg (by omega)]

/-- r is the eccentricity of s -/
def Ecc (g : GR) (s : Nat) (r : Int) : Prop := ∃ d, m_graph_search 1000 g (s : Int) = some d ∧ Dist g s d ∧ (∀ v, v < g.2.length → D d v ≤ r) ∧ ∃ v, v < g.2.length ∧ D d v = r

theorem Ecc.unique {g : GR} {s : Nat} {r r' : Int} (h : Ecc g s r) (h' : Ecc g s r') : r = r' := by
  obtain ⟨d, h1, _, h3, v, hv, hr⟩ := h
  obtain ⟨d', h1', _, h3', v', hv', hr'⟩ := h'
  rw [h1] at h1'
  cases h1'
  have := h3 v' hv'
  have := h3' v hv
  omega

theorem Ecc.pos {g : GR} {s : Nat} {r : Int} (hs : s < g.2.length) (h : Ecc g s r) : 0 ≤ r ∧ r ≤ (g.2.length : Int) := by
  obtain ⟨d, h1, h2, h3, v, hv, hr⟩ := h
  have := h3 s hs
  have := (h2.zero s hs).2 rfl
  have := h2.hi v hv
  omega

theorem ecc_search {g : GR} (hV : VG g) {s : Nat} (hs : s < g.2.length) : ∃ d r, m_graph_search 1000 g (s : Int) = some d ∧ m_graph_greatest 1000 d = some r ∧ Ecc g s r := by
  obtain ⟨d, hd, hD⟩ := search_ok hV hs
  have hlen := hD.len
  have h24 := hV.n24
  obtain ⟨r, hr, h1, h2, h3⟩ := greatest_ok d (by omega)
  have h0 := h2 s (by omega)
  have := (hD.zero s hs).2 rfl
  refine ⟨d, r, hd, hr, d, hd, hD, fun v hv => h2 v (by omega), ?_⟩
  rcases h3 with h3 | ⟨v, hv, he⟩
  · omega
  · exact ⟨v, by omega, he⟩

theorem eccentricity_ok {g : GR} (hV : VG g) (hc : Conn g) {s : Nat} (hs : s < g.2.length) : OK (Ecc g s) (m_graph_Eccentricity 1000 g (s : Int)) := by
  unfold m_graph_Eccentricity graph_Eccentricity_k1
  rw [(connected_eq hV).1 hc, bindS rfl, if_neg (by simp), if_neg (by omega), decide_eq_false (by omega), if_neg (by simp)]
  obtain ⟨d, r, h1, h2, h3⟩ := ecc_search hV hs
  rw [h1, bindS rfl, h2, bindS rfl]
  exact ⟨r, rfl, h3⟩

theorem eccentricity_no {g : GR} (hV : VG g) (hc : ¬ Conn g) (s : Int) : m_graph_Eccentricity 1000 g s = some (-1) := by
  unfold m_graph_Eccentricity graph_Eccentricity_k1
  rw [(connected_eq hV).2 hc]; rfl

theorem diameter_no {g : GR} (hV : VG g) (hc : ¬ Conn g) : m_graph_Diameter 1000 g = some (-1) := by
  unfold m_graph_Diameter
  rw [(connected_eq hV).2 hc]; rfl

theorem diameter_ok {g : GR} (hV : VG g) (hc : Conn g) : OK (fun r : Int => (∀ s, s < g.2.length → ∀ e, Ecc g s e → e ≤ r) ∧ ∃ s, s < g.2.length ∧ Ecc g s r) (m_graph_Diameter 1000 g) := by
  have h1 := hV.n1
  have h24 := hV.n24
  unfold m_graph_Diameter
  rw [(connected_eq hV).1 hc, bindS rfl, if_neg (by simp)]
  refine iter_ok (fun z : Int × Int => ∃ k : Nat, z.2 = k ∧ k ≤ g.2.length ∧ (∀ s, s < k → ∀ e, Ecc g s e → e ≤ z.1) ∧ ((k = 0 ∧ z.1 = 0) ∨ ∃ s, s < k ∧ Ecc g s z.1)) (fun z => 31 - z.2.toNat) ?_ 1000 _ ⟨0, rfl, by omega, fun v hv => by omega, .inl ⟨rfl, rfl⟩⟩ (by simp)
  rintro ⟨m, z⟩ ag ⟨k, hz, hk, h2, h3⟩ hag
  dsimp only at hz h2 h3
  subst hz
  unfold graph_Diameter_s1 graph_Diameter_k1
  dsimp only
  by_cases hlt : k < g.2.length
  · obtain ⟨d, r, e1, e2, e3⟩ := ecc_search hV hlt
    rw [if_pos (by omega), e1, bindS rfl, e2, bindS rfl, wr (by omega) (by omega)]
    have hr := Ecc.pos hlt e3
    have hmr : m ≤ r ∨ r < m := by omega
    refine hag _ ⟨k + 1, by simp, by omega, fun s hs e he => ?_, .inr ?_⟩ (by dsimp only; omega)
    · show e ≤ max m r
      by_cases hsk : s = k
      · subst hsk; have := Ecc.unique he e3; omega
      · have := h2 s (by omega) e he; omega
    · show ∃ s, s < k + 1 ∧ Ecc g s (max m r)
      rcases hmr with hmr | hmr
      · exact ⟨k, by omega, by rw [show max m r = r by omega]; exact e3⟩
      · rcases h3 with ⟨_, h3⟩ | ⟨s, hs, he⟩
        · omega
        · exact ⟨s, by omega, by rw [show max m r = m by omega]; exact he⟩
  · rw [if_neg (by omega)]
    refine ⟨m, rfl, fun s hs => h2 s (by omega), ?_⟩
    rcases h3 with ⟨h3, _⟩ | ⟨s, hs, he⟩
    · omega
    · exact ⟨s, by omega, he⟩

theorem eccentricities_pure (g : GR) : m_law01_GraphEccentricities 1000 g = some true := by
  unfold m_law01_GraphEccentricities
  by_cases hV : VG g
  rotate_left
  · rw [(fair_eq g).2 hV, bindS rfl, if_pos (show (!false) = true from rfl), awake01]; rfl
  have h24 := hV.n24
  rw [(fair_eq g).1 hV, bindS rfl, if_neg (by simp)]
  by_cases hc : Conn g
  rotate_left
  · rw [diameter_no hV hc, bindS rfl, (connected_eq hV).2 hc, bindS rfl, if_pos (show (!false) = true from rfl), awake01, bindS rfl, if_pos rfl, if_pos rfl, eccentricity_no hV hc]; rfl
  obtain ⟨r, hr, hmax, s0, hs0, he0⟩ := diameter_ok hV hc
  rw [hr, bindS rfl, (connected_eq hV).1 hc, bindS rfl, if_neg (by simp)]
  have hr0 := Ecc.pos hs0 he0
  refine iter_eq (fun z : Bool × Int => ∃ k : Nat, z.2 = k ∧ k ≤ g.2.length ∧ (s0 < k → z.1 = true)) (fun z => 31 - z.2.toNat) ?_ 1000 _ ⟨0, rfl, by omega, fun h => by omega⟩ (by simp)
  rintro ⟨f, z⟩ ag ⟨k, hz, hk, hf⟩ hag
  dsimp only at hz hf
  subst hz
  unfold law01_GraphEccentricities_s1 law01_GraphEccentricities_k2 law01_GraphEccentricities_k3
  dsimp only
  by_cases hlt : k < g.2.length
  · obtain ⟨e, h1, he⟩ := eccentricity_ok hV hc hlt
    have hp := Ecc.pos hlt he
    have hle := hmax k hlt e he
    have h2 : r ≤ 2 * e := by
      obtain ⟨d0, _, hD0, _, t, ht, hrt⟩ := he0
      obtain ⟨d, _, hD, hm, _⟩ := he
      obtain ⟨w1, hw1⟩ := hc s0 k hs0 hlt
      obtain ⟨w2, hw2⟩ := hc k t hlt ht
      have a1 := (Dist.le hV hD0 hw1).1
      have a2 := (Dist.le hV hD hw2).1
      have h3 := Dist.tri hV hD0 hD hlt ht a1 a2
      have h4 := Dist.symm hV hD0 hD hs0 hlt
      have h5 := hm s0 hs0
      have h6 := hm t ht
      omega
    rw [if_pos (by omega), h1, bindS rfl, if_neg (by omega), if_neg (by omega), wr (x := 2 * e) (by omega) (by omega), decide_eq_false (by omega)]
    unfold law01_GraphEccentricities_k5 law01_GraphEccentricities_k4
    dsimp only
    rw [if_neg (by simp), wr (by omega) (by omega)]
    by_cases hft : f = true
    · rw [if_pos hft]
      exact hag _ ⟨k + 1, by simp, by omega, fun _ => rfl⟩ (by dsimp only; omega)
    · rw [if_neg hft]
      refine hag _ ⟨k + 1, by simp, by omega, fun h => ?_⟩ (by dsimp only; omega)
      by_cases hsk : s0 = k
      · subst hsk; exact decide_eq_true (Ecc.unique he he0)
      · exact absurd (hf (by omega)) hft
  · rw [if_neg (by omega), awake01, bindS rfl, if_pos rfl, hf (by omega)]
end Go.Proofs.Ytemhmmcakmidkaa
end
section
namespace Go.Proofs.Ytemhmmcakmidkaa
open Go.Sx

theorem portTo_eq (g : GR) (v : Nat) (u : Int) (hv : v < g.2.length) (hl : (row g v).length ≤ 30) : m_graph_PortTo 1000 g v u = some (portOf (row g v) u) := by
  unfold m_graph_PortTo
  rw [ckT (by omega)]
  rcases portOf_cases (row g v) u with ⟨i, hi, hu, hf, he⟩ | ⟨hf, he⟩
  · rw [he]
    refine iter_eq (fun x : Int => ∃ k : Nat, x = k ∧ k ≤ i) (fun x => 31 - x.toNat) ?_ 1000 _ ⟨0, rfl, by omega⟩ (by omega)
    rintro x ag ⟨k, rfl, hk⟩ hag
    unfold graph_PortTo_s1
    rw [if_pos (show (k : Int) < ((row g v).length : Int) by omega), ckT (show 0 ≤ (k : Int) ∧ (k : Int) < ((row g v).length : Int) by omega)]
    by_cases e : k = i
    · subst e; exact if_pos hu
    · rw [if_neg (hf k (by omega)), wr (by omega) (by omega)]
      exact hag _ ⟨k + 1, by omega, by omega⟩ (by omega)
  · rw [he]
    refine iter_eq (fun x : Int => ∃ k : Nat, x = k ∧ k ≤ (row g v).length) (fun x => 31 - x.toNat) ?_ 1000 _ ⟨0, rfl, by omega⟩ (by omega)
    rintro x ag ⟨k, rfl, hk⟩ hag
    unfold graph_PortTo_s1
    by_cases e : k < (row g v).length
    · rw [if_pos (show (k : Int) < ((row g v).length : Int) by omega), ckT (show 0 ≤ (k : Int) ∧ (k : Int) < ((row g v).length : Int) by omega), if_neg (hf k e), wr (by omega) (by omega)]
      exact hag _ ⟨k + 1, by omega, by omega⟩ (by omega)
    · rw [if_neg (show ¬ (k : Int) < ((row g v).length : Int) by omega)]; rfl

/-- the port that leads back -/
theorem back_ok {g : GR} (hV : VG g) {v i : Nat} (hv : v < g.2.length) (hi : i < (row g v).length) : ∃ u j : Nat, u < g.2.length ∧ (lnk (row g v) i).1 = (u : Int) ∧ j < (row g u).length ∧ (lnk (row g u) j).1 = (v : Int) ∧ m_graph_Back 1000 g (v : Int) (i : Int) = some (j : Int) := by
  obtain ⟨u, hu, hue, hadj⟩ := hV.port hv hi
  obtain ⟨j', hj', hjv'⟩ := hV.back hv hadj
  have hl := hV.light.2.2 u hu
  rcases portOf_cases (row g u) v with ⟨j, hj, hjv, hjf, he⟩ | ⟨hf, _⟩
  rotate_left
  · exact absurd hjv' (hf j' hj')
  refine ⟨u, j, hu, hue, hj, hjv, ?_⟩
  unfold m_graph_Back graph_Back_k1 graph_Back_k2
  rw [(valid_eq g hV.light).1 hV, bindS rfl, if_neg (by simp), if_neg (by omega), decide_eq_false (by omega), if_neg (by simp), if_neg (by omega), ckT (by omega), decide_eq_false (show ¬ ((row g v).length : Int) ≤ (i : Int) by omega), if_neg (by simp), ckT (by omega), ckT (show 0 ≤ (i : Int) ∧ (i : Int) < ((row g v).length : Int) by omega), show at' (at' g.2 (v : Int)) (i : Int) = lnk (row g v) i from rfl, hue, portTo_eq g u v hu hl, he]
  rfl

theorem back_no {g : GR} (hV : VG g) {v : Nat} (hv : v < g.2.length) {i : Int} (hi : i < 0 ∨ ((row g v).length : Int) ≤ i) : m_graph_Back 1000 g (v : Int) i = some (-1) := by
  unfold m_graph_Back graph_Back_k1 graph_Back_k2
  rw [(valid_eq g hV.light).1 hV, bindS rfl, if_neg (by simp), if_neg (by omega), decide_eq_false (by omega), if_neg (by simp)]
  by_cases h : i < 0
  · rw [if_pos h, if_pos rfl]
  · rw [if_neg h, ckT (by omega), decide_eq_true (show ((row g v).length : Int) ≤ i by omega), if_pos rfl]

theorem degree_eq {g : GR} (hV : VG g) {v : Nat} (hv : v < g.2.length) : m_graph_Degree 1000 g (v : Int) = some ((row g v).length : Int) := by
  unfold m_graph_Degree graph_Degree_k1
  rw [(valid_eq g hV.light).1 hV, bindS rfl, if_neg (by simp), if_neg (by omega), decide_eq_false (by omega), if_neg (by simp), ckT (by omega)]

theorem back_pure (g : GR) : m_law01_GraphBackIsMutual 1000 g = some true := by
  unfold m_law01_GraphBackIsMutual
  by_cases hV : VG g
  rotate_left
  · rw [(fair_eq g).2 hV, bindS rfl, if_pos (show (!false) = true from rfl), awake01]; rfl
  have h24 := hV.n24
  rw [(fair_eq g).1 hV, bindS rfl, if_neg (by simp)]
  refine iter_eq (fun z : Int => ∃ v : Nat, z = v ∧ v ≤ g.2.length) (fun z => 31 - z.toNat) ?_ 1000 _ ⟨0, rfl, by omega⟩ (by simp)
  rintro z ag ⟨v, rfl, hv⟩ hag
  unfold law01_GraphBackIsMutual_s1 law01_GraphBackIsMutual_k1
  by_cases hlt : v < g.2.length
  rotate_left
  · rw [if_neg (by omega), awake01]; rfl
  have hdeg := (hV.node v hlt).deg
  rw [if_pos (by omega)]
  refine iter_eq (fun z : Int => ∃ i : Nat, z = i ∧ i ≤ (row g v).length) (fun z => 31 - z.toNat) ?_ 1000 _ ⟨0, rfl, by omega⟩ (by simp)
  rintro z ag2 ⟨i, rfl, hi⟩ hag2
  unfold law01_GraphBackIsMutual_s2
  rw [ckT (by omega)]
  by_cases hil : i < (row g v).length
  · obtain ⟨u, j, hu, hue, hj, hjv, hb⟩ := back_ok hV hlt hil
    obtain ⟨v', i', hv', hve', hi', hiu', hb'⟩ := back_ok hV hu hj
    have : v' = v := by omega
    subst this
    have hii : i' = i := by
      have hlk := (hV.node v' hlt).links
      rcases Nat.lt_trichotomy i' i with h | h | h
      · exact absurd (hiu'.trans hue.symm) ((hlk i hil).2.2.2 i' h)
      · exact h
      · exact absurd (hue.trans hiu'.symm) ((hlk i' hi').2.2.2 i h)
    subst hii
    rw [if_pos (show (i' : Int) < ((row g v').length : Int) by omega), ckT (by omega), ckT (show 0 ≤ (i' : Int) ∧ (i' : Int) < ((row g v').length : Int) by omega), hb, bindS rfl, if_neg (by omega), show at' (at' g.2 (v' : Int)) (i' : Int) = lnk (row g v') i' from rfl, hue, ckT (by omega), if_neg (show ¬ ((row g u).length : Int) ≤ (j : Int) by omega), ckT (by omega), ckT (show 0 ≤ (j : Int) ∧ (j : Int) < ((row g u).length : Int) by omega), if_neg (show ¬ (lnk (row g u) j).1 ≠ (v' : Int) from fun h => h hjv), hb', bindS rfl, decide_eq_false (by omega)]
    unfold law01_GraphBackIsMutual_k4
    rw [if_neg (by simp), wr (by omega) (by omega)]
    exact hag2 _ ⟨i' + 1, by simp, by omega⟩ (by omega)
  · rw [if_neg (show ¬ (i : Int) < ((row g v).length : Int) by omega)]
    unfold law01_GraphBackIsMutual_k2 law01_GraphBackIsMutual_k3
    rw [ckT (by omega), back_no hV hlt (.inr (Int.le_refl _)), bindS rfl, if_neg (by simp), back_no hV hlt (.inl (by decide)), bindS rfl, if_neg (by simp), degree_eq hV hlt, bindS rfl, ckT (by omega), decide_eq_false (by simp), if_neg (by simp), wr (by omega) (by omega)]
    exact hag _ ⟨v + 1, by simp, by omega⟩ (by omega)
end Go.Proofs.Ytemhmmcakmidkaa
end
section
namespace Go.Proofs.Ytemhmmcakmidkaa
open Go.Sx

def sumN (f : Nat → Nat) : Nat → Nat
  | 0 => 0
  | k + 1 => sumN f k + f k

theorem sumN_le {f h : Nat → Nat} : ∀ {n : Nat}, (∀ v, v < n → f v ≤ h v) → sumN f n ≤ sumN h n
  | 0, _ => Nat.le_refl _
  | n + 1, H => Nat.add_le_add (sumN_le fun v hv => H v (by omega)) (H n (by omega))

theorem sumN_eq {f h : Nat → Nat} : ∀ {n : Nat}, (∀ v, v < n → f v = h v) → sumN f n = sumN h n
  | 0, _ => rfl
  | n + 1, H => by
    show sumN f n + f n = sumN h n + h n
    rw [sumN_eq fun v hv => H v (by omega), H n (by omega)]

theorem sumN_add (f h : Nat → Nat) : ∀ n : Nat, sumN (fun v => f v + h v) n = sumN f n + sumN h n
  | 0 => rfl
  | n + 1 => by
    show sumN (fun v => f v + h v) n + (f n + h n) = sumN f n + f n + (sumN h n + h n)
    rw [sumN_add f h n]; omega

theorem sumN_const (c : Nat) : ∀ n : Nat, sumN (fun _ => c) n = c * n
  | 0 => rfl
  | n + 1 => by
    show sumN (fun _ => c) n + c = c * (n + 1)
    rw [sumN_const c n, Nat.mul_succ]

theorem sumN_swap (F : Nat → Nat → Nat) (m : Nat) : ∀ n : Nat, sumN (fun v => sumN (F v) m) n = sumN (fun u => sumN (fun v => F v u) n) m
  | 0 => by
    show 0 = sumN (fun _ => 0) m
    rw [sumN_const]; omega
  | n + 1 => by
    show sumN (fun v => sumN (F v) m) n + sumN (F n) m = sumN (fun u => sumN (fun v => F v u) n + F n u) m
    rw [sumN_swap F m n, sumN_add (fun u => sumN (fun v => F v u) n) (F n) m]

theorem sumN_one {f : Nat → Nat} : ∀ {n : Nat} (v : Nat), v < n → f v ≤ sumN f n
  | 0, v, h => by omega
  | n + 1, v, h => by
    show f v ≤ sumN f n + f n
    by_cases e : v = n
    · subst e; omega
    · have := sumN_one (f := f) (n := n) v (by omega); omega

open Classical in
noncomputable def ind (p : Prop) : Nat := if p then 1 else 0
theorem ind1 {p : Prop} (h : p) : ind p = 1 := if_pos h
theorem ind0 {p : Prop} (h : ¬ p) : ind p = 0 := if_neg h
theorem ind_cases (p : Prop) : (p ∧ ind p = 1) ∨ (¬ p ∧ ind p = 0) := by
  by_cases h : p
  · exact .inl ⟨h, ind1 h⟩
  · exact .inr ⟨h, ind0 h⟩

theorem sumN_delta (a : Nat) : ∀ n : Nat, sumN (fun u => ind (u = a)) n = ind (a < n)
  | 0 => (ind0 (by omega)).symm
  | n + 1 => by
    show sumN (fun u => ind (u = a)) n + ind (n = a) = _
    rw [sumN_delta a n]
    rcases ind_cases (a < n) with ⟨h1, e1⟩ | ⟨h1, e1⟩ <;> rcases ind_cases (n = a) with ⟨h2, e2⟩ | ⟨h2, e2⟩ <;> rcases ind_cases (a < n + 1) with ⟨h3, e3⟩ | ⟨h3, e3⟩ <;> omega

/-- k different numbers below n are k numbers -/
theorem sumN_count (f : Nat → Nat) (n : Nat) : ∀ k : Nat, (∀ i, i < k → f i < n) → (∀ i j, i < j → j < k → f i ≠ f j) → sumN (fun u => ind (∃ i, i < k ∧ f i = u)) n = k
  | 0, _, _ => by
    rw [sumN_eq (h := fun _ => 0) fun v _ => ind0 (fun ⟨i, hi, _⟩ => by omega), sumN_const]; omega
  | k + 1, h, hd => by
    have e : ∀ u, u < n → ind (∃ i, i < k + 1 ∧ f i = u) = ind (∃ i, i < k ∧ f i = u) + ind (u = f k) := by
      intro u _
      rcases ind_cases (∃ i, i < k ∧ f i = u) with ⟨⟨i, hi, he⟩, e1⟩ | ⟨h1, e1⟩
      · rw [e1, ind0 (p := u = f k) (fun h2 => hd i k hi (by omega) (he.trans h2)), ind1 ⟨i, by omega, he⟩]
      · rw [e1]
        by_cases h2 : u = f k
        · rw [ind1 h2, ind1 ⟨k, by omega, h2.symm⟩]
        · rw [ind0 h2, ind0]
          rintro ⟨i, hi, he⟩
          by_cases hik : i = k
          · subst hik; exact h2 he.symm
          · exact h1 ⟨i, by omega, he⟩
    rw [sumN_eq e, sumN_add (fun u => ind (∃ i, i < k ∧ f i = u)) (fun u => ind (u = f k)), sumN_count f n k (fun i hi => h i (by omega)) (fun i j hij hj => hd i j hij (by omega)), sumN_delta, ind1 (h k (by omega))]

/-- a symmetric table without a diagonal has an even sum -/
theorem sumN_even (A : Nat → Nat → Nat) : ∀ n : Nat, (∀ v u, v < n → u < n → A v u = A u v) → (∀ v, v < n → A v v = 0) → ∃ k, sumN (fun v => sumN (A v) n) n = 2 * k
  | 0, _, _ => ⟨0, rfl⟩
  | n + 1, hs, hd => by
    obtain ⟨k, hk⟩ := sumN_even A n (fun v u hv hu => hs v u (by omega) (by omega)) (fun v hv => hd v (by omega))
    refine ⟨k + sumN (A n) n, ?_⟩
    show sumN (fun v => sumN (A v) n + A v n) n + (sumN (A n) n + A n n) = _
    rw [sumN_add (fun v => sumN (A v) n) (fun v => A v n), hk, hd n (by omega), sumN_eq (f := fun v => A v n) (h := A n) fun v hv => hs v n (by omega) (by omega)]
    omega

theorem deg_sum {g : GR} (hV : VG g) {v : Nat} (hv : v < g.2.length) : (row g v).length = sumN (fun u => ind (Adj g v u)) g.2.length := by
  have hl := (hV.node v hv).links
  rw [← sumN_count (fun i => (lnk (row g v) i).1.toNat) g.2.length (row g v).length (fun i hi => by have := (hl i hi).1; omega) (fun i j hij hj => by
    have h1 := (hl i (by omega)).1
    have h2 := (hl j hj).1
    have := (hl j hj).2.2.2 i hij
    omega)]
  refine sumN_eq fun u _ => ?_
  have : (∃ i, i < (row g v).length ∧ (lnk (row g v) i).1.toNat = u) ↔ Adj g v u := by
    constructor
    · rintro ⟨i, hi, he⟩
      have := (hl i hi).1
      exact ⟨i, hi, by omega⟩
    · rintro ⟨i, hi, he⟩
      exact ⟨i, hi, by omega⟩
  rw [propext this]

theorem adj_irrefl {g : GR} (hV : VG g) {v : Nat} (hv : v < g.2.length) : ¬ Adj g v v := by
  rintro ⟨i, hi, he⟩
  exact ((hV.node v hv).links i hi).2.1 he

theorem adj_symm {g : GR} (hV : VG g) {v u : Nat} (hv : v < g.2.length) (hu : u < g.2.length) : ind (Adj g v u) = ind (Adj g u v) := by
  rw [propext (show Adj g v u ↔ Adj g u v from ⟨hV.back hv, hV.back hu⟩)]

def degSum (g : GR) : Nat := sumN (fun v => (row g v).length) g.2.length

theorem degSum_even {g : GR} (hV : VG g) : ∃ k, degSum g = 2 * k := by
  unfold degSum
  rw [sumN_eq fun v hv => deg_sum hV hv]
  exact sumN_even (fun v u => ind (Adj g v u)) g.2.length (fun v u hv hu => adj_symm hV hv hu) (fun v hv => ind0 (adj_irrefl hV hv))

theorem degSum_conn {g : GR} (hV : VG g) (hc : Conn g) : 2 * (g.2.length - 1) ≤ degSum g := by
  have hn := hV.n1
  obtain ⟨d, _, hD⟩ := search_ok hV (s := 0) (by omega)
  have hpos : ∀ v, v < g.2.length → 0 ≤ D d v := fun v hv => by
    obtain ⟨k, hk⟩ := hc 0 v (by omega) hv
    exact (Dist.le hV hD hk).1
  have h1 : sumN (fun v => sumN (fun u => ind (Adj g v u ∧ D d u = D d v - 1) + ind (Adj g v u ∧ D d u = D d v + 1)) g.2.length) g.2.length ≤ degSum g := by
    unfold degSum
    refine sumN_le fun v hv => ?_
    rw [deg_sum hV hv]
    refine sumN_le fun u hu => ?_
    rcases ind_cases (Adj g v u ∧ D d u = D d v - 1) with ⟨a, e1⟩ | ⟨a, e1⟩
    · rw [e1, ind0 (p := Adj g v u ∧ D d u = D d v + 1) (fun b => by omega), ind1 a.1]; omega
    · rcases ind_cases (Adj g v u ∧ D d u = D d v + 1) with ⟨b, e2⟩ | ⟨b, e2⟩
      · rw [e1, e2, ind1 b.1]; omega
      · rw [e1, e2]; omega
  have h2 : sumN (fun v => sumN (fun u => ind (Adj g v u ∧ D d u = D d v + 1)) g.2.length) g.2.length = sumN (fun v => sumN (fun u => ind (Adj g v u ∧ D d u = D d v - 1)) g.2.length) g.2.length := by
    rw [sumN_swap]
    refine sumN_eq fun u hu => sumN_eq fun v hv => ?_
    rw [propext (show (Adj g v u ∧ D d u = D d v + 1) ↔ (Adj g u v ∧ D d v = D d u - 1) from ⟨fun h => ⟨hV.back hv h.1, by omega⟩, fun h => ⟨hV.back hu h.1, by omega⟩⟩)]
  have h3 : sumN (fun v => ind (v ≠ 0)) g.2.length ≤ sumN (fun v => sumN (fun u => ind (Adj g v u ∧ D d u = D d v - 1)) g.2.length) g.2.length := by
    refine sumN_le fun v hv => ?_
    by_cases h0 : v = 0
    · rw [ind0 (fun h => h h0)]; omega
    · rw [ind1 h0]
      have hp := hpos v hv
      have hz := hD.zero v hv
      obtain ⟨u, hu, ha, he⟩ := hD.near v hv (by
        have : D d v ≠ 0 := fun h => h0 (hz.1 h)
        omega)
      have := sumN_one (f := fun u => ind (Adj g v u ∧ D d u = D d v - 1)) u hu
      rw [ind1 ⟨ha, he⟩] at this
      exact this
  have h4 : ∀ n, 1 ≤ n → sumN (fun v => ind (v ≠ 0)) n = n - 1 := by
    intro n
    induction n with
    | zero => intro h; omega
    | succ n ih =>
      intro _
      show sumN (fun v => ind (v ≠ 0)) n + ind (n ≠ 0) = n
      by_cases h0 : n = 0
      · subst h0; rw [ind0 (by omega)]; rfl
      · rw [ih (by omega), ind1 h0]; omega
  rw [h4 _ hn] at h3
  rw [sumN_eq (fun v _ => sumN_add (fun u => ind (Adj g v u ∧ D d u = D d v - 1)) (fun u => ind (Adj g v u ∧ D d u = D d v + 1)) g.2.length), sumN_add (fun v => sumN (fun u => ind (Adj g v u ∧ D d u = D d v - 1)) g.2.length) (fun v => sumN (fun u => ind (Adj g v u ∧ D d u = D d v + 1)) g.2.length), h2] at h1
  omega

def leaf (g : GR) (v : Nat) : Nat := if (row g v).length = 1 then 1 else 0

theorem degSum_leaves {g : GR} (hV : VG g) (hc : Conn g) (h2 : 2 ≤ g.2.length) : 2 * g.2.length ≤ degSum g + sumN (leaf g) g.2.length := by
  unfold degSum
  rw [← sumN_add, ← sumN_const]
  refine sumN_le fun v hv => ?_
  have h1 : 1 ≤ (row g v).length := by
    obtain ⟨k, hk⟩ := hc (if v = 0 then 1 else 0) v (by split <;> omega) hv
    cases k with
    | zero =>
      obtain ⟨h, _⟩ := hk
      split at h <;> omega
    | succ k =>
      obtain ⟨u, hw, ha⟩ := hk
      obtain ⟨i, hi, _⟩ := hV.back (Walk.lt hV hw) ha
      omega
  unfold leaf
  split <;> omega

theorem degSum_le {g : GR} (hV : VG g) : degSum g ≤ 24 * 24 := by
  have h24 := hV.n24
  have : degSum g ≤ sumN (fun _ => 24) g.2.length := sumN_le fun v hv => by have := (hV.node v hv).deg; omega
  rw [sumN_const] at this
  omega

theorem size_eq {g : GR} (hV : VG g) : m_graph_Size 1000 g = some ((g.2.length : Int), ((degSum g / 2 : Nat) : Int)) := by
  have h24 := hV.n24
  have hle := degSum_le hV
  unfold m_graph_Size
  rw [(valid_eq g hV.light).1 hV, bindS rfl, if_neg (by simp)]
  refine iter_eq (fun z : Int × Int => ∃ k : Nat, z.2 = k ∧ k ≤ g.2.length ∧ z.1 = (sumN (fun v => (row g v).length) k : Nat)) (fun z => 31 - z.2.toNat) ?_ 1000 _ ⟨0, rfl, by omega, rfl⟩ (by simp)
  rintro ⟨a, z⟩ ag ⟨k, hz, hk, ha⟩ hag
  dsimp only at hz ha
  subst hz
  unfold graph_Size_s1 graph_Size_k1
  dsimp only
  by_cases hlt : k < g.2.length
  · have hdeg := (hV.node k hlt).deg
    have hb : sumN (fun v => (row g v).length) k ≤ 24 * k := by
      rw [← sumN_const]
      exact sumN_le fun v hv => by have := (hV.node v (by omega)).deg; omega
    rw [if_pos (by omega), ckT (by omega), wr (x := a + ((row g k).length : Int)) (by omega) (by omega), wr (by omega) (by omega)]
    refine hag _ ⟨k + 1, by simp, by omega, ?_⟩ (by dsimp only; omega)
    show a + ((row g k).length : Int) = ((sumN (fun v => (row g v).length) k + (row g k).length : Nat) : Int)
    omega
  · have hkn : k = g.2.length := by omega
    rw [if_neg (by omega), ckT (by decide), ha, hkn]
    have e : Int.tdiv ((degSum g : Nat) : Int) 2 = ((degSum g / 2 : Nat) : Int) := by
      rw [Int.tdiv_eq_ediv_of_nonneg (by omega)]; omega
    rw [show sumN (fun v => (row g v).length) g.2.length = degSum g from rfl, e, wr (by omega) (by omega), hV.len]

theorem tree_eq {g : GR} (hV : VG g) : (Conn g → m_graph_Tree 1000 g = some (decide (((degSum g / 2 : Nat) : Int) = (g.2.length : Int) - 1))) ∧ (¬ Conn g → m_graph_Tree 1000 g = some false) := by
  have h24 := hV.n24
  unfold m_graph_Tree
  constructor
  · intro hc
    rw [(connected_eq hV).1 hc, bindS rfl, if_neg (by simp), size_eq hV, bindS rfl]
    dsimp only
    rw [wr (by omega) (by omega)]
  · intro hc
    rw [(connected_eq hV).2 hc]; rfl

theorem trees_pure (g : GR) : m_law01_GraphTreesHaveLeaves 1000 g = some true := by
  unfold m_law01_GraphTreesHaveLeaves
  by_cases hV : VG g
  rotate_left
  · rw [(fair_eq g).2 hV, bindS rfl, if_pos (show (!false) = true from rfl), awake01]; rfl
  have h24 := hV.n24
  have hn1 := hV.n1
  rw [(fair_eq g).1 hV, bindS rfl, if_neg (by simp), size_eq hV, bindS rfl]
  refine iter_eq (fun z : Int × Int => ∃ k : Nat, z.2 = k ∧ k ≤ g.2.length ∧ z.1 = (sumN (leaf g) k : Nat)) (fun z => 31 - z.2.toNat) ?_ 1000 _ ⟨0, rfl, by omega, rfl⟩ (by simp)
  rintro ⟨a, z⟩ ag ⟨k, hz, hk, ha⟩ hag
  dsimp only at hz ha
  subst hz
  have hb : sumN (leaf g) k ≤ 1 * k := by
    rw [← sumN_const]
    exact sumN_le fun v _ => by unfold leaf; split <;> omega
  unfold law01_GraphTreesHaveLeaves_s1
  dsimp only
  by_cases hlt : k < g.2.length
  · rw [if_pos (by omega), degree_eq hV hlt, bindS rfl]
    unfold law01_GraphTreesHaveLeaves_k4
    dsimp only
    rw [wr (x := (k : Int) + 1) (by omega) (by omega)]
    by_cases h1 : (row g k).length = 1
    · rw [if_pos (show ((row g k).length : Int) = 1 by omega), wr (by omega) (by omega)]
      refine hag _ ⟨k + 1, by simp, by omega, ?_⟩ (by dsimp only; omega)
      show a + 1 = ((sumN (leaf g) k + leaf g k : Nat) : Int)
      rw [show leaf g k = 1 from if_pos h1]; omega
    · rw [if_neg (show ¬ ((row g k).length : Int) = 1 by omega)]
      refine hag _ ⟨k + 1, by simp, by omega, ?_⟩ (by dsimp only; omega)
      show a = ((sumN (leaf g) k + leaf g k : Nat) : Int)
      rw [show leaf g k = 0 from if_neg h1]; omega
  · have hkn : k = g.2.length := by omega
    subst hkn
    rw [if_neg (by omega)]
    have last : law01_GraphTreesHaveLeaves_k2 1000 g ((g.2.length : Int), ((degSum g / 2 : Nat) : Int)) false = some true := by
      unfold law01_GraphTreesHaveLeaves_k2 law01_GraphTreesHaveLeaves_k3
      rw [if_neg (by simp), awake01, bindS rfl, if_pos rfl]
      simp
    unfold law01_GraphTreesHaveLeaves_k1
    dsimp only
    rw [wr (by omega) (by omega)]
    by_cases hc : Conn g
    rotate_left
    · rw [(connected_eq hV).2 hc, bindS rfl, if_neg (by simp), (tree_eq hV).2 hc, bindS rfl, if_neg (by simp)]
      exact last
    have hge := degSum_conn hV hc
    rw [(connected_eq hV).1 hc, bindS rfl, if_pos rfl, if_neg (by omega), (tree_eq hV).1 hc, bindS rfl]
    by_cases ht : ((degSum g / 2 : Nat) : Int) = (g.2.length : Int) - 1
    · rw [decide_eq_true ht, if_pos rfl, if_neg (fun h => h ht)]
      by_cases h2 : 2 ≤ g.2.length
      · have hl := degSum_leaves hV hc h2
        obtain ⟨q, hq⟩ := degSum_even hV
        rw [if_pos (by omega), decide_eq_false (by omega)]
        exact last
      · rw [if_neg (by omega)]; exact last
    · rw [decide_eq_false ht, if_neg (by simp)]
      exact last
end Go.Proofs.Ytemhmmcakmidkaa
end
section
namespace Go.Proofs.Ytemhmmcakmidkaa
open Go.Sx

theorem Dist.lt {g : GR} {s : Nat} {d : List Int} (h : Dist g s d) {v : Nat} (hv : v < g.2.length) : D d v < (g.2.length : Int) := by
  apply Classical.byContradiction
  intro hc
  have all : ∀ m : Nat, (m : Int) ≤ D d v → ∃ w, w < g.2.length ∧ D d w = D d v - m := by
    intro m
    induction m with
    | zero => intro _; exact ⟨v, hv, by omega⟩
    | succ m ih =>
      intro hm
      obtain ⟨w, hw, he⟩ := ih (by omega)
      obtain ⟨u, hu, _, hue⟩ := h.near w hw (by omega)
      exact ⟨u, hu, by omega⟩
  have ex : ∀ i : Nat, i < g.2.length + 1 → ∃ w, w < g.2.length ∧ D d w = (i : Int) := by
    intro i hi
    obtain ⟨w, hw, he⟩ := all (D d v - i).toNat (by omega)
    exact ⟨w, hw, by omega⟩
  have := pigeon g.2.length (fun i => if hi : i < g.2.length + 1 then Classical.choose (ex i hi) else 0) (g.2.length + 1) (fun i hi => by
    rw [dif_pos hi]; exact (Classical.choose_spec (ex i hi)).1) (fun i j hij hj he => by
    rw [dif_pos (by omega), dif_pos hj] at he
    have h1 := (Classical.choose_spec (ex i (by omega))).2
    have h2 := (Classical.choose_spec (ex j hj)).2
    rw [he] at h1
    omega)
  omega

/-- what the reference knows in round k before node v -/
def T (e : List Int) (k v w : Nat) : Int := if 0 ≤ D e w ∧ (D e w < k ∨ (D e w = k ∧ w < v)) then D e w else -1

theorem ref_inner {g : GR} (hV : VG g) {s : Nat} {e : List Int} (hE : Dist g s e) {k v : Nat} (hk1 : 1 ≤ k) (hk : k < g.2.length) (hv : v < g.2.length) (d0 : List Int) (ag : Int × List Int → Option (List Int)) (r : List Int)
    (hl : d0.length = g.2.length) (hd : ∀ w, w < g.2.length → D d0 w = T e k v w)
    (hag : ∀ d : List Int, d.length = g.2.length → (∀ w, w < g.2.length → D d w = T e k (v + 1) w) → ag ((v : Int) + 1, d) = some r) :
    iter (ref01_Distances_s3 g ((k : Int), d0) ((v : Int), d0) ag) 1000 ((0 : Int), d0) = some r := by
  have hdeg := (hV.node v hv).deg
  have h24 := hV.n24
  refine iter_eq (fun z : Int × List Int => ∃ i : Nat, z.1 = i ∧ i ≤ (row g v).length ∧ z.2.length = g.2.length ∧ (∀ w, w < g.2.length → w ≠ v → D z.2 w = T e k v w) ∧ ((D z.2 v = T e k v v ∧ (D z.2 v < 0 → ∀ j, j < i → ∀ u : Nat, (lnk (row g v) j).1 = u → D e u ≠ (k : Int) - 1)) ∨ (D z.2 v = k ∧ D e v = k))) (fun z => 31 - z.1.toNat) ?_ 1000 _ ⟨0, rfl, by omega, hl, fun w hw _ => hd w hw, .inl ⟨hd v hv, fun _ j hj => by omega⟩⟩ (by simp)
  rintro ⟨z, d⟩ ag2 ⟨i, hz, hi, hl, hw, hc⟩ hag2
  dsimp only at hz hl hw hc
  subst hz
  have tv : T e k v v = D e v ∨ T e k v v = -1 := by unfold T; split <;> simp
  have fin : (0 ≤ D d v ∨ i = (row g v).length) → ag (wI .i64 ((v : Int) + 1), d) = some r := by
    intro hx
    rw [wr (by omega) (by omega)]
    refine hag d hl fun w hwn => ?_
    by_cases hwv : w = v
    · subst hwv
      rcases hc with ⟨h1, h2⟩ | ⟨h1, h2⟩
      · rw [h1]
        unfold T at h1 ⊢
        by_cases a : 0 ≤ D e w ∧ (D e w < k ∨ (D e w = k ∧ w < w))
        · rw [if_pos a, if_pos (by omega)]
        · rw [if_neg a] at h1 ⊢
          rw [if_neg]
          intro b
          have hek : D e w = k := by omega
          obtain ⟨u, hu, ⟨j, hj, hju⟩, hue⟩ := hE.near w hv (by omega)
          have hid : i = (row g w).length := by omega
          exact h2 (by omega) j (by omega) u hju (by omega)
      · rw [h1]; unfold T; rw [if_pos (by omega)]; omega
    · rw [hw w hwn hwv]
      unfold T
      by_cases a : 0 ≤ D e w ∧ (D e w < k ∨ (D e w = k ∧ w < v))
      · rw [if_pos a, if_pos (by omega)]
      · rw [if_neg a, if_neg (by omega)]
  unfold ref01_Distances_s3 ref01_Distances_k6 ref01_Distances_k5 ref01_Distances_k7
  dsimp only
  rw [ckT (by omega)]
  by_cases hil : i < (row g v).length
  rotate_left
  · rw [if_neg (show ¬ (i : Int) < ((row g v).length : Int) by omega), if_neg (by simp)]
    exact fin (.inr (by omega))
  obtain ⟨u, hu, hue, hadj⟩ := hV.port hv hil
  rw [if_pos (show (i : Int) < ((row g v).length : Int) by omega), ckT (by omega)]
  by_cases hneg : at' d (v : Int) < 0
  rotate_left
  · rw [if_neg (by rw [decide_eq_false hneg]; simp)]
    exact fin (.inl (by show 0 ≤ at' d (v : Int); omega))
  have huv : u ≠ v := by rintro rfl; exact adj_irrefl hV hv hadj
  rw [if_pos (decide_eq_true hneg), ckT (by omega), ckT (show 0 ≤ (i : Int) ∧ (i : Int) < ((row g v).length : Int) by omega), show at' (at' g.2 (v : Int)) (i : Int) = lnk (row g v) i from rfl, hue, ckT (by omega), wr (x := (k : Int) - 1) (by omega) (by omega), wr (x := (i : Int) + 1) (by omega) (by omega)]
  have hneg' : D d v < 0 := hneg
  have hc1 : D d v = T e k v v ∧ (D d v < 0 → ∀ j, j < i → ∀ u : Nat, (lnk (row g v) j).1 = u → D e u ≠ (k : Int) - 1) := by
    rcases hc with hc | ⟨h, _⟩
    · exact hc
    · omega
  have hTu := hw u hu huv
  have hnv := hE.next u hu
  by_cases heq : at' d (u : Int) = (k : Int) - 1
  · have heq' : D d u = (k : Int) - 1 := heq
    rw [if_pos heq, ckT (by omega)]
    have heu : D e u = (k : Int) - 1 := by
      unfold T at hTu
      by_cases a : 0 ≤ D e u ∧ (D e u < k ∨ (D e u = k ∧ u < v))
      · rw [if_pos a] at hTu; omega
      · rw [if_neg a] at hTu; omega
    have hev : D e v = k := by
      have h1 := hnv (by omega) v hv (hV.back hv hadj)
      have h2 := hc1.1
      unfold T at h2
      by_cases a : 0 ≤ D e v ∧ (D e v < k ∨ (D e v = k ∧ v < v))
      · rw [if_pos a] at h2; omega
      · omega
    refine hag2 _ ⟨i + 1, by simp, by omega, by simp [hl], fun w hwn hwv => ?_, .inr ⟨?_, hev⟩⟩ (by dsimp only; omega)
    · show at' (d.set (Int.toNat (v : Int)) (k : Int)) (w : Int) = _
      rw [Int.toNat_natCast, at_set _ _ _ _ (by omega), if_neg hwv]
      exact hw w hwn hwv
    · show at' (d.set (Int.toNat (v : Int)) (k : Int)) (v : Int) = _
      rw [Int.toNat_natCast, at_set _ _ _ _ (by omega), if_pos rfl]
  · rw [if_neg heq]
    refine hag2 _ ⟨i + 1, by simp, by omega, hl, hw, .inl ⟨hc1.1, fun hn j hj w hw2 he => ?_⟩⟩ (by dsimp only; omega)
    by_cases hji : j = i
    · subst hji
      have : w = u := by omega
      subst this
      unfold T at hTu
      rw [if_pos (by omega)] at hTu
      exact heq (by show D d w = _; omega)
    · exact hc1.2 hn j (by omega) w hw2 he

theorem list_ext {d e : List Int} (hl : d.length = e.length) (h : ∀ v, v < d.length → D d v = D e v) : d = e := by
  apply List.ext_getElem hl
  intro i h1 h2
  rw [← D_getElem h1, ← D_getElem h2]
  exact h i h1

theorem refDistances_eq {g : GR} (hV : VG g) {s : Nat} (hs : s < g.2.length) {e : List Int} (hE : Dist g s e) : m_ref01_Distances 1000 g (s : Int) = some e := by
  have h24 := hV.n24
  unfold m_ref01_Distances ref01_Distances_k1
  rw [(refValid_eq g hV.light).1 hV, bindS rfl, if_neg (by simp), refIn_eq, wr (by omega) (by omega), decide_eq_true (by omega), bindS rfl, if_neg (by simp)]
  refine iter_eq (fun z : List Int × Int => ∃ k : Nat, z.2 = k ∧ k ≤ g.2.length ∧ z.1 = List.replicate k (-1)) (fun z => 31 - z.2.toNat) ?_ 1000 _ ⟨0, rfl, by omega, rfl⟩ (by simp)
  rintro ⟨l, z⟩ ag ⟨k, hz, hk, hlr⟩ hag
  dsimp only at hz hlr
  subst hz hlr
  unfold ref01_Distances_s4
  dsimp only
  by_cases hlt : k < g.2.length
  · rw [if_pos (by omega), ckT (by simp only [List.length_replicate, List.length_singleton]; omega), wr (by omega) (by omega)]
    exact hag _ ⟨k + 1, by simp, by omega, by dsimp only; rw [List.replicate_succ']⟩ (by dsimp only; omega)
  rw [if_neg (by omega)]
  have hkn : k = g.2.length := by omega
  subst hkn
  unfold ref01_Distances_k2
  rw [ckT (by simp only [List.length_replicate]; omega), Int.toNat_natCast]
  have hat : ∀ w, w < g.2.length → D ((List.replicate g.2.length (-1 : Int)).set s 0) w = T e 1 0 w := by
    intro w hw
    have h1 := at_set (List.replicate g.2.length (-1 : Int)) s w 0 (by simp only [List.length_replicate]; omega)
    have hz := hE.zero w hw
    show at' _ _ = _
    rw [h1]
    by_cases hws : w = s
    · have := hz.2 hws
      rw [if_pos hws]; unfold T; rw [if_pos (by omega)]; omega
    · have : D e w ≠ 0 := fun h => hws (hz.1 h)
      rw [if_neg hws, at'_nat, List.getD_eq_getElem?_getD, List.getElem?_replicate, if_pos hw]
      unfold T; rw [if_neg (by omega)]; rfl
  refine iter_eq (fun z : Int × List Int => ∃ k : Nat, z.1 = k ∧ 1 ≤ k ∧ (k ≤ g.2.length) ∧ z.2.length = g.2.length ∧ ∀ w, w < g.2.length → D z.2 w = T e k 0 w) (fun z => 31 - z.1.toNat) ?_ 1000 _ ⟨1, rfl, by omega, by omega, by simp, hat⟩ (by simp)
  rintro ⟨z, d⟩ ag1 ⟨k, hz, hk1, hk, hl, hd⟩ hag1
  dsimp only at hz hl hd
  subst hz
  unfold ref01_Distances_s1 ref01_Distances_k3
  dsimp only
  by_cases hkn : k < g.2.length
  rotate_left
  · rw [if_neg (by omega)]
    congr 1
    refine list_ext (hl.trans hE.len.symm) fun v hv => ?_
    have h1 := hE.lt (v := v) (by omega)
    have h2 := hE.lo v (by omega)
    rw [hd v (by omega)]
    unfold T
    by_cases a : 0 ≤ D e v
    · rw [if_pos (by omega)]
    · rw [if_neg (by omega)]; omega
  rw [if_pos (by omega)]
  refine iter_eq (fun z : Int × List Int => ∃ v : Nat, z.1 = v ∧ v ≤ g.2.length ∧ z.2.length = g.2.length ∧ ∀ w, w < g.2.length → D z.2 w = T e k v w) (fun z => 31 - z.1.toNat) ?_ 1000 _ ⟨0, rfl, by omega, hl, hd⟩ (by simp)
  rintro ⟨z, d⟩ ag2 ⟨v, hz, hv, hl, hd⟩ hag2
  dsimp only at hz hl hd
  subst hz
  unfold ref01_Distances_s2 ref01_Distances_k4
  dsimp only
  by_cases hvn : v < g.2.length
  · rw [if_pos (by omega)]
    exact ref_inner hV hE hk1 hkn hvn d ag2 e hl hd fun d' h1 h2 => hag2 _ ⟨v + 1, by simp, by omega, h1, h2⟩ (by dsimp only; omega)
  · rw [if_neg (by omega), wr (by omega) (by omega)]
    refine hag1 _ ⟨k + 1, by simp, by omega, by omega, hl, fun w hw => ?_⟩ (by dsimp only; omega)
    rw [hd w hw]
    unfold T
    by_cases a : 0 ≤ D e w ∧ (D e w < k ∨ (D e w = k ∧ w < v))
    · rw [if_pos a, if_pos (by omega)]
    · rw [if_neg a, if_neg (by omega)]
end Go.Proofs.Ytemhmmcakmidkaa
end
section
namespace Go.Proofs.Ytemhmmcakmidkaa
open Go.Sx

theorem refGreatest_ok (d : List Int) (h : d.length ≤ 30) : OK (fun r : Int => (¬ (∀ v, v < d.length → 0 ≤ D d v) → r = -1) ∧ ((∀ v, v < d.length → 0 ≤ D d v) → -1 ≤ r ∧ (∀ v, v < d.length → D d v ≤ r) ∧ (r = -1 ∨ ∃ v, v < d.length ∧ D d v = r))) (m_ref01_greatest 1000 d) := by
  unfold m_ref01_greatest
  refine iter_ok (fun z : Int × Int => ∃ k : Nat, z.2 = k ∧ k ≤ d.length ∧ -1 ≤ z.1 ∧ (∀ v, v < k → 0 ≤ D d v ∧ D d v ≤ z.1) ∧ (z.1 = -1 ∨ ∃ v, v < k ∧ D d v = z.1)) (fun z => 31 - z.2.toNat) ?_ 1000 _ ⟨0, rfl, by omega, by omega, fun v hv => by omega, .inl rfl⟩ (by simp)
  rintro ⟨m, z⟩ ag ⟨k, hz, hk, h1, h2, h3⟩ hag
  dsimp only at hz h1 h2 h3
  subst hz
  unfold ref01_greatest_s1 ref01_greatest_k1
  dsimp only
  by_cases hlt : k < d.length
  · rw [if_pos (by omega), ckT (by omega)]
    by_cases hneg : at' d (k : Int) < 0
    · rw [if_pos hneg]
      exact ⟨-1, rfl, fun _ => rfl, fun h => absurd (h k hlt) (by show ¬ 0 ≤ at' d (k : Int); omega)⟩
    rw [if_neg hneg, ckT (by omega), wr (by omega) (by omega)]
    have hk0 : 0 ≤ D d k := by show 0 ≤ at' d (k : Int); omega
    refine hag _ ⟨k + 1, by simp, by omega, by dsimp only; omega, fun v hv => ?_, ?_⟩ (by dsimp only; omega)
    · by_cases hvk : v = k
      · subst hvk; show 0 ≤ D d v ∧ D d v ≤ max m (D d v); omega
      · have := h2 v (by omega); show 0 ≤ D d v ∧ D d v ≤ max m (D d k); omega
    · by_cases hm : m ≤ D d k
      · exact .inr ⟨k, by omega, by show D d k = max m (D d k); omega⟩
      · rcases h3 with h3 | ⟨v, hv, he⟩
        · left; show max m (D d k) = -1; omega
        · exact .inr ⟨v, by omega, by show D d v = max m (D d k); omega⟩
  · rw [if_neg (by omega)]
    refine ⟨m, rfl, fun h => absurd (fun v hv => (h2 v (by omega)).1) h, fun _ => ⟨h1, fun v hv => (h2 v (by omega)).2, ?_⟩⟩
    rcases h3 with h3 | ⟨v, hv, he⟩
    · exact .inl h3
    · exact .inr ⟨v, by omega, he⟩

theorem conn_iff {g : GR} (hV : VG g) {s : Nat} (hs : s < g.2.length) {d : List Int} (hD : Dist g s d) : (∀ v, v < d.length → 0 ≤ D d v) ↔ Conn g := by
  have hlen := hD.len
  constructor
  · intro h u v hu hv
    exact ⟨_, Walk.trans (Walk.rev hV (Dist.pos hV hD hu (h u (by omega)))) (Dist.pos hV hD hv (h v (by omega)))⟩
  · intro h v hv
    obtain ⟨k, hk⟩ := h s v hs (by omega)
    exact (Dist.le hV hD hk).1

theorem refEcc_ok {g : GR} (hV : VG g) {s : Nat} (hs : s < g.2.length) : OK (fun r : Int => (Conn g → Ecc g s r) ∧ (¬ Conn g → r = -1)) (m_ref01_Eccentricity 1000 g (s : Int)) := by
  obtain ⟨d, hd, hD⟩ := search_ok hV hs
  have hlen := hD.len
  have h24 := hV.n24
  unfold m_ref01_Eccentricity
  obtain ⟨r, hr, h1, h2⟩ := refGreatest_ok d (by omega)
  rw [refDistances_eq hV hs hD, bindS rfl, hr]
  have hi := conn_iff hV hs hD
  refine ⟨r, rfl, fun hc => ?_, fun hc => h1 fun h => hc (hi.1 h)⟩
  obtain ⟨a1, a2, a3⟩ := h2 (hi.2 hc)
  have h0 := a2 s (by omega)
  have := (hD.zero s hs).2 rfl
  refine ⟨d, hd, hD, fun v hv => a2 v (by omega), ?_⟩
  rcases a3 with a3 | ⟨v, hv, he⟩
  · omega
  · exact ⟨v, by omega, he⟩

theorem refConn_eq {g : GR} (hV : VG g) : (Conn g → m_ref01_Connected 1000 g = some true) ∧ (¬ Conn g → m_ref01_Connected 1000 g = some false) := by
  have hn := hV.n1
  obtain ⟨r, hr, h1, h2⟩ := refEcc_ok hV (s := 0) (by omega)
  unfold m_ref01_Eccentricity at hr
  unfold m_ref01_Connected
  obtain ⟨d, hd, hr⟩ := bnd hr
  obtain ⟨x, hx, hr⟩ := bnd hr
  cases hr
  rw [show m_ref01_Distances 1000 (g.1, g.2) 0 = some d from hd, bindS rfl, hx, bindS rfl]
  constructor
  · intro hc
    rw [decide_eq_true (Ecc.pos (by omega) (h1 hc)).1]
  · intro hc
    rw [h2 hc]; rfl

theorem refDiameter_ok {g : GR} (hV : VG g) (hc : Conn g) : OK (fun r : Int => (∀ s, s < g.2.length → ∀ e, Ecc g s e → e ≤ r) ∧ ∃ s, s < g.2.length ∧ Ecc g s r) (m_ref01_Diameter 1000 g) := by
  have h1 := hV.n1
  have h24 := hV.n24
  unfold m_ref01_Diameter
  rw [(refConn_eq hV).1 hc, bindS rfl, if_neg (by simp)]
  refine iter_ok (fun z : Int × Int => ∃ k : Nat, z.2 = k ∧ k ≤ g.2.length ∧ (∀ s, s < k → ∀ e, Ecc g s e → e ≤ z.1) ∧ ((k = 0 ∧ z.1 = 0) ∨ ∃ s, s < k ∧ Ecc g s z.1)) (fun z => 31 - z.2.toNat) ?_ 1000 _ ⟨0, rfl, by omega, fun v hv => by omega, .inl ⟨rfl, rfl⟩⟩ (by simp)
  rintro ⟨m, z⟩ ag ⟨k, hz, hk, h2, h3⟩ hag
  dsimp only at hz h2 h3
  subst hz
  unfold ref01_Diameter_s1 ref01_Diameter_k1
  dsimp only
  by_cases hlt : k < g.2.length
  · obtain ⟨r, e1, e3, _⟩ := refEcc_ok hV hlt
    replace e3 := e3 hc
    rw [if_pos (by omega), e1, bindS rfl, wr (by omega) (by omega)]
    have hr := Ecc.pos hlt e3
    have hmr : m ≤ r ∨ r < m := by omega
    refine hag _ ⟨k + 1, by simp, by omega, fun s hs e he => ?_, .inr ?_⟩ (by dsimp only; omega)
    · show e ≤ max m r
      by_cases hsk : s = k
      · subst hsk; have := Ecc.unique he e3; omega
      · have := h2 s (by omega) e he; omega
    · show ∃ s, s < k + 1 ∧ Ecc g s (max m r)
      rcases hmr with hmr | hmr
      · exact ⟨k, by omega, by rw [show max m r = r by omega]; exact e3⟩
      · rcases h3 with ⟨_, h3⟩ | ⟨s, hs, he⟩
        · omega
        · exact ⟨s, by omega, by rw [show max m r = m by omega]; exact he⟩
  · rw [if_neg (by omega)]
    refine ⟨m, rfl, fun s hs => h2 s (by omega), ?_⟩
    rcases h3 with ⟨h3, _⟩ | ⟨s, hs, he⟩
    · omega
    · exact ⟨s, by omega, he⟩

theorem refSize_eq {g : GR} (hV : VG g) : m_ref01_Size 1000 g = some ((g.2.length : Int), ((degSum g / 2 : Nat) : Int)) := by
  have h24 := hV.n24
  have hle := degSum_le hV
  unfold m_ref01_Size
  rw [(refValid_eq g hV.light).1 hV, bindS rfl, if_neg (by simp)]
  refine iter_eq (fun z : Int × Int => ∃ k : Nat, z.2 = k ∧ k ≤ g.2.length ∧ z.1 = (sumN (fun v => (row g v).length) k : Nat)) (fun z => 31 - z.2.toNat) ?_ 1000 _ ⟨0, rfl, by omega, rfl⟩ (by simp)
  rintro ⟨a, z⟩ ag ⟨k, hz, hk, ha⟩ hag
  dsimp only at hz ha
  subst hz
  unfold ref01_Size_s1 ref01_Size_k1
  dsimp only
  by_cases hlt : k < g.2.length
  · have hdeg := (hV.node k hlt).deg
    have hb : sumN (fun v => (row g v).length) k ≤ 24 * k := by
      rw [← sumN_const]
      exact sumN_le fun v hv => by have := (hV.node v (by omega)).deg; omega
    rw [if_pos (by omega), ckT (by omega), wr (x := a + ((row g k).length : Int)) (by omega) (by omega), wr (by omega) (by omega)]
    refine hag _ ⟨k + 1, by simp, by omega, ?_⟩ (by dsimp only; omega)
    show a + ((row g k).length : Int) = ((sumN (fun v => (row g v).length) k + (row g k).length : Nat) : Int)
    omega
  · have hkn : k = g.2.length := by omega
    rw [if_neg (by omega), ckT (by decide), ha, hkn]
    have e : Int.tdiv ((degSum g : Nat) : Int) 2 = ((degSum g / 2 : Nat) : Int) := by
      rw [Int.tdiv_eq_ediv_of_nonneg (by omega)]; omega
    rw [show sumN (fun v => (row g v).length) g.2.length = degSum g from rfl, e, wr (by omega) (by omega)]

theorem sameInts_refl (l : List Int) (h : l.length ≤ 30) : m_ref01_SameInts 1000 l l = some true := by
  unfold m_ref01_SameInts
  rw [if_neg (by simp)]
  refine iter_eq (fun z : Int => ∃ k : Nat, z = k ∧ k ≤ l.length) (fun z => 31 - z.toNat) ?_ 1000 _ ⟨0, rfl, by omega⟩ (by simp)
  rintro z ag ⟨k, rfl, hk⟩ hag
  unfold ref01_SameInts_s1 ref01_SameInts_k1
  by_cases hlt : k < l.length
  · rw [if_pos (by omega), ckT (by omega), ckT (by omega), if_neg (by simp), wr (by omega) (by omega)]
    exact hag _ ⟨k + 1, by simp, by omega⟩ (by omega)
  · rw [if_neg (by omega)]

theorem measures_pure (g : GR) (p : Int) : m_law01_GraphMeasures 1000 g p = some true := by
  unfold m_law01_GraphMeasures law01_GraphMeasures_k1
  by_cases hl : light g
  rotate_left
  · rw [(lightGraph_eq g).2 hl, bindS rfl, if_pos (show (!false) = true from rfl), awake01]; rfl
  rw [(lightGraph_eq g).1 hl, bindS rfl, if_neg (by simp), awake01, bindS rfl, if_pos rfl]
  have g0 : m_ref01_greatest 1000 [] = some (-1) := rfl
  have s0 : m_ref01_SameInts 1000 [] [] = some true := rfl
  by_cases hV : VG g
  rotate_left
  · have v1 := (valid_eq g hl).2 hV
    have v2 := (refValid_eq g hl).2 hV
    have d1 : ∀ x, m_graph_Distances 1000 g x = some [] := fun x => by unfold m_graph_Distances; rw [v1]; rfl
    have d2 : ∀ x, m_ref01_Distances 1000 g x = some [] := fun x => by unfold m_ref01_Distances; rw [v2]; rfl
    have c1 : m_graph_Connected 1000 g = some false := by unfold m_graph_Connected; rw [v1]; rfl
    have c2 : m_ref01_Connected 1000 g = some false := by unfold m_ref01_Connected; rw [d2, bindS rfl, g0]; rfl
    have e1 : m_graph_Eccentricity 1000 g p = some (-1) := by unfold m_graph_Eccentricity; rw [c1]; rfl
    have e2 : m_ref01_Eccentricity 1000 g p = some (-1) := by unfold m_ref01_Eccentricity; rw [d2, bindS rfl, g0]; rfl
    have i1 : m_graph_Diameter 1000 g = some (-1) := by unfold m_graph_Diameter; rw [c1]; rfl
    have i2 : m_ref01_Diameter 1000 g = some (-1) := by unfold m_ref01_Diameter; rw [c2]; rfl
    have t1 : m_graph_Tree 1000 g = some false := by unfold m_graph_Tree; rw [c1]; rfl
    have t2 : m_ref01_Tree 1000 g = some false := by
      unfold m_ref01_Tree
      rw [show m_ref01_Size 1000 (g.1, g.2) = some (0, 0) by unfold m_ref01_Size; rw [show m_ref01_Valid 1000 ((g.1, g.2).1, (g.1, g.2).2) = some false from v2]; rfl, bindS rfl, c2]; rfl
    rw [d1, bindS rfl, d2, bindS rfl, s0, bindS rfl, if_pos rfl, c1, bindS rfl, c2, bindS rfl, if_pos (show (false == false) = true from rfl), e1, bindS rfl, e2, bindS rfl, if_pos rfl, i1, bindS rfl, i2, bindS rfl, if_pos rfl, t1, bindS rfl, t2]; rfl
  have h24 := hV.n24
  have tree : ∀ b, (b = true ↔ Conn g) → m_ref01_Tree 1000 g = some (b && decide (((degSum g / 2 : Nat) : Int) = (g.2.length : Int) - 1)) := by
    intro b hb
    unfold m_ref01_Tree ref01_Tree_k1
    rw [refSize_eq hV, bindS rfl]
    dsimp only
    rw [wr (by omega) (by omega)]
    cases b with
    | true => rw [(refConn_eq hV).1 (hb.1 rfl), bindS rfl, if_pos rfl]; rfl
    | false => rw [(refConn_eq hV).2 (fun h => by cases hb.2 h), bindS rfl]; rfl
  have dist : ∃ l, m_graph_Distances 1000 g p = some l ∧ m_ref01_Distances 1000 g p = some l ∧ l.length ≤ 30 ∧ ((p < 0 ∨ (g.2.length : Int) ≤ p) → l = []) := by
    by_cases hp : 0 ≤ p ∧ p < (g.2.length : Int)
    · obtain ⟨s, rfl⟩ : ∃ s : Nat, p = s := ⟨p.toNat, by omega⟩
      obtain ⟨d, hd, hD⟩ := distances_ok hV (show s < g.2.length by omega)
      exact ⟨d, hd, refDistances_eq hV (by omega) hD, by have := hD.len; omega, fun h => by omega⟩
    · refine ⟨[], ?_, ?_, by simp, fun _ => rfl⟩
      · unfold m_graph_Distances graph_Distances_k1
        rw [(valid_eq g hl).1 hV, bindS rfl, if_neg (by simp)]
        by_cases h0 : p < 0
        · rw [if_pos h0, if_pos rfl]
        · rw [if_neg h0, decide_eq_true (by omega), if_pos rfl]
      · unfold m_ref01_Distances ref01_Distances_k1
        rw [(refValid_eq g hl).1 hV, bindS rfl, if_neg (by simp), refIn_eq, wr (by omega) (by omega), decide_eq_false (by omega)]; rfl
  obtain ⟨l, hd1, hd2, hl30, hlno⟩ := dist
  have ecc : ∃ r, m_graph_Eccentricity 1000 g p = some r ∧ m_ref01_Eccentricity 1000 g p = some r := by
    by_cases hp : 0 ≤ p ∧ p < (g.2.length : Int)
    · obtain ⟨s, rfl⟩ : ∃ s : Nat, p = s := ⟨p.toNat, by omega⟩
      obtain ⟨r, h1, h2, h3⟩ := refEcc_ok hV (show s < g.2.length by omega)
      refine ⟨r, ?_, h1⟩
      by_cases hc : Conn g
      · obtain ⟨r', h1', h2'⟩ := eccentricity_ok hV hc (show s < g.2.length by omega)
        rw [h1', Ecc.unique h2' (h2 hc)]
      · rw [h3 hc]; exact eccentricity_no hV hc _
    · refine ⟨-1, ?_, ?_⟩
      · by_cases hc : Conn g
        · unfold m_graph_Eccentricity graph_Eccentricity_k1
          rw [(connected_eq hV).1 hc, bindS rfl, if_neg (by simp)]
          by_cases h0 : p < 0
          · rw [if_pos h0, if_pos rfl]
          · rw [if_neg h0, decide_eq_true (by omega), if_pos rfl]
        · exact eccentricity_no hV hc _
      · unfold m_ref01_Eccentricity
        rw [hd2, bindS rfl, hlno (by omega), g0]; rfl
  obtain ⟨r, he1, he2⟩ := ecc
  rw [hd1, bindS rfl, hd2, bindS rfl, sameInts_refl l hl30, bindS rfl, if_pos rfl]
  by_cases hc : Conn g
  · obtain ⟨x, hx, x1, x2, x3, x4⟩ := diameter_ok hV hc
    obtain ⟨y, hy, y1, y2, y3, y4⟩ := refDiameter_ok hV hc
    have hxy : x = y := by
      have a1 := x1 y2 y3 y y4
      have a2 := y1 x2 x3 x x4
      omega
    rw [(connected_eq hV).1 hc, bindS rfl, (refConn_eq hV).1 hc, bindS rfl, if_pos (show (true == true) = true from rfl), he1, bindS rfl, he2, bindS rfl, if_pos rfl, hx, bindS rfl, hy, bindS rfl, if_pos hxy, (tree_eq hV).1 hc, bindS rfl, tree true ⟨fun _ => hc, fun _ => rfl⟩, bindS rfl]
    simp
  · have i2 : m_ref01_Diameter 1000 g = some (-1) := by unfold m_ref01_Diameter; rw [(refConn_eq hV).2 hc]; rfl
    rw [(connected_eq hV).2 hc, bindS rfl, (refConn_eq hV).2 hc, bindS rfl, if_pos (show (false == false) = true from rfl), he1, bindS rfl, he2, bindS rfl, if_pos rfl, diameter_no hV hc, bindS rfl, i2, bindS rfl, if_pos rfl, (tree_eq hV).2 hc, bindS rfl, tree false ⟨fun h => (by cases h), fun h => absurd h hc⟩, bindS rfl]
    rfl
end Go.Proofs.Ytemhmmcakmidkaa
end
section
namespace Go.Proofs.Ytemhmmcakmidkaa
open Go.Sx

theorem wrapU (a : Nat) (h : a < 4294967296) : IntKind.u32.wrap (a : Int) = a := by rw [← wI_eq]; exact if_pos ⟨by omega, by omega⟩

def N32 (x : Int) : Nat := (BitVec.ofInt 32 x).toNat
theorem N32_lt (x : Int) : N32 x < 4294967296 := (BitVec.ofInt 32 x).isLt
theorem N32_nat {a : Nat} (h : a < 4294967296) : N32 (a : Int) = a := by
  unfold N32; rw [BitVec.ofInt_natCast, BitVec.toNat_ofNat]; exact Nat.mod_eq_of_lt h

theorem bAnd_eq (x y : Int) : bAnd .u32 x y = ((N32 x &&& N32 y : Nat) : Int) := by
  show IntKind.u32.wrap (((BitVec.ofInt 32 x &&& BitVec.ofInt 32 y).toNat : Nat) : Int) = _
  rw [BitVec.toNat_and]
  exact wrapU _ (Nat.lt_of_le_of_lt Nat.and_le_left (N32_lt x))
theorem bOr_eq (x y : Int) : bOr .u32 x y = ((N32 x ||| N32 y : Nat) : Int) := by
  show IntKind.u32.wrap (((BitVec.ofInt 32 x ||| BitVec.ofInt 32 y).toNat : Nat) : Int) = _
  rw [BitVec.toNat_or]
  exact wrapU _ (Nat.or_lt_two_pow (n := 32) (N32_lt x) (N32_lt y))
theorem bAndNot0 (x y : Int) : bAndNot .u32 x y = 0 ↔ ∀ i, (N32 x).testBit i = true → (N32 y).testBit i = true := by
  have e : bAndNot .u32 x y = (((BitVec.ofInt 32 x &&& ~~~ BitVec.ofInt 32 y).toNat : Nat) : Int) := wrapU _ (BitVec.ofInt 32 x &&& ~~~ BitVec.ofInt 32 y).isLt
  have hb : ∀ i, (BitVec.ofInt 32 x &&& ~~~ BitVec.ofInt 32 y).toNat.testBit i = ((N32 x).testBit i && (decide (i < 32) && !(N32 y).testBit i)) := by
    intro i
    have := BitVec.getLsbD_and (x := BitVec.ofInt 32 x) (y := ~~~ BitVec.ofInt 32 y) (i := i)
    rw [BitVec.getLsbD_not] at this
    exact this
  have hx : ∀ i, (N32 x).testBit i = true → i < 32 := by
    intro i hi
    apply Classical.byContradiction
    intro hc
    rw [Nat.testBit_lt_two_pow (Nat.lt_of_lt_of_le (N32_lt x) (Nat.pow_le_pow_right (n := 2) (by omega) (show 32 ≤ i by omega)))] at hi
    cases hi
  rw [e]
  constructor
  · intro h i hi
    have h0 : (BitVec.ofInt 32 x &&& ~~~ BitVec.ofInt 32 y).toNat = 0 := by omega
    have := hb i
    rw [h0, Nat.zero_testBit, hi, decide_eq_true (hx i hi)] at this
    simpa using this
  · intro h
    have : (BitVec.ofInt 32 x &&& ~~~ BitVec.ofInt 32 y).toNat = 0 := by
      apply Nat.eq_of_testBit_eq
      intro i
      rw [hb i, Nat.zero_testBit]
      cases hi : (N32 x).testBit i with
      | false => rfl
      | true => rw [h i hi]; simp
    omega
theorem pow32 {k : Nat} (hk : k < 32) : 2 ^ k < 4294967296 := Nat.pow_lt_pow_right (n := 32) (by omega) hk
theorem bShl1 {k : Nat} (hk : k < 32) : bShl .u32 1 (k : Int) = ((2 ^ k : Nat) : Int) := by
  show IntKind.u32.wrap (1 * 2 ^ (min ((k : Int).toNat) 32)) = _
  rw [Int.toNat_natCast, Nat.min_eq_left (by omega), Int.one_mul, show (2 : Int) ^ k = ((2 ^ k : Nat) : Int) by simp]
  exact wrapU _ (pow32 hk)
theorem bShr_eq {a k : Nat} (hk : k < 32) : bShr .u32 (a : Int) (k : Int) = ((a / 2 ^ k : Nat) : Int) := by
  show Int.fdiv (a : Int) (2 ^ (min ((k : Int).toNat) 32)) = _
  rw [Int.toNat_natCast, Nat.min_eq_left (by omega), show (2 : Int) ^ k = ((2 ^ k : Nat) : Int) by simp, Int.fdiv_eq_ediv_of_nonneg _ (Int.natCast_nonneg _)]
  simp
theorem hasBit {a k : Nat} (hk : k < 32) (ha : a < 4294967296) : bAnd .u32 (bShr .u32 (a : Int) (k : Int)) 1 = 1 ↔ a.testBit k = true := by
  have h1 : N32 1 = 1 := N32_nat (a := 1) (by omega)
  rw [bShr_eq hk, bAnd_eq, N32_nat (Nat.lt_of_le_of_lt (Nat.div_le_self _ _) ha), h1, Nat.and_one_is_mod, Nat.testBit_eq_decide_div_mod_eq, decide_eq_true_eq]
  omega

/-- the nodes with a neighbour in s -/
theorem around_ok {g : GR} (hV : VG g) {s : Nat} (hs : s < 4294967296) : OK (fun r : Int => ∃ m : Nat, r = m ∧ m < 4294967296 ∧ ∀ v, m.testBit v = true ↔ v < g.2.length ∧ ∃ u, Adj g v u ∧ s.testBit u = true) (m_graph_around 1000 g (s : Int)) := by
  have h24 := hV.n24
  unfold m_graph_around
  refine iter_ok (fun z : Int × Int => ∃ k : Nat, z.2 = k ∧ k ≤ g.2.length ∧ ∃ m : Nat, z.1 = m ∧ m < 4294967296 ∧ ∀ v, m.testBit v = true ↔ v < k ∧ ∃ u, Adj g v u ∧ s.testBit u = true) (fun z => 31 - z.2.toNat) ?_ 1000 _ ⟨0, rfl, by omega, 0, rfl, by omega, fun v => by simp⟩ (by simp)
  rintro ⟨a, z⟩ ag ⟨k, hz, hk, m, hm, hm32, hb⟩ hag
  dsimp only at hz hm
  subst hz hm
  unfold graph_around_s1 graph_around_k1
  dsimp only
  by_cases hlt : k < g.2.length
  rotate_left
  · rw [if_neg (by omega)]
    have hkn : k = g.2.length := by omega
    subst hkn
    exact ⟨_, rfl, m, rfl, hm32, hb⟩
  have hdeg := (hV.node k hlt).deg
  rw [if_pos (by omega), ckT (by omega)]
  refine iter_ok (fun z : Int × Int => ∃ i : Nat, z.2 = i ∧ i ≤ (row g k).length ∧ ∃ m : Nat, z.1 = m ∧ m < 4294967296 ∧ ∀ v, m.testBit v = true ↔ (v < k ∧ ∃ u, Adj g v u ∧ s.testBit u = true) ∨ (v = k ∧ ∃ j, j < i ∧ s.testBit (lnk (row g k) j).1.toNat = true)) (fun z => 31 - z.2.toNat) ?_ 1000 _ ⟨0, rfl, by omega, m, rfl, hm32, fun v => by rw [hb v]; exact ⟨.inl, fun h => h.elim id fun ⟨_, j, hj, _⟩ => absurd hj (by omega)⟩⟩ (by simp)
  rintro ⟨a, z⟩ ag2 ⟨i, hz, hi, m, hm, hm32, hb⟩ hag2
  dsimp only at hz hm
  subst hz hm
  unfold graph_around_s2 graph_around_k2 graph_around_k3
  dsimp only
  by_cases hil : i < (row g k).length
  · obtain ⟨u, hu, hue, hadj⟩ := hV.port hlt hil
    rw [if_pos (show (i : Int) < ((row g k).length : Int) by omega), ckT (show 0 ≤ (i : Int) ∧ (i : Int) < ((row g k).length : Int) by omega), show at' (at' g.2 (k : Int)) (i : Int) = lnk (row g k) i from rfl, hue, ckT (by omega), wr (by omega) (by omega)]
    by_cases hbit : s.testBit u = true
    · rw [if_pos ((hasBit (by omega) hs).2 hbit), ckT (by omega), bShl1 (by omega), bOr_eq, N32_nat hm32, N32_nat (pow32 (by omega))]
      refine hag2 _ ⟨i + 1, by simp, by omega, _, rfl, Nat.or_lt_two_pow (n := 32) hm32 (pow32 (by omega)), fun v => ?_⟩ (by dsimp only; omega)
      rw [Nat.testBit_or, Nat.testBit_two_pow, Bool.or_eq_true, hb v, decide_eq_true_eq]
      constructor
      · rintro ((h | ⟨rfl, j, hj, h⟩) | rfl)
        · exact .inl h
        · exact .inr ⟨rfl, j, by omega, h⟩
        · exact .inr ⟨rfl, i, by omega, by rw [hue]; exact hbit⟩
      · rintro (h | ⟨rfl, _⟩)
        · exact .inl (.inl h)
        · exact .inr rfl
    · rw [if_neg (fun h => hbit ((hasBit (by omega) hs).1 h))]
      refine hag2 _ ⟨i + 1, by simp, by omega, m, rfl, hm32, fun v => ?_⟩ (by dsimp only; omega)
      rw [hb v]
      constructor
      · rintro (h | ⟨rfl, j, hj, h⟩)
        · exact .inl h
        · exact .inr ⟨rfl, j, by omega, h⟩
      · rintro (h | ⟨rfl, j, hj, h⟩)
        · exact .inl h
        · by_cases hji : j = i
          · subst hji; rw [hue] at h; exact absurd h hbit
          · exact .inr ⟨rfl, j, by omega, h⟩
  · rw [if_neg (show ¬ (i : Int) < ((row g k).length : Int) by omega), wr (by omega) (by omega)]
    refine hag _ ⟨k + 1, by simp, by omega, m, rfl, hm32, fun v => ?_⟩ (by dsimp only; omega)
    rw [hb v]
    constructor
    · rintro (⟨h1, h2⟩ | ⟨rfl, j, hj, h⟩)
      · exact ⟨by omega, h2⟩
      · obtain ⟨u, hu, hue, hadj⟩ := hV.port hlt (show j < (row g v).length by omega)
        rw [hue] at h
        exact ⟨by omega, u, hadj, h⟩
    · rintro ⟨h1, u, ⟨j, hj, hju⟩, h2⟩
      by_cases hvk : v = k
      · subst hvk
        exact .inr ⟨rfl, j, by omega, by rw [hju]; exact h2⟩
      · exact .inl ⟨by omega, u, ⟨j, hj, hju⟩, h2⟩

/-- a set of nodes without neighbours in it -/
def Indep (g : GR) (s : Nat) : Prop := (∀ v, s.testBit v = true → v < g.2.length) ∧ ∀ v u, s.testBit v = true → s.testBit u = true → ¬ Adj g v u

theorem all_eq {g : GR} (hV : VG g) : m_graph_All 1000 g = some ((2 ^ g.2.length - 1 : Nat) : Int) := by
  have h24 := hV.n24
  have hl := hV.len
  have hp := pow32 (show g.2.length < 32 by omega)
  have hpos : 1 ≤ 2 ^ g.2.length := Nat.one_le_two_pow
  unfold m_graph_All
  rw [ckT (by omega), hl, bShl1 (by omega), show ((2 ^ g.2.length : Nat) : Int) - 1 = ((2 ^ g.2.length - 1 : Nat) : Int) by omega]
  congr 1
  exact if_pos ⟨by omega, by omega⟩

theorem independent_eq {g : GR} (hV : VG g) {s : Nat} (hs : s < 4294967296) : (Indep g s → m_graph_Independent 1000 g (s : Int) = some true) ∧ (¬ Indep g s → m_graph_Independent 1000 g (s : Int) = some false) := by
  have h24 := hV.n24
  have hp := pow32 (show g.2.length < 32 by omega)
  unfold m_graph_Independent graph_Independent_k1
  rw [(valid_eq g hV.light).1 hV, bindS rfl, if_pos rfl, all_eq hV, bindS rfl]
  have hall : bAndNot .u32 (s : Int) ((2 ^ g.2.length - 1 : Nat) : Int) = 0 ↔ ∀ v, s.testBit v = true → v < g.2.length := by
    rw [bAndNot0, N32_nat hs, N32_nat (by omega)]
    constructor
    · intro h v hv
      have := h v hv
      rw [Nat.testBit_two_pow_sub_one] at this
      exact of_decide_eq_true this
    · intro h v hv
      rw [Nat.testBit_two_pow_sub_one]
      exact decide_eq_true (h v hv)
  by_cases h1 : ∀ v, s.testBit v = true → v < g.2.length
  rotate_left
  · rw [if_neg (fun h => h1 (hall.1 h))]
    exact ⟨fun h => absurd h.1 h1, fun _ => rfl⟩
  rw [if_pos (hall.2 h1)]
  obtain ⟨_, hr, m, rfl, hm32, hb⟩ := around_ok hV hs
  rw [hr, bindS rfl, bAnd_eq, N32_nat hm32, N32_nat hs]
  have hiff : (((m &&& s : Nat) : Int) = 0) ↔ ∀ v u, s.testBit v = true → s.testBit u = true → ¬ Adj g v u := by
    constructor
    · intro h v u hv hu ha
      have h0 : m &&& s = 0 := by omega
      have : (m &&& s).testBit v = true := by
        rw [Nat.testBit_and, hv, (hb v).2 ⟨h1 v hv, u, ha, hu⟩]; rfl
      rw [h0, Nat.zero_testBit] at this
      cases this
    · intro h
      have : m &&& s = 0 := by
        apply Nat.eq_of_testBit_eq
        intro v
        rw [Nat.testBit_and, Nat.zero_testBit]
        cases hv : s.testBit v with
        | false => simp
        | true =>
          cases hmv : m.testBit v with
          | false => rfl
          | true =>
            obtain ⟨_, u, ha, hu⟩ := (hb v).1 hmv
            exact absurd ha (h v u hv hu)
      omega
  by_cases h2 : ∀ v u, s.testBit v = true → s.testBit u = true → ¬ Adj g v u
  · rw [decide_eq_true (hiff.2 h2)]
    exact ⟨fun _ => rfl, fun h => absurd ⟨h1, h2⟩ h⟩
  · rw [decide_eq_false (fun h => h2 (hiff.1 h))]
    exact ⟨fun h => absurd h.2 h2, fun _ => rfl⟩

theorem wU64 {k : Nat} (hk : k < 32) : wI .u64 (k : Int) = k := by
  show IntKind.u64.wrap (k : Int) = k
  have : ∀ j : Fin 32, IntKind.u64.wrap ((j.1 : Nat) : Int) = (j.1 : Nat) := by decide
  exact this ⟨k, hk⟩

theorem has_eq {s v : Nat} (hs : s < 4294967296) (hv : v < 32) : m_ref01_Has 1000 (s : Int) (v : Int) = some (s.testBit v) := by
  unfold m_ref01_Has ref01_Has_k1
  rw [if_pos (by omega), if_pos (by omega), wU64 hv, ckT (by omega)]
  congr 1
  by_cases h : s.testBit v = true
  · rw [h]; exact decide_eq_true ((hasBit hv hs).2 h)
  · rw [Bool.not_eq_true] at h
    rw [h]; exact decide_eq_false fun h2 => by rw [(hasBit hv hs).1 h2] at h; cases h

theorem refAll_ok {n : Nat} (hn : n ≤ 24) : OK (fun r : Int => ∃ m : Nat, r = m ∧ m < 4294967296 ∧ ∀ v, m.testBit v = true ↔ v < n) (m_ref01_All 1000 (n : Int)) := by
  unfold m_ref01_All
  refine iter_ok (fun z : Int × Int => ∃ k : Nat, z.2 = k ∧ k ≤ n ∧ ∃ m : Nat, z.1 = m ∧ m < 4294967296 ∧ ∀ v, m.testBit v = true ↔ v < k) (fun z => 31 - z.2.toNat) ?_ 1000 _ ⟨0, rfl, by omega, 0, rfl, by omega, fun v => by simp⟩ (by simp)
  rintro ⟨a, z⟩ ag ⟨k, hz, hk, m, hm, hm32, hb⟩ hag
  dsimp only at hz hm
  subst hz hm
  unfold ref01_All_s1 ref01_All_k2 ref01_All_k1
  dsimp only
  by_cases hlt : k < n
  · rw [if_pos (by omega), if_pos (by rw [decide_eq_true_eq]; omega), wU64 (by omega), ckT (by omega), bShl1 (by omega), bOr_eq, N32_nat hm32, N32_nat (pow32 (by omega)), wr (by omega) (by omega)]
    refine hag _ ⟨k + 1, by simp, by omega, _, rfl, Nat.or_lt_two_pow (n := 32) hm32 (pow32 (by omega)), fun v => ?_⟩ (by dsimp only; omega)
    rw [Nat.testBit_or, Nat.testBit_two_pow, Bool.or_eq_true, hb v, decide_eq_true_eq]
    omega
  · rw [if_neg (by omega), if_neg (by simp)]
    have : k = n := by omega
    subst this
    exact ⟨_, rfl, m, rfl, hm32, hb⟩

theorem parts_pure (g : GR) (p q : Int) : m_law01_GraphIndependentParts 1000 g p q = some true := by
  unfold m_law01_GraphIndependentParts
  by_cases hV : VG g
  rotate_left
  · rw [(fair_eq g).2 hV, bindS rfl, if_pos (show (!false) = true from rfl), awake01]; rfl
  have h24 := hV.n24
  obtain ⟨_, hall, a, rfl, ha32, hab⟩ := refAll_ok h24
  rw [(fair_eq g).1 hV, bindS rfl, if_neg (by simp), hall, bindS rfl]
  have hs32 : (N32 p &&& a) < 4294967296 := Nat.lt_of_le_of_lt Nat.and_le_left (N32_lt p)
  have hse : bAnd .u32 p (a : Int) = ((N32 p &&& a : Nat) : Int) := by rw [bAnd_eq, N32_nat ha32]
  have hsub : ∀ v, (N32 p &&& a).testBit v = true → v < g.2.length := fun v hv => by
    rw [Nat.testBit_and, Bool.and_eq_true] at hv
    exact (hab v).1 hv.2
  have loop : ∀ b : Bool, (b = true ↔ Indep g (N32 p &&& a)) → law01_GraphIndependentParts_k1 1000 g p (a : Int) b false = some true := by
    intro b hbI
    unfold law01_GraphIndependentParts_k1
    rw [if_neg (by simp)]
    refine iter_eq (fun z : Bool × Int => ∃ k : Nat, z.2 = k ∧ k ≤ g.2.length ∧ (z.1 = true ↔ ∃ v u, v < k ∧ (N32 p &&& a).testBit v = true ∧ (N32 p &&& a).testBit u = true ∧ Adj g v u)) (fun z => 31 - z.2.toNat) ?_ 1000 _ ⟨0, rfl, by omega, ⟨fun h => (by cases h), fun ⟨v, u, h, _⟩ => absurd h (by omega)⟩⟩ (by simp)
    rintro ⟨f, z⟩ ag ⟨k, hz, hk, hf⟩ hag
    dsimp only at hz hf
    subst hz
    unfold law01_GraphIndependentParts_s1
    dsimp only
    by_cases hlt : k < g.2.length
    rotate_left
    · rw [if_neg (by omega)]
      unfold law01_GraphIndependentParts_k2 law01_GraphIndependentParts_k3
      rw [awake01, bindS rfl, if_pos rfl]
      have hkn : k = g.2.length := by omega
      have : b = !f := by
        by_cases hI : Indep g (N32 p &&& a)
        · rw [hbI.2 hI]
          cases f with
          | false => rfl
          | true =>
            obtain ⟨v, u, _, h1, h2, h3⟩ := hf.1 rfl
            exact absurd h3 (hI.2 v u h1 h2)
        · have hb : b = false := by
            cases b with
            | false => rfl
            | true => exact absurd (hbI.1 rfl) hI
          have hft : f = true := by
            apply hf.2
            apply Classical.byContradiction
            intro hc
            exact hI ⟨hsub, fun v u h1 h2 h3 => hc ⟨v, u, by have := hsub v h1; omega, h1, h2, h3⟩⟩
          rw [hb, hft]; rfl
      rw [this]; simp
    have hdeg := (hV.node k hlt).deg
    rw [if_pos (by omega)]
    refine iter_eq (fun z : Bool × Int => ∃ i : Nat, z.2 = i ∧ i ≤ (row g k).length ∧ (z.1 = true ↔ (∃ v u, v < k ∧ (N32 p &&& a).testBit v = true ∧ (N32 p &&& a).testBit u = true ∧ Adj g v u) ∨ ((N32 p &&& a).testBit k = true ∧ ∃ j, j < i ∧ (N32 p &&& a).testBit (lnk (row g k) j).1.toNat = true))) (fun z => 31 - z.2.toNat) ?_ 1000 _ ⟨0, rfl, by omega, by
      dsimp only
      rw [hf]
      exact ⟨.inl, fun h => h.elim id fun ⟨_, j, hj, _⟩ => absurd hj (by omega)⟩⟩ (by simp)
    rintro ⟨f2, z⟩ ag2 ⟨i, hz, hi, hf2⟩ hag2
    dsimp only at hz hf2
    subst hz
    unfold law01_GraphIndependentParts_s2
    dsimp only
    rw [ckT (by omega)]
    by_cases hil : i < (row g k).length
    · obtain ⟨u, hu, hue, hadj⟩ := hV.port hlt hil
      rw [if_pos (show (i : Int) < ((row g k).length : Int) by omega)]
      unfold law01_GraphIndependentParts_k5
      dsimp only
      rw [wr (by omega) (by omega)]
      by_cases hft : f2 = true
      · rw [if_pos hft]
        refine hag2 _ ⟨i + 1, by simp, by omega, ⟨fun _ => ?_, fun _ => rfl⟩⟩ (by dsimp only; omega)
        rcases hf2.1 hft with h | ⟨h1, j, hj, h2⟩
        · exact .inl h
        · exact .inr ⟨h1, j, by omega, h2⟩
      · rw [if_neg hft, hse, has_eq hs32 (by omega), bindS rfl]
        have hno : ¬ ((∃ v u, v < k ∧ (N32 p &&& a).testBit v = true ∧ (N32 p &&& a).testBit u = true ∧ Adj g v u) ∨ ((N32 p &&& a).testBit k = true ∧ ∃ j, j < i ∧ (N32 p &&& a).testBit (lnk (row g k) j).1.toNat = true)) := fun h => hft (hf2.2 h)
        by_cases hkb : (N32 p &&& a).testBit k = true
        · rw [if_pos hkb, ckT (by omega), ckT (show 0 ≤ (i : Int) ∧ (i : Int) < ((row g k).length : Int) by omega), show at' (at' g.2 (k : Int)) (i : Int) = lnk (row g k) i from rfl, hue, has_eq hs32 (by omega), bindS rfl]
          refine hag2 _ ⟨i + 1, by simp, by omega, ⟨fun h => .inr ⟨hkb, i, by omega, by rw [hue]; exact h⟩, ?_⟩⟩ (by dsimp only; omega)
          rintro (h | ⟨h1, j, hj, h2⟩)
          · exact absurd (.inl h) hno
          · by_cases hji : j = i
            · subst hji; rw [hue] at h2; exact h2
            · exact absurd (.inr ⟨h1, j, by omega, h2⟩) hno
        · rw [if_neg hkb]
          refine hag2 _ ⟨i + 1, by simp, by omega, ⟨fun h => (by cases h), ?_⟩⟩ (by dsimp only; omega)
          rintro (h | ⟨h1, _⟩)
          · exact absurd (.inl h) hno
          · exact absurd h1 hkb
    · rw [if_neg (show ¬ (i : Int) < ((row g k).length : Int) by omega)]
      unfold law01_GraphIndependentParts_k4
      dsimp only
      rw [wr (by omega) (by omega)]
      refine hag _ ⟨k + 1, by simp, by omega, ?_⟩ (by dsimp only; omega)
      dsimp only
      rw [hf2]
      constructor
      · rintro (⟨v, u, h1, h2⟩ | ⟨h1, j, hj, h2⟩)
        · exact ⟨v, u, by omega, h2⟩
        · obtain ⟨u, hu, hue, hadj⟩ := hV.port hlt (show j < (row g k).length by omega)
          rw [hue] at h2
          exact ⟨k, u, by omega, h1, h2, hadj⟩
      · rintro ⟨v, u, h1, h2, h3, h4⟩
        by_cases hvk : v = k
        · subst hvk
          obtain ⟨j, hj, hju⟩ := h4
          exact .inr ⟨h2, j, by omega, by rw [hju]; exact h3⟩
        · exact .inl ⟨v, u, by omega, h2, h3, h4⟩
  rw [hse]
  by_cases hI : Indep g (N32 p &&& a)
  · have hI2 : Indep g ((N32 p &&& a) &&& N32 q) := by
      have hsu : ∀ v, ((N32 p &&& a) &&& N32 q).testBit v = true → (N32 p &&& a).testBit v = true := fun v hv => by
        rw [Nat.testBit_and, Bool.and_eq_true] at hv; exact hv.1
      exact ⟨fun v hv => hI.1 v (hsu v hv), fun v u hv hu => hI.2 v u (hsu v hv) (hsu u hu)⟩
    rw [(independent_eq hV hs32).1 hI, bindS rfl, if_pos rfl, bAnd_eq, N32_nat hs32, (independent_eq hV (Nat.lt_of_le_of_lt Nat.and_le_left hs32)).1 hI2, bindS rfl]
    exact loop true ⟨fun _ => hI, fun _ => rfl⟩
  · rw [(independent_eq hV hs32).2 hI, bindS rfl, if_neg (by simp)]
    exact loop false ⟨fun h => (by cases h), fun h => absurd h hI⟩
end Go.Proofs.Ytemhmmcakmidkaa
end
section
namespace Go.Proofs.Ytemhmmcakmidkaa
open Go.Sx

theorem iter_congr {X R : Type} {s1 s2 : X → (X → Option R) → Option R} (I : X → Prop) (h : ∀ x a1 a2, I x → (∀ x', I x' → a1 x' = a2 x') → s1 x a1 = s2 x a2) : ∀ (fuel : Nat) (x : X), I x → iter s1 fuel x = iter s2 fuel x
  | 0, _, _ => rfl
  | fuel + 1, x, hx => h x _ _ hx fun x' hx' => iter_congr I h fuel x' hx'

theorem hasRaw (p : Int) {v : Nat} (hv : v < 32) : m_ref01_Has 1000 p (v : Int) = some (decide (bAnd .u32 (bShr .u32 p (v : Int)) 1 = 1)) := by
  unfold m_ref01_Has ref01_Has_k1
  rw [if_pos (by omega), if_pos (by omega), wU64 hv, ckT (by omega)]

theorem neighbours_eq {g : GR} (hV : VG g) (p : Int) : m_ref01_Neighbours 1000 g p = m_graph_around 1000 g p := by
  have h24 := hV.n24
  unfold m_ref01_Neighbours m_graph_around
  rw [(refValid_eq g hV.light).1 hV, bindS rfl, if_neg (by simp)]
  refine iter_congr (fun z : Int × Int => ∃ k : Nat, z.2 = k ∧ k ≤ g.2.length) ?_ 1000 _ ⟨0, rfl, by omega⟩
  rintro ⟨m, z⟩ a1 a2 ⟨k, hz, hk⟩ ha
  dsimp only at hz
  subst hz
  unfold ref01_Neighbours_s1 graph_around_s1 ref01_Neighbours_k1 graph_around_k1
  dsimp only
  by_cases hlt : k < g.2.length
  rotate_left
  · rw [if_neg (by omega), if_neg (by omega)]
  have hdeg := (hV.node k hlt).deg
  rw [if_pos (by omega), if_pos (by omega), ckT (by omega)]
  refine iter_congr (fun z : Int × Int => ∃ i : Nat, z.2 = i ∧ i ≤ (row g k).length) ?_ 1000 _ ⟨0, rfl, by omega⟩
  rintro ⟨m, z⟩ b1 b2 ⟨i, hz, hi⟩ hb
  dsimp only at hz
  subst hz
  unfold ref01_Neighbours_s2 graph_around_s2 ref01_Neighbours_k2 graph_around_k2 ref01_Neighbours_k3 graph_around_k3
  dsimp only
  rw [ckT (by omega)]
  by_cases hil : i < (row g k).length
  · obtain ⟨u, hu, hue, hadj⟩ := hV.port hlt hil
    rw [if_pos (show (i : Int) < ((row g k).length : Int) by omega), if_pos (show (i : Int) < ((row g k).length : Int) by omega), ckT (by omega), ckT (show 0 ≤ (i : Int) ∧ (i : Int) < ((row g k).length : Int) by omega), ckT (show 0 ≤ (i : Int) ∧ (i : Int) < ((row g k).length : Int) by omega), show at' (at' g.2 (k : Int)) (i : Int) = lnk (row g k) i from rfl, hue, hasRaw p (by omega), bindS rfl, wU64 (k := k) (by omega), ckT (show 0 ≤ (u : Int) by omega), ckT (show 0 ≤ (k : Int) by omega), wr (by omega) (by omega)]
    by_cases hbit : bAnd .u32 (bShr .u32 p (u : Int)) 1 = 1
    · rw [if_pos (decide_eq_true hbit), if_pos hbit]
      exact hb _ ⟨i + 1, by simp, by omega⟩
    · rw [if_neg (by rw [decide_eq_false hbit]; simp), if_neg hbit]
      exact hb _ ⟨i + 1, by simp, by omega⟩
  · rw [if_neg (show ¬ (i : Int) < ((row g k).length : Int) by omega), if_neg (show ¬ (i : Int) < ((row g k).length : Int) by omega), wr (by omega) (by omega)]
    exact ha _ ⟨k + 1, by simp, by omega⟩

theorem around_some {g : GR} (hV : VG g) (p : Int) : ∃ r, m_graph_around 1000 g p = some r := by
  have h24 := hV.n24
  have : OK (fun _ : Int => True) (m_graph_around 1000 g p) := by
    unfold m_graph_around
    refine iter_ok (fun z : Int × Int => ∃ k : Nat, z.2 = k ∧ k ≤ g.2.length) (fun z => 31 - z.2.toNat) ?_ 1000 _ ⟨0, rfl, by omega⟩ (by simp)
    rintro ⟨m, z⟩ ag ⟨k, hz, hk⟩ hag
    dsimp only at hz
    subst hz
    unfold graph_around_s1 graph_around_k1
    dsimp only
    by_cases hlt : k < g.2.length
    rotate_left
    · rw [if_neg (by omega)]; exact ⟨_, rfl, trivial⟩
    have hdeg := (hV.node k hlt).deg
    rw [if_pos (by omega), ckT (by omega)]
    refine iter_ok (fun z : Int × Int => ∃ i : Nat, z.2 = i ∧ i ≤ (row g k).length) (fun z => 31 - z.2.toNat) ?_ 1000 _ ⟨0, rfl, by omega⟩ (by simp)
    rintro ⟨m, z⟩ ag2 ⟨i, hz, hi⟩ hag2
    dsimp only at hz
    subst hz
    unfold graph_around_s2 graph_around_k2 graph_around_k3
    dsimp only
    by_cases hil : i < (row g k).length
    · obtain ⟨u, hu, hue, hadj⟩ := hV.port hlt hil
      rw [if_pos (show (i : Int) < ((row g k).length : Int) by omega), ckT (show 0 ≤ (i : Int) ∧ (i : Int) < ((row g k).length : Int) by omega), show at' (at' g.2 (k : Int)) (i : Int) = lnk (row g k) i from rfl, hue, ckT (by omega), ckT (by omega), wr (by omega) (by omega)]
      split
      · exact hag2 _ ⟨i + 1, by simp, by omega⟩ (by dsimp only; omega)
      · exact hag2 _ ⟨i + 1, by simp, by omega⟩ (by dsimp only; omega)
    · rw [if_neg (show ¬ (i : Int) < ((row g k).length : Int) by omega), wr (by omega) (by omega)]
      exact hag _ ⟨k + 1, by simp, by omega⟩ (by dsimp only; omega)
  obtain ⟨r, hr, _⟩ := this
  exact ⟨r, hr⟩

theorem refAll_eq {g : GR} (hV : VG g) : m_ref01_All 1000 (g.2.length : Int) = some ((2 ^ g.2.length - 1 : Nat) : Int) := by
  obtain ⟨_, hr, m, rfl, _, hb⟩ := refAll_ok hV.n24
  rw [hr]
  congr 2
  apply Nat.eq_of_testBit_eq
  intro i
  rw [Nat.testBit_two_pow_sub_one]
  by_cases h : i < g.2.length
  · rw [decide_eq_true h]; exact (hb i).2 h
  · rw [decide_eq_false h]
    cases hm : m.testBit i with
    | false => rfl
    | true => exact absurd ((hb i).1 hm) h

theorem checks_pure (g : GR) (p q s : Int) : m_law01_GraphChecks 1000 g p q s = some true := by
  unfold m_law01_GraphChecks law01_GraphChecks_k1
  by_cases hl : light g
  rotate_left
  · rw [(lightGraph_eq g).2 hl, bindS rfl, if_pos (show (!false) = true from rfl), awake01]; rfl
  rw [(lightGraph_eq g).1 hl, bindS rfl, if_neg (by simp)]
  have fin : ∀ (a : Int × Int) (v : Bool) (c d e : Int) (f : Bool), m_graph_Size 1000 g = some a → m_ref01_Size 1000 g = some a → m_graph_Valid 1000 g = some v → m_ref01_Valid 1000 g = some v → m_graph_Degree 1000 g p = some c → m_ref01_Degree 1000 g p = some c → m_graph_Back 1000 g p q = some d → m_ref01_Back 1000 g p q = some d → m_graph_Neighbours 1000 g s = some e → m_ref01_Neighbours 1000 g s = some e → m_graph_Independent 1000 g s = some f → m_ref01_Independent 1000 g s = some f →
      (Option.bind (m_graph_Size 1000 (g.1, g.2)) fun r9 => Option.bind (m_ref01_Size 1000 (g.1, g.2)) fun r12 => Option.bind (m_law01_awake 1000) fun r18 => if r18 = true then (Option.bind (m_graph_Valid 1000 (g.1, g.2)) fun r22 => Option.bind (m_ref01_Valid 1000 (g.1, g.2)) fun r25 => if (r22 == r25) = true then (if r9.1 = r12.1 then (if r9.2 = r12.2 then (Option.bind (m_graph_Degree 1000 (g.1, g.2) p) fun r31 => Option.bind (m_ref01_Degree 1000 (g.1, g.2) p) fun r34 => if r31 = r34 then (Option.bind (m_graph_Back 1000 (g.1, g.2) p q) fun r38 => Option.bind (m_ref01_Back 1000 (g.1, g.2) p q) fun r41 => if r38 = r41 then (Option.bind (m_graph_Neighbours 1000 (g.1, g.2) s) fun r45 => Option.bind (m_ref01_Neighbours 1000 (g.1, g.2) s) fun r48 => if r45 = r48 then (Option.bind (m_graph_Independent 1000 (g.1, g.2) s) fun r52 => Option.bind (m_ref01_Independent 1000 (g.1, g.2) s) fun r55 => some (r52 == r55)) else some false) else some false) else some false) else some false) else some false) else some false) else some false) = some true := by
    intro a v c d e f h1 h2 h3 h4 h5 h6 h7 h8 h9 h10 h11 h12
    rw [h1, bindS rfl, h2, bindS rfl, awake01, bindS rfl, if_pos rfl, h3, bindS rfl, h4, bindS rfl, if_pos (beq_self_eq_true v), if_pos rfl, if_pos rfl, h5, bindS rfl, h6, bindS rfl, if_pos rfl, h7, bindS rfl, h8, bindS rfl, if_pos rfl, h9, bindS rfl, h10, bindS rfl, if_pos rfl, h11, bindS rfl, h12, bindS rfl, beq_self_eq_true f]
  by_cases hV : VG g
  rotate_left
  · have v1 := (valid_eq g hl).2 hV
    have v2 := (refValid_eq g hl).2 hV
    have d2 : m_ref01_Degree 1000 g p = some 0 := by unfold m_ref01_Degree; rw [v2]; rfl
    have hin : decide (0 ≤ q ∧ q ≤ -1) = false := decide_eq_false (by omega)
    exact fin (0, 0) false 0 (-1) 0 false (by unfold m_graph_Size; rw [v1]; rfl) (by unfold m_ref01_Size; rw [v2]; rfl) v1 v2 (by unfold m_graph_Degree; rw [v1]; rfl) d2 (by unfold m_graph_Back; rw [v1]; rfl) (by unfold m_ref01_Back; rw [d2, bindS rfl, refIn_eq, show wI .i64 ((0 : Int) - 1) = -1 from rfl, hin]; rfl) (by unfold m_graph_Neighbours; rw [v1]; rfl) (by unfold m_ref01_Neighbours; rw [v2]; rfl) (by unfold m_graph_Independent; rw [v1]; rfl) (by unfold m_ref01_Independent; rw [v2]; rfl)
  have h24 := hV.n24
  have v1 := (valid_eq g hl).1 hV
  have v2 := (refValid_eq g hl).1 hV
  obtain ⟨e, he⟩ := around_some hV s
  have n1 : m_graph_Neighbours 1000 g s = some e := by unfold m_graph_Neighbours; rw [v1, bindS rfl, if_neg (by simp), he]; rfl
  have n2 : m_ref01_Neighbours 1000 g s = some e := by rw [neighbours_eq hV, he]
  have ind : ∃ f, m_graph_Independent 1000 g s = some f ∧ m_ref01_Independent 1000 g s = some f := by
    unfold m_graph_Independent graph_Independent_k1 m_ref01_Independent ref01_Independent_k1
    rw [v1, bindS rfl, if_pos rfl, all_eq hV, bindS rfl, v2, bindS rfl, if_neg (show ¬ (!true) = true from by simp), refAll_eq hV, bindS rfl]
    by_cases h0 : bAndNot .u32 s ((2 ^ g.2.length - 1 : Nat) : Int) = 0
    · rw [if_pos h0, he, bindS rfl, decide_eq_false (p := bAndNot .u32 s ((2 ^ g.2.length - 1 : Nat) : Int) ≠ 0) (fun h => h h0), if_neg (show ¬ false = true by simp), n2, bindS rfl]
      exact ⟨_, rfl, rfl⟩
    · rw [if_neg h0, decide_eq_true h0, if_pos rfl]
      exact ⟨_, rfl, rfl⟩
  obtain ⟨f, i1, i2⟩ := ind
  by_cases hp : 0 ≤ p ∧ p < (g.2.length : Int)
  · obtain ⟨v, rfl⟩ : ∃ v : Nat, p = v := ⟨p.toNat, by omega⟩
    have hv : v < g.2.length := by omega
    have hdeg := (hV.node v hv).deg
    have d2 : m_ref01_Degree 1000 g (v : Int) = some ((row g v).length : Int) := by
      unfold m_ref01_Degree ref01_Degree_k1
      rw [v2, bindS rfl, if_neg (by simp), refIn_eq, wr (by omega) (by omega), decide_eq_true (by omega), bindS rfl, if_neg (by simp), ckT (by omega)]
    have back : ∃ d, m_graph_Back 1000 g (v : Int) q = some d ∧ m_ref01_Back 1000 g (v : Int) q = some d := by
      unfold m_ref01_Back
      rw [d2, bindS rfl, refIn_eq, wr (by omega) (by omega), bindS rfl]
      by_cases hq : 0 ≤ q ∧ q ≤ ((row g v).length : Int) - 1
      · obtain ⟨i, rfl⟩ : ∃ i : Nat, q = i := ⟨q.toNat, by omega⟩
        have hil : i < (row g v).length := by omega
        obtain ⟨u, hu, hue, hadj⟩ := hV.port hv hil
        refine ⟨portOf (row g u) v, ?_, ?_⟩
        · unfold m_graph_Back graph_Back_k1 graph_Back_k2
          rw [v1, bindS rfl, if_neg (by simp), if_neg (by omega), decide_eq_false (by omega), if_neg (by simp), if_neg (by omega), ckT (by omega), decide_eq_false (show ¬ ((row g v).length : Int) ≤ (i : Int) by omega), if_neg (by simp), ckT (by omega), ckT (show 0 ≤ (i : Int) ∧ (i : Int) < ((row g v).length : Int) by omega), show at' (at' g.2 (v : Int)) (i : Int) = lnk (row g v) i from rfl, hue, portTo_eq g u v hu (hl.2.2 u hu)]
          rfl
        · rw [decide_eq_true hq, if_neg (by simp), ckT (by omega), ckT (show 0 ≤ (i : Int) ∧ (i : Int) < ((row g v).length : Int) by omega), show at' (at' g.2 (v : Int)) (i : Int) = lnk (row g v) i from rfl, hue, refPort_eq g u v hu (hl.2.2 u hu)]
          rfl
      · rw [decide_eq_false hq]
        exact ⟨-1, back_no hV hv (by omega), rfl⟩
    obtain ⟨d, b1, b2⟩ := back
    exact fin _ true _ d e f (size_eq hV) (refSize_eq hV) v1 v2 (degree_eq hV hv) d2 b1 b2 n1 n2 i1 i2
  · have d1 : m_graph_Degree 1000 g p = some 0 := by
      unfold m_graph_Degree graph_Degree_k1
      rw [v1, bindS rfl, if_neg (by simp)]
      by_cases h0 : p < 0
      · rw [if_pos h0, if_pos rfl]
      · rw [if_neg h0, decide_eq_true (by omega), if_pos rfl]
    have d2 : m_ref01_Degree 1000 g p = some 0 := by
      unfold m_ref01_Degree ref01_Degree_k1
      rw [v2, bindS rfl, if_neg (by simp), refIn_eq, wr (by omega) (by omega), decide_eq_false (by omega)]; rfl
    have b1 : m_graph_Back 1000 g p q = some (-1) := by
      unfold m_graph_Back graph_Back_k1
      rw [v1, bindS rfl, if_neg (by simp)]
      by_cases h0 : p < 0
      · rw [if_pos h0, if_pos rfl]
      · rw [if_neg h0, decide_eq_true (by omega), if_pos rfl]
    have hin : decide (0 ≤ q ∧ q ≤ -1) = false := decide_eq_false (by omega)
    have b2 : m_ref01_Back 1000 g p q = some (-1) := by
      unfold m_ref01_Back; rw [d2, bindS rfl, refIn_eq, show wI .i64 ((0 : Int) - 1) = -1 from rfl, hin]; rfl
    exact fin _ true 0 (-1) e f (size_eq hV) (refSize_eq hV) v1 v2 d1 d2 b1 b2 n1 n2 i1 i2
end Go.Proofs.Ytemhmmcakmidkaa
end
