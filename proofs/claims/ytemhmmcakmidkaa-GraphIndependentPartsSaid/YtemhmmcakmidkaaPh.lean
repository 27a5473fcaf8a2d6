/- What is valid: the reference's Valid and the program's Valid say just VG. Conditions: light graphs. -/
import Derived.Test.YtemhmmcakmidkaaPg
import Derived.Test.YtemhmmcakmidkaaX46
import Derived.Test.YtemhmmcakmidkaaX64
namespace Go.Proofs.Ytemhmmcakmidkaa
open Go.Sx

/-- a loop with a state that stops with 'bad' at the first number without a property -/
theorem iter_ifS {X R : Type} {step : X → (X → Option R) → Option R} {K : X → Option R} {bad : R} (N : Nat) (p : Nat → Prop) (I : Nat → X → Prop)
    (hok : ∀ (k : Nat) x ag, k < N → I k x → p k → ∃ x', I (k + 1) x' ∧ step x ag = ag x') (hbad : ∀ (k : Nat) x ag, k < N → I k x → ¬ p k → step x ag = some bad) (hend : ∀ x ag, I N x → step x ag = K x) :
    ∀ (fuel : Nat) (x : X), I 0 x → N < fuel → ((∀ k, k < N → p k) → ∃ x', I N x' ∧ iter step fuel x = K x') ∧ (¬ (∀ k, k < N → p k) → iter step fuel x = some bad) := by
  intro fuel x hI hf
  have key : ∀ (d a fuel : Nat) (x : X), a + d = N → d < fuel → I a x → ((∀ k, a ≤ k → k < N → p k) → ∃ x', I N x' ∧ iter step fuel x = K x') ∧ (¬ (∀ k, a ≤ k → k < N → p k) → iter step fuel x = some bad) := by
    intro d
    induction d with
    | zero =>
      intro a fuel x ha hf hI
      obtain rfl : a = N := by omega
      cases fuel with
      | zero => omega
      | succ f => exact ⟨fun _ => ⟨x, hI, hend _ _ hI⟩, fun h => absurd (fun k h1 h2 => by omega) h⟩
    | succ d ih =>
      intro a fuel x ha hf hI
      cases fuel with
      | zero => omega
      | succ f =>
        by_cases hp : p a
        · obtain ⟨x', hI', hs⟩ := hok a x (iter step f) (by omega) hI hp
          have hs : iter step (f + 1) x = iter step f x' := hs
          obtain ⟨i1, i2⟩ := ih (a + 1) f x' (by omega) (by omega) hI'
          rw [hs]
          refine ⟨fun h => i1 fun k h1 h2 => h k (by omega) h2, fun h => i2 fun h' => h fun k h1 h2 => ?_⟩
          by_cases hk : k = a
          · subst hk; exact hp
          · exact h' k (by omega) h2
        · exact ⟨fun h => absurd (h a (Nat.le_refl _) (by omega)) hp, fun _ => hbad a x _ (by omega) hI hp⟩
  obtain ⟨h1, h2⟩ := key N 0 fuel x (by omega) hf hI
  exact ⟨fun h => h1 fun k _ hk => h k hk, fun h => h2 fun h' => h fun k hk => h' k (by omega) hk⟩

theorem light_eq (g : GR) (hn : g.2.length ≤ 900) : (light g → m_made_LightGraph 1000 g = some true) ∧ (¬ light g → m_made_LightGraph 1000 g = some false) := by
  unfold m_made_LightGraph made_LightGraph_k1
  by_cases h1 : g.1.length ≤ 30
  · rw [if_neg (by omega)]
    by_cases h2 : g.2.length ≤ 30
    · rw [decide_eq_false (by omega), if_neg (by simp)]
      have := iter_if (step := made_LightGraph_s1 g) (K := some true) (bad := false) g.2.length (fun v => (row g v).length ≤ 30) (fun k ag hk hp => ?_) (fun k ag hk hp => ?_) (fun ag => ?_) 1000 (by omega)
      · exact ⟨fun h => this.1 h.2.2, fun h => this.2 fun h3 => h ⟨h1, h2, h3⟩⟩
      · unfold made_LightGraph_s1
        rw [if_pos (by omega), ckT (by omega), if_neg (show ¬ (30 : Int) < ((row g k).length : Int) by omega), wr (by omega) (by omega)]
      · unfold made_LightGraph_s1
        rw [if_pos (by omega), ckT (by omega), if_pos (show (30 : Int) < ((row g k).length : Int) by omega)]
      · unfold made_LightGraph_s1 made_LightGraph_k2
        rw [if_neg (by omega)]
    · rw [decide_eq_true (by omega), if_pos rfl]
      exact ⟨fun h => absurd h.2.1 h2, fun _ => rfl⟩
  · rw [if_pos (by omega), if_pos rfl]
    exact ⟨fun h => absurd h.1 h1, fun _ => rfl⟩

theorem lightGraph_eq (g : GR) : (light g → m_made_LightGraph 1000 g = some true) ∧ (¬ light g → m_made_LightGraph 1000 g = some false) := by
  by_cases hn : g.2.length ≤ 900
  · exact light_eq g hn
  · refine ⟨fun h => absurd h.2.1 (by omega), fun _ => ?_⟩
    unfold m_made_LightGraph made_LightGraph_k1
    by_cases h1 : g.1.length ≤ 30
    · rw [if_neg (by omega), decide_eq_true (by omega), if_pos rfl]
    · rw [if_pos (by omega), if_pos rfl]

/-- port i of node v has its link back, with the same weight -/
def SymAt (g : GR) (v i : Nat) : Prop := ∃ j, j < (at' g.2 (lnk (row g v) i).1).length ∧ (lnk (at' g.2 (lnk (row g v) i).1) j).1 = v ∧ (lnk (at' g.2 (lnk (row g v) i).1) j).2 = (lnk (row g v) i).2

structure NodeOk (g : GR) (v : Nat) : Prop where
  id : 0 ≤ idOf g v ∧ idOf g v ≤ 255
  deg : (row g v).length < g.2.length
  links : LinksOk (row g v) v g.2.length
  ids : ∀ k, k < v → idOf g k ≠ idOf g v

structure VG (g : GR) : Prop where
  n1 : 1 ≤ g.2.length
  n24 : g.2.length ≤ 24
  len : g.1.length = g.2.length
  node : ∀ v, v < g.2.length → NodeOk g v
  sym : ∀ v, v < g.2.length → ∀ i, i < (row g v).length → SymAt g v i

theorem refValid_eq (g : GR) (hl : light g) : (VG g → m_ref01_Valid 1000 g = some true) ∧ (¬ VG g → m_ref01_Valid 1000 g = some false) := by
  obtain ⟨l1, l2, l3⟩ := hl
  unfold m_ref01_Valid
  rw [refIn_eq, bindS rfl]
  by_cases h1 : 1 ≤ g.2.length ∧ g.2.length ≤ 24
  rotate_left
  · rw [decide_eq_false (by omega)]
    exact ⟨fun h => absurd ⟨h.n1, h.n24⟩ h1, fun _ => rfl⟩
  rw [decide_eq_true (by omega), if_neg (by simp)]
  by_cases h2 : g.1.length = g.2.length
  rotate_left
  · rw [decide_eq_true (by omega)]
    exact ⟨fun h => absurd h.len h2, fun _ => rfl⟩
  rw [decide_eq_false (by omega)]
  unfold ref01_Valid_k1
  rw [if_neg (by simp)]
  have hids : ∀ (v : Nat) (ag : Int → Option Bool), v < g.2.length → ((∀ k, k < v → idOf g k ≠ idOf g v) → iter (ref01_Valid_s4 g v ag) 1000 0 = ag ((v : Int) + 1)) ∧ (¬ (∀ k, k < v → idOf g k ≠ idOf g v) → iter (ref01_Valid_s4 g v ag) 1000 0 = some false) := by
    intro v ag hv
    refine iter_if v _ (fun k ag2 hk hp => ?_) (fun k ag2 hk hp => ?_) (fun ag2 => ?_) 1000 (by omega)
    · unfold ref01_Valid_s4
      rw [if_pos (by omega), ckT (by omega), ckT (by omega), if_neg hp, wr (by omega) (by omega)]
    · unfold ref01_Valid_s4
      rw [if_pos (by omega), ckT (by omega), ckT (by omega), if_pos (Decidable.not_not.1 hp)]
    · unfold ref01_Valid_s4 ref01_Valid_k6
      rw [if_neg (by omega), wr (by omega) (by omega)]
  have outer := iter_if (step := ref01_Valid_s3 1000 g) (K := ref01_Valid_k2 1000 g ()) (bad := false) g.2.length (NodeOk g) (fun v ag hv hp => ?_) (fun v ag hv hp => ?_) (fun ag => ?_) 1000 (by omega)
  rotate_left
  · unfold ref01_Valid_s3 ref01_Valid_k7
    rw [if_pos (by omega), ckT (by omega), refIn_eq, decide_eq_true hp.id, bindS rfl, if_neg (by simp), ckT (by omega), if_neg (show ¬ ((g.2.length : Int) ≤ ((row g v).length : Int)) from by have := hp.deg; omega), ckT (by omega), (linksValid_eq (row g v) v g.2.length (l3 v hv) l2).1 hp.links, bindS rfl, if_neg (by simp)]
    exact (hids v ag hv).1 hp.ids
  · unfold ref01_Valid_s3 ref01_Valid_k7
    rw [if_pos (by omega), ckT (by omega), refIn_eq]
    by_cases a1 : 0 ≤ idOf g v ∧ idOf g v ≤ 255
    rotate_left
    · rw [decide_eq_false a1]; rfl
    rw [decide_eq_true a1, bindS rfl, if_neg (by simp), ckT (by omega)]
    by_cases a2 : (row g v).length < g.2.length
    rotate_left
    · rw [if_pos (show (g.2.length : Int) ≤ ((row g v).length : Int) by omega)]; rfl
    rw [if_neg (show ¬ (g.2.length : Int) ≤ ((row g v).length : Int) by omega), ckT (by omega)]
    by_cases a3 : LinksOk (row g v) v g.2.length
    rotate_left
    · rw [(linksValid_eq (row g v) v g.2.length (l3 v hv) l2).2 a3]; rfl
    rw [(linksValid_eq (row g v) v g.2.length (l3 v hv) l2).1 a3, bindS rfl, if_neg (by simp)]
    exact (hids v ag hv).2 fun a4 => hp ⟨a1, a2, a3, a4⟩
  · unfold ref01_Valid_s3
    rw [if_neg (by omega)]
  by_cases hn : ∀ v, v < g.2.length → NodeOk g v
  rotate_left
  · exact ⟨fun h => absurd h.node hn, fun _ => outer.2 hn⟩
  rw [outer.1 hn]
  unfold ref01_Valid_k2
  have inner : ∀ (v : Nat) (ag : Int → Option Bool), v < g.2.length → ((∀ i, i < (row g v).length → SymAt g v i) → iter (ref01_Valid_s2 1000 g v ag) 1000 0 = ag ((v : Int) + 1)) ∧ (¬ (∀ i, i < (row g v).length → SymAt g v i) → iter (ref01_Valid_s2 1000 g v ag) 1000 0 = some false) := by
    intro v ag hv
    have hv3 := l3 v hv
    have body : ∀ (i : Nat) ag2, i < (row g v).length → (SymAt g v i → ref01_Valid_s2 1000 g v ag i ag2 = ag2 ((i : Int) + 1)) ∧ (¬ SymAt g v i → ref01_Valid_s2 1000 g v ag i ag2 = some false) := by
      intro i ag2 hi
      unfold ref01_Valid_s2
      rw [ckT (by omega), if_pos (show (i : Int) < ((row g v).length : Int) by omega), ckT (by omega), ckT (show 0 ≤ (i : Int) ∧ (i : Int) < ((row g v).length : Int) by omega)]
      have hu := ((hn v hv).links i hi).1
      obtain ⟨u, hu'⟩ : ∃ u : Nat, (lnk (row g v) i).1 = u := ⟨(lnk (row g v) i).1.toNat, by omega⟩
      have hun : u < g.2.length := by omega
      unfold SymAt
      rw [show (at' (at' g.2 (v : Int)) (i : Int)) = lnk (row g v) i from rfl, hu', refPort_eq g u v hun (l3 u hun), bindS rfl]
      have hlk := (hn u hun).links
      rcases portOf_cases (row g u) v with ⟨j, hj, hjv, hjf, he⟩ | ⟨hf, he⟩
      · rw [he, if_neg (by omega), ckT (by omega), ckT (show 0 ≤ (j : Int) ∧ (j : Int) < ((at' g.2 (u : Int)).length : Int) from ⟨by omega, by have : j < (row g u).length := hj; exact_mod_cast this⟩)]
        unfold ref01_Valid_k5
        constructor
        · rintro ⟨k, hk, hkv, hkw⟩
          have hkj : k = j := by
            rcases Nat.lt_trichotomy k j with h | h | h
            · exact absurd hkv (hjf k h)
            · exact h
            · exact absurd (hjv.trans hkv.symm) ((hlk k hk).2.2.2 j h)
          subst hkj
          rw [if_neg (by rw [decide_eq_false]; simp; exact fun h => h hkw), wr (by omega) (by omega)]
        · intro h
          rw [if_pos]
          exact decide_eq_true fun hw => h ⟨j, hj, hjv, hw⟩
      · rw [he, if_pos (by decide)]
        exact ⟨fun ⟨j, hj, hjv, _⟩ => absurd hjv (hf j hj), fun _ => rfl⟩
    refine iter_if (row g v).length _ (fun i ag2 hi hp => (body i ag2 hi).1 hp) (fun i ag2 hi hp => (body i ag2 hi).2 hp) (fun ag2 => ?_) 1000 (by omega)
    unfold ref01_Valid_s2 ref01_Valid_k4
    rw [ckT (by omega), if_neg (show ¬ (((row g v).length : Nat) : Int) < ((row g v).length : Int) by omega), wr (by omega) (by omega)]
  have outer2 := iter_if (step := ref01_Valid_s1 1000 g) (K := some true) (bad := false) g.2.length (fun v => ∀ i, i < (row g v).length → SymAt g v i) (fun v ag hv hp => ?_) (fun v ag hv hp => ?_) (fun ag => ?_) 1000 (by omega)
  · exact ⟨fun h => outer2.1 h.sym, fun h => outer2.2 fun hs => h ⟨h1.1, h1.2, h2, hn, hs⟩⟩
  · unfold ref01_Valid_s1
    rw [if_pos (by omega)]
    exact (inner v ag hv).1 hp
  · unfold ref01_Valid_s1
    rw [if_pos (by omega)]
    exact (inner v ag hv).2 hp
  · unfold ref01_Valid_s1 ref01_Valid_k3
    rw [if_neg (by omega)]

theorem at_set {α : Type} [Inhabited α] (l : List α) (i k : Nat) (y : α) (hi : i < l.length) : at' (l.set i y) (k : Int) = if k = i then y else at' l (k : Int) := by
  rw [at'_nat, at'_nat, List.getD_eq_getElem?_getD, List.getD_eq_getElem?_getD, List.getElem?_set]
  by_cases h : i = k
  · rw [if_pos h, if_pos h.symm, if_pos (by omega)]; rfl
  · rw [if_neg h, if_neg (Ne.symm h)]

def IdOk (l : List Int) (k : Nat) : Prop := (0 ≤ at' l (k : Int) ∧ at' l (k : Int) ≤ 255) ∧ ∀ j, j < k → at' l (j : Int) ≠ at' l (k : Int)

theorem differentIDs_eq (l : List Int) (hl : l.length ≤ 30) : ((∀ k, k < l.length → IdOk l k) → m_graph_DifferentIDs 1000 l = some true) ∧ (¬ (∀ k, k < l.length → IdOk l k) → m_graph_DifferentIDs 1000 l = some false) := by
  unfold m_graph_DifferentIDs
  have key := iter_ifS (step := graph_DifferentIDs_s1 l) (K := fun _ => some true) (bad := false) l.length (IdOk l) (fun k x => x.1 = (k : Int) ∧ x.2.length = 256 ∧ ∀ z : Nat, z < 256 → (at' x.2 (z : Int) = true ↔ ∃ j, j < k ∧ at' l (j : Int) = (z : Int))) ?_ ?_ ?_ 1000 ((0 : Int), (List.replicate 256 false)) ⟨rfl, List.length_replicate .., fun z hz => ?_⟩ (by omega)
  · exact ⟨fun h => by obtain ⟨x, _, hx⟩ := key.1 h; exact hx, key.2⟩
  · rintro k ⟨x1, x2⟩ ag hk ⟨hx, hlen, hs⟩ ⟨hr, hd⟩
    dsimp only at hx hlen hs
    subst hx
    obtain ⟨z, hz⟩ : ∃ z : Nat, at' l (k : Int) = z := ⟨(at' l (k : Int)).toNat, by omega⟩
    have hz2 : z < 256 := by omega
    have hno : ¬ at' x2 (z : Int) = true := by
      rw [hs z hz2]
      rintro ⟨j, hj, he⟩
      exact hd j hj (he.trans hz.symm)
    refine ⟨((k : Int) + 1, x2.set z true), ⟨by simp, by simp [hlen], fun y hy => ?_⟩, ?_⟩
    · dsimp only
      rw [at_set _ _ _ _ (by omega)]
      by_cases hyz : y = z
      · subst hyz
        rw [if_pos rfl]
        exact ⟨fun _ => ⟨k, by omega, hz⟩, fun _ => rfl⟩
      · rw [if_neg hyz, hs y hy]
        constructor
        · rintro ⟨j, hj, he⟩; exact ⟨j, by omega, he⟩
        · rintro ⟨j, hj, he⟩
          by_cases hjk : j = k
          · subst hjk; rw [hz] at he; omega
          · exact ⟨j, by omega, he⟩
    · unfold graph_DifferentIDs_s1 graph_DifferentIDs_k2
      dsimp only
      rw [if_pos (by omega), ckT (by omega), hz, if_neg (by omega), if_neg (by omega), ckT ⟨by omega, hlen⟩, if_neg hno, ckT ⟨by omega, hlen⟩, wr (by omega) (by omega)]
      rfl
  · rintro k ⟨x1, x2⟩ ag hk ⟨hx, hlen, hs⟩ hp
    dsimp only at hx hlen hs
    subst hx
    unfold graph_DifferentIDs_s1 graph_DifferentIDs_k2
    dsimp only
    rw [if_pos (by omega), ckT (by omega)]
    by_cases h1 : at' l (k : Int) < 0
    · rw [if_pos h1, if_pos rfl]
    rw [if_neg h1]
    by_cases h2 : 255 < at' l (k : Int)
    · rw [if_pos h2, if_pos rfl]
    rw [if_neg h2]
    obtain ⟨z, hz⟩ : ∃ z : Nat, at' l (k : Int) = z := ⟨(at' l (k : Int)).toNat, by omega⟩
    rw [hz, ckT ⟨by omega, hlen⟩, if_pos]
    rw [hs z (by omega)]
    apply Classical.byContradiction
    intro hc
    exact hp ⟨by omega, fun j hj he => hc ⟨j, hj, he.trans hz⟩⟩
  · rintro ⟨x1, x2⟩ ag ⟨hx, _, _⟩
    dsimp only at hx
    subst hx
    unfold graph_DifferentIDs_s1 graph_DifferentIDs_k1
    dsimp only
    rw [if_neg (by omega)]
  · rw [show at' (List.replicate 256 false) (z : Int) = false by rw [at'_nat, List.getD_eq_getElem?_getD, List.getElem?_replicate, if_pos hz]; rfl]
    exact ⟨fun h => (by cases h), fun ⟨j, hj, _⟩ => (by omega)⟩

theorem mget_mset {κ ν : Type} [DecidableEq κ] (k k' : κ) (v : ν) : ∀ l : List (κ × ν), mget k' (mset k v l) = if k' = k then some v else mget k' l
  | [] => by simp only [mset, mget]
  | x :: xs => by
    simp only [mset]
    by_cases h : k = x.1
    · rw [if_pos h]; simp only [mget]
      by_cases h2 : k' = k
      · rw [if_pos h2, if_pos h2]
      · rw [if_neg h2, if_neg h2, if_neg (fun h3 => h2 (h3.trans h.symm))]
    · rw [if_neg h]; simp only [mget]
      by_cases h2 : k' = x.1
      · rw [if_pos h2, if_neg (fun h3 => h (h3.symm.trans h2)), if_pos h2]
      · rw [if_neg h2, mget_mset k k' v xs]
        by_cases h3 : k' = k
        · rw [if_pos h3, if_pos h3]
        · rw [if_neg h3, if_neg h3, if_neg h2]

theorem mem_mset {κ ν : Type} [DecidableEq κ] {k : κ} {v : ν} {z : κ × ν} {l : List (κ × ν)} (h0 : mget k l = none) : z ∈ mset k v l ↔ z = (k, v) ∨ z ∈ l := by
  rw [mset_none k v l h0]
  simp [or_comm]

theorem mget_none {κ ν : Type} [DecidableEq κ] {k : κ} : ∀ {l : List (κ × ν)}, (∀ v, (k, v) ∉ l) → mget k l = none
  | [], _ => rfl
  | x :: xs, h => by
    simp only [mget]
    rw [if_neg (fun e => h x.2 (by rw [e]; exact List.mem_cons_self ..))]
    exact mget_none fun v hv => h v (List.mem_cons_of_mem _ hv)

theorem mget_none_mem {κ ν : Type} [DecidableEq κ] {k : κ} {v : ν} : ∀ {l : List (κ × ν)}, mget k l = none → (k, v) ∉ l
  | [], _ => by simp
  | x :: xs, h => by
    simp only [mget] at h
    by_cases e : k = x.1
    · rw [if_pos e] at h; cases h
    · rw [if_neg e] at h
      intro hm
      rcases List.mem_cons.1 hm with h2 | h2
      · exact e (by rw [← h2])
      · exact mget_none_mem h h2

theorem mget_some {κ ν : Type} [DecidableEq κ] {k : κ} {v : ν} : ∀ {l : List (κ × ν)}, mget k l = some v → (k, v) ∈ l
  | x :: xs, h => by
    simp only [mget] at h
    by_cases e : k = x.1
    · rw [if_pos e] at h; cases h; rw [e]; exact List.mem_cons_self ..
    · rw [if_neg e] at h; exact List.mem_cons_of_mem _ (mget_some h)

theorem mrun_all {κ ν : Type} (p : κ × ν → Prop) [DecidablePred p] : ∀ l : List (κ × ν), mrun (fun kv x => if p kv then some false else x) (some true) l = some (decide (∀ z ∈ l, ¬ p z))
  | [] => by simp [mrun]
  | x :: xs => by
    show (if p x then some false else mrun _ (some true) xs) = _
    rw [mrun_all p xs]
    by_cases h : p x
    · rw [if_pos h]; congr 1; symm; exact decide_eq_false fun h2 => h2 x (List.mem_cons_self ..) h
    · rw [if_neg h]; congr 1; apply decide_eq_decide.2; simp [h]

/-- the links that were read: all of the nodes below v, and of v those below i -/
def Read (ps : List (List (Int × Int))) (v i : Nat) (z : (Int × Int) × Int) : Prop := ∃ a b : Nat, (a < v ∨ (a = v ∧ b < i)) ∧ b < (at' ps (a : Int)).length ∧ z = (((a : Int), (lnk (at' ps (a : Int)) b).1), (lnk (at' ps (a : Int)) b).2)

def SymPs (ps : List (List (Int × Int))) : Prop := (∀ v, v < ps.length → LinksOk (at' ps (v : Int)) v ps.length) ∧ ∀ v, v < ps.length → ∀ i, i < (at' ps (v : Int)).length → SymAt ([], ps) v i

theorem symmetric_eq (ps : List (List (Int × Int))) (hn : ps.length ≤ 30) (hd : ∀ v, v < ps.length → (at' ps (v : Int)).length ≤ 30) : (SymPs ps → m_graph_symmetric 1000 ps = some true) ∧ (¬ SymPs ps → m_graph_symmetric 1000 ps = some false) := by
  unfold m_graph_symmetric
  have inner : ∀ (v : Nat) (m : List ((Int × Int) × Int)) ag, v < ps.length → (∀ z, z ∈ m ↔ Read ps v 0 z) →
      (LinksOk (at' ps (v : Int)) v ps.length → ∃ m', (∀ z, z ∈ m' ↔ Read ps (v + 1) 0 z) ∧ iter (graph_symmetric_s3 ps ((v : Int), m) ag) 1000 ((0 : Int), m) = ag ((v : Int) + 1, m')) ∧
      (¬ LinksOk (at' ps (v : Int)) v ps.length → iter (graph_symmetric_s3 ps ((v : Int), m) ag) 1000 ((0 : Int), m) = some false) := by
    intro v m ag hv hm
    have hdv := hd v hv
    have key := iter_ifS (step := graph_symmetric_s3 ps ((v : Int), m) ag) (K := fun x => ag ((v : Int) + 1, x.2)) (bad := false) (at' ps (v : Int)).length (LinkOk (at' ps (v : Int)) v ps.length) (fun i x => x.1 = (i : Int) ∧ ∀ z, z ∈ x.2 ↔ Read ps v i z) ?_ ?_ ?_ 1000 ((0 : Int), m) ⟨rfl, hm⟩ (by omega)
    · refine ⟨fun h => ?_, fun h => key.2 h⟩
      obtain ⟨x, ⟨hx1, hx2⟩, hx⟩ := key.1 h
      refine ⟨x.2, fun z => (hx2 z).trans ⟨?_, ?_⟩, hx⟩
      · rintro ⟨a, b, h1, h2, h3⟩; exact ⟨a, b, by omega, h2, h3⟩
      · rintro ⟨a, b, h1, h2, h3⟩
        refine ⟨a, b, ?_, h2, h3⟩
        by_cases ha : a = v
        · subst ha; exact .inr ⟨rfl, h2⟩
        · omega
    · rintro i ⟨x1, x2⟩ ag2 hi ⟨hx, hs⟩ ⟨p1, p2, p3, p4⟩
      dsimp only at hx hs
      subst hx
      have hg : mget (((v : Int), (lnk (at' ps (v : Int)) i).1)) x2 = none := by
        apply mget_none
        intro w hw
        obtain ⟨a, b, h1, h2, h3⟩ := (hs _).1 hw
        simp only [Prod.mk.injEq] at h3
        obtain ⟨⟨h4, h5⟩, _⟩ := h3
        have : a = v := by omega
        subst this
        have hb : b < i := by omega
        exact p4 b hb h5.symm
      refine ⟨((i : Int) + 1, mset (((v : Int), (lnk (at' ps (v : Int)) i).1)) (lnk (at' ps (v : Int)) i).2 x2), ⟨by simp, fun z => ?_⟩, ?_⟩
      · dsimp only
        rw [mem_mset hg, hs]
        constructor
        · rintro (rfl | ⟨a, b, h1, h2, h3⟩)
          · exact ⟨v, i, .inr ⟨rfl, by omega⟩, hi, rfl⟩
          · exact ⟨a, b, by omega, h2, h3⟩
        · rintro ⟨a, b, h1, h2, h3⟩
          by_cases hab : a = v ∧ b = i
          · left; rw [h3, hab.1, hab.2]
          · right; exact ⟨a, b, by omega, h2, h3⟩
      · replace p1 : 0 ≤ (at' (at' ps (v : Int)) (i : Int)).1 ∧ (at' (at' ps (v : Int)) (i : Int)).1 ≤ (ps.length : Int) - 1 := p1
        replace p3 : 1 ≤ (at' (at' ps (v : Int)) (i : Int)).2 ∧ (at' (at' ps (v : Int)) (i : Int)).2 ≤ 15 := p3
        unfold graph_symmetric_s3 graph_symmetric_k3 graph_symmetric_k4
        dsimp only
        rw [if_pos (by omega), ckT (by omega), if_neg (by omega), if_neg (by omega), if_neg (by rw [decide_eq_false p2]; simp), if_neg (by omega), if_neg (by rw [decide_eq_false (by omega)]; simp), hg, if_neg (by simp), wr (by omega) (by omega)]
    · rintro i ⟨x1, x2⟩ ag2 hi ⟨hx, hs⟩ hp
      dsimp only at hx hs
      subst hx
      unfold graph_symmetric_s3 graph_symmetric_k3 graph_symmetric_k4
      dsimp only
      rw [if_pos (by omega), ckT (by omega)]
      by_cases h1 : (lnk (at' ps (v : Int)) i).1 < 0
      · rw [if_pos h1, if_pos rfl]
      rw [if_neg h1]
      by_cases h2 : (ps.length : Int) ≤ (lnk (at' ps (v : Int)) i).1
      · rw [if_pos h2, if_pos rfl]
      rw [if_neg h2]
      by_cases h3 : (lnk (at' ps (v : Int)) i).1 = v
      · rw [if_pos (decide_eq_true h3)]
      rw [if_neg (by rw [decide_eq_false h3]; simp)]
      by_cases h4 : (lnk (at' ps (v : Int)) i).2 < 1
      · rw [if_pos h4, if_pos rfl]
      rw [if_neg h4]
      by_cases h5 : 15 < (lnk (at' ps (v : Int)) i).2
      · rw [if_pos (decide_eq_true h5)]
      rw [if_neg (by rw [decide_eq_false h5]; simp)]
      have : ∃ k, k < i ∧ (lnk (at' ps (v : Int)) k).1 = (lnk (at' ps (v : Int)) i).1 := by
        apply Classical.byContradiction
        intro hc
        exact hp ⟨by omega, h3, by omega, fun k hk he => hc ⟨k, hk, he⟩⟩
      obtain ⟨k, hk, he⟩ := this
      have hin := (hs _).2 ⟨v, k, .inr ⟨rfl, hk⟩, by omega, rfl⟩
      rw [if_pos]
      rw [← he]
      cases hg : mget (((v : Int), (lnk (at' ps (v : Int)) k).1)) x2 with
      | some w => rfl
      | none => exact absurd hin (by
          intro hin
          exact mget_none_mem hg hin)
    · rintro ⟨x1, x2⟩ ag2 ⟨hx, hs⟩
      dsimp only at hx hs
      subst hx
      unfold graph_symmetric_s3 graph_symmetric_k2
      dsimp only
      rw [if_neg (by omega), wr (by omega) (by omega)]
  have outer := iter_ifS (step := graph_symmetric_s2 1000 ps) (K := fun x => graph_symmetric_k1 x.2) (bad := false) ps.length (fun v => LinksOk (at' ps (v : Int)) v ps.length) (fun v x => x.1 = (v : Int) ∧ ∀ z, z ∈ x.2 ↔ Read ps v 0 z) ?_ ?_ ?_ 1000 ((0 : Int), []) ⟨rfl, fun z => ⟨fun h => (by cases h), fun ⟨a, b, h1, _⟩ => (by omega)⟩⟩ (by omega)
  rotate_left
  · rintro v ⟨x1, x2⟩ ag hv ⟨hx, hs⟩ hp
    dsimp only at hx hs
    subst hx
    obtain ⟨m', h1, h2⟩ := (inner v x2 ag hv hs).1 hp
    refine ⟨((v : Int) + 1, m'), ⟨by simp, h1⟩, ?_⟩
    · unfold graph_symmetric_s2
      dsimp only
      rw [if_pos (by omega), ckT (by omega)]
      exact h2
  · rintro v ⟨x1, x2⟩ ag hv ⟨hx, hs⟩ hp
    dsimp only at hx hs
    subst hx
    unfold graph_symmetric_s2
    dsimp only
    rw [if_pos (by omega), ckT (by omega)]
    exact (inner v x2 ag hv hs).2 hp
  · rintro ⟨x1, x2⟩ ag ⟨hx, hs⟩
    dsimp only at hx hs
    subst hx
    unfold graph_symmetric_s2
    dsimp only
    rw [if_neg (by omega)]
  by_cases hL : ∀ v, v < ps.length → LinksOk (at' ps (v : Int)) v ps.length
  rotate_left
  · exact ⟨fun h => absurd h.1 hL, fun _ => outer.2 hL⟩
  obtain ⟨⟨x1, x2⟩, ⟨hx, hs⟩, he⟩ := outer.1 hL
  rw [he]
  dsimp only at hs ⊢
  have hk : graph_symmetric_k1 x2 = some (decide (∀ z ∈ x2, ¬ (Option.getD (mget (z.1.2, z.1.1) x2) (0 : Int)) ≠ z.2)) := mrun_all (fun z : (Int × Int) × Int => (Option.getD (mget (z.1.2, z.1.1) x2) (0 : Int)) ≠ z.2) x2
  rw [hk]
  have hiff : (∀ z ∈ x2, ¬ (Option.getD (mget (z.1.2, z.1.1) x2) (0 : Int)) ≠ z.2) ↔ ∀ v, v < ps.length → ∀ i, i < (at' ps (v : Int)).length → SymAt ([], ps) v i := by
    constructor
    · intro h v hv i hi
      have hw := (hL v hv i hi).2.2.1
      have hin := (hs (((v : Int), (lnk (at' ps (v : Int)) i).1), (lnk (at' ps (v : Int)) i).2)).2 ⟨v, i, .inl hv, hi, rfl⟩
      have h2 := Decidable.not_not.1 (h _ hin)
      dsimp only at h2
      cases hg : mget ((lnk (at' ps (v : Int)) i).1, (v : Int)) x2 with
      | none => rw [hg] at h2; simp only [Option.getD] at h2; omega
      | some w =>
        rw [hg] at h2; simp only [Option.getD] at h2
        obtain ⟨a, b, h3, h4, h5⟩ := (hs _).1 (mget_some hg)
        simp only [Prod.mk.injEq] at h5
        obtain ⟨⟨h6, h7⟩, h8⟩ := h5
        refine ⟨b, ?_, ?_, ?_⟩
        · show b < (at' ps (lnk (at' ps (v : Int)) i).1).length
          rw [h6]; exact h4
        · show (lnk (at' ps (lnk (at' ps (v : Int)) i).1) b).1 = v
          rw [h6]; exact h7.symm
        · show (lnk (at' ps (lnk (at' ps (v : Int)) i).1) b).2 = (lnk (at' ps (v : Int)) i).2
          rw [h6, ← h8]; exact h2
    · intro h z hz hne
      obtain ⟨a, b, h3, h4, rfl⟩ := (hs z).1 hz
      have ha : a < ps.length := by omega
      apply hne
      obtain ⟨j, hj1, hj2, hj3⟩ := h a ha b h4
      have hu := (hL a ha b h4).1
      obtain ⟨u, hu'⟩ : ∃ u : Nat, (lnk (at' ps (a : Int)) b).1 = u := ⟨(lnk (at' ps (a : Int)) b).1.toNat, by omega⟩
      replace hj1 : j < (at' ps (lnk (at' ps (a : Int)) b).1).length := hj1
      replace hj2 : (lnk (at' ps (lnk (at' ps (a : Int)) b).1) j).1 = a := hj2
      replace hj3 : (lnk (at' ps (lnk (at' ps (a : Int)) b).1) j).2 = (lnk (at' ps (a : Int)) b).2 := hj3
      rw [hu'] at hj1 hj2 hj3
      have hun : u < ps.length := by omega
      dsimp only
      rw [hu', ← hj3]
      have hin := (hs (((u : Int), (lnk (at' ps (u : Int)) j).1), (lnk (at' ps (u : Int)) j).2)).2 ⟨u, j, .inl hun, hj1, rfl⟩
      rw [hj2] at hin
      cases hg : mget ((u : Int), (a : Int)) x2 with
      | none => exact absurd hin (mget_none_mem hg)
      | some w =>
        obtain ⟨a', b', h3', h4', h5⟩ := (hs _).1 (mget_some hg)
        simp only [Prod.mk.injEq] at h5
        obtain ⟨⟨h6, h7⟩, h8⟩ := h5
        have : a' = u := by omega
        subst this
        have hbj : b' = j := by
          rcases Nat.lt_trichotomy b' j with hl | hl | hl
          · exact absurd (h7.symm.trans hj2.symm) ((hL a' hun j hj1).2.2.2 b' hl)
          · exact hl
          · exact absurd (hj2.trans h7) ((hL a' hun b' h4').2.2.2 j hl)
        subst hbj
        exact h8
  by_cases hS : ∀ v, v < ps.length → ∀ i, i < (at' ps (v : Int)).length → SymAt ([], ps) v i
  · rw [decide_eq_true (hiff.2 hS)]
    exact ⟨fun _ => rfl, fun h => absurd ⟨hL, hS⟩ h⟩
  · rw [decide_eq_false (fun h => hS (hiff.1 h))]
    exact ⟨fun h => absurd h.2 hS, fun _ => rfl⟩

/-- numbers below N, all different: at most N -/
theorem pigeon : ∀ (N : Nat) (f : Nat → Nat) (k : Nat), (∀ i, i < k → f i < N) → (∀ i j, i < j → j < k → f i ≠ f j) → k ≤ N
  | 0, f, k, h, _ => by
    cases k with
    | zero => omega
    | succ k => exact absurd (h 0 (by omega)) (by omega)
  | N + 1, f, k, h, hd => by
    by_cases hex : ∃ a, a < k ∧ f a = N
    · obtain ⟨a, ha, hfa⟩ := hex
      have := pigeon N (fun i => if i < a then f i else f (i + 1)) (k - 1) (fun i hi => by
        split
        · have := h i (by omega); have := hd i a (by omega) ha; omega
        · have := h (i + 1) (by omega); have := hd a (i + 1) (by omega) (by omega); omega) (fun i j hij hj => by
        split <;> split
        · exact hd i j hij (by omega)
        · exact hd i (j + 1) (by omega) (by omega)
        · omega
        · exact hd (i + 1) (j + 1) (by omega) (by omega))
      omega
    · have := pigeon N f k (fun i hi => by
        have := h i hi
        have : f i ≠ N := fun e => hex ⟨i, hi, e⟩
        omega) hd
      omega

theorem deg_lt {l : List (Int × Int)} {v n : Nat} (hv : v < n) (h : LinksOk l v n) : l.length < n := by
  have := pigeon n (fun i => if i = l.length then v else (lnk l i).1.toNat) (l.length + 1) (fun i hi => by
    split
    · exact hv
    · have := (h i (by omega)).1; omega) (fun i j hij hj => by
    rw [if_neg (by omega)]
    have h1 := (h i (by omega)).1
    split
    · have := (h i (by omega)).2.1; omega
    · have h2 := (h j (by omega)).1
      have := (h j (by omega)).2.2.2 i hij
      omega)
  omega

theorem valid_eq (g : GR) (hl : light g) : (VG g → m_graph_Valid 1000 g = some true) ∧ (¬ VG g → m_graph_Valid 1000 g = some false) := by
  obtain ⟨l1, l2, l3⟩ := hl
  unfold m_graph_Valid graph_Valid_k1 graph_Valid_k2
  by_cases h1 : g.1.length < 1
  · rw [if_pos (by omega)]
    exact ⟨fun h => by have := h.n1; have := h.len; omega, fun _ => rfl⟩
  rw [if_neg (by omega)]
  by_cases h2 : 24 < g.1.length
  · rw [if_pos (by omega)]
    exact ⟨fun h => by have := h.n24; have := h.len; omega, fun _ => rfl⟩
  rw [if_neg (by omega)]
  by_cases h3 : g.1.length = g.2.length
  rotate_left
  · rw [decide_eq_true (by omega)]
    exact ⟨fun h => absurd h.len h3, fun _ => rfl⟩
  rw [decide_eq_false (by omega), if_neg (by simp)]
  by_cases h4 : ∀ k, k < g.1.length → IdOk g.1 k
  rotate_left
  · rw [(differentIDs_eq g.1 l1).2 h4, bindS rfl]
    exact ⟨fun h => absurd (fun k hk => ⟨(h.node k (by omega)).id, (h.node k (by omega)).ids⟩) h4, fun _ => rfl⟩
  rw [(differentIDs_eq g.1 l1).1 h4, bindS rfl, if_pos rfl]
  by_cases h5 : SymPs g.2
  · rw [(symmetric_eq g.2 l2 l3).1 h5]
    exact ⟨fun _ => rfl, fun h => absurd ⟨by omega, by omega, h3, fun v hv => ⟨(h4 v (by omega)).1, deg_lt hv (h5.1 v hv), h5.1 v hv, (h4 v (by omega)).2⟩, h5.2⟩ h⟩
  · rw [(symmetric_eq g.2 l2 l3).2 h5]
    exact ⟨fun h => absurd ⟨fun v hv => (h.node v hv).links, h.sym⟩ h5, fun _ => rfl⟩

theorem VG.light {g : GR} (h : VG g) : light g := ⟨by have := h.n24; have := h.len; omega, by have := h.n24; omega, fun v hv => by have := (h.node v hv).deg; have := h.n24; omega⟩
end Go.Proofs.Ytemhmmcakmidkaa
