/- Models of functions with their proofs, by program (gen/xt.py), and plain laws, in one text. Conditions: none. -/
import Derived.Test.YtmajgimhmfeliaaZLWh6
import Derived.Test.YtmajgimhmfeliaaZLWh5
import Derived.Test.YtmajgimhmfeliaaZLWh4
section
set_option linter.unusedVariables false
set_option linter.unusedSimpArgs false
namespace Go.Proofs.Ytmajgimhmfeliaa
open Go.Sx
set_option linter.unusedVariables false
section
variable {g : GR} {st : List Int} {l : List (Int × Int)}
theorem at_map {α : Type} [Inhabited α] (f : Nat → α) {n v : Nat} (h : v < n) : at' ((List.range n).map f) (v : Int) = f v := by
  rw [at'_nat, List.getD_eq_getElem?_getD]
  simp [h]

/-! ## least closed values exist -/
open Classical in
theorem lce_exists {ps a : List Int} (hV : VM g.1 g.2) (hp : Prt g ps) (h : ∃ c, Closed0 g ps c ∧ Ext2 g a c) : ∃ b, IsLCE g ps a b := by
  obtain ⟨c0, h0, e0⟩ := h
  let b : List Int := (List.range g.2.length).map fun v : Nat => if (∀ c, Closed0 g ps c → Ext2 g a c → at' c (v : Int) = at' c0 (v : Int)) then at' c0 (v : Int) else -1
  have hb : ∀ v : Nat, v < g.2.length → at' b (v : Int) = if (∀ c, Closed0 g ps c → Ext2 g a c → at' c (v : Int) = at' c0 (v : Int)) then at' c0 (v : Int) else -1 := fun v hv => at_map _ hv
  have key : ∀ v : Nat, v < g.2.length → at' b (v : Int) ≠ -1 → ∀ c, Closed0 g ps c → Ext2 g a c → at' c (v : Int) = at' b (v : Int) := by
    intro v hv hne c hc he
    rw [hb v hv] at hne ⊢
    by_cases hq : ∀ c, Closed0 g ps c → Ext2 g a c → at' c (v : Int) = at' c0 (v : Int)
    · rw [if_pos hq]; exact hq c hc he
    · rw [if_neg hq] at hne; exact absurd rfl hne
  have intro' : ∀ (v : Nat) (x : Int), v < g.2.length → (∀ c, Closed0 g ps c → Ext2 g a c → at' c (v : Int) = x) → at' b (v : Int) = x := by
    intro v x hv hx
    have e := hx c0 h0 e0
    rw [hb v hv, if_pos (fun c hc he => by rw [hx c hc he, e]), e]
  refine ⟨b, ⟨⟨by simp [b], fun v hv => ?_, fun v hv _ hne => ?_⟩, fun v hv hpv => ?_⟩, fun v hv hne => ?_, fun c hc he v hv hne => key v hv hne c hc he⟩
  · by_cases hne : at' b (v : Int) ≠ -1
    · rw [← key v hv hne c0 h0 e0]; exact h0.inv.val v hv
    · exact .inl (by omega)
  · have hcl : ∀ c, Closed0 g ps c → Ext2 g a c → Clo g ps c v := fun c hc he => hc.inv.clo v hv (fun h => h) (by rw [key v hv hne c hc he]; exact hne)
    refine ⟨?_, fun hn => intro' v 0 hv fun c hc he => (hcl c hc he).no hn, fun hn => ?_, fun h1 x hx => ?_⟩
    · rw [← key v hv hne c0 h0 e0]; exact (hcl c0 h0 e0).two
    · have hr := hp.rng v hv
      obtain ⟨q, hq⟩ : ∃ q : Nat, at' ps (v : Int) = q := ⟨(at' ps (v : Int)).toNat, by omega⟩
      have h2 : ∀ c, Closed0 g ps c → Ext2 g a c → at' c (q : Int) = 1 - at' b (v : Int) := fun c hc he => by
        have := (hcl c hc he).pt hn
        rw [hq] at this
        rw [this, key v hv hne c hc he]
      rw [hq]
      exact intro' q _ (by omega) h2
    · have hr := (hV.lk v hv x hx).1
      obtain ⟨q, hq⟩ : ∃ q : Nat, x.1 = q := ⟨x.1.toNat, by omega⟩
      rw [hq]
      refine intro' q _ (by omega) fun c hc he => ?_
      have := (hcl c hc he).nb (by rw [key v hv hne c hc he]; exact h1) x hx
      rw [hq] at this; exact this
  · exact intro' v 0 hv fun c hc _ => hc.zero v hv hpv
  · have : ∀ c, Closed0 g ps c → Ext2 g a c → at' c (v : Int) = at' a (v : Int) := fun c _ he => he v hv hne
    exact intro' v _ hv this

theorem LCE_spec {ps a b : List Int} (h : LCE g ps a = some b) : IsLCE g ps a b := by
  unfold LCE at h
  split at h
  · rename_i hx
    rw [← Option.some.inj h]
    exact Classical.choose_spec hx
  · cases h

theorem LCE_no {ps a : List Int} (hV : VM g.1 g.2) (hp : Prt g ps) (h : LCE g ps a = none) : NoCE g ps a := by
  intro hx
  have hb := lce_exists hV hp hx
  unfold LCE at h
  rw [dif_pos hb] at h
  cases h

theorem gr_ok {ps : List Int} (hV : VM g.1 g.2) (hp : Prt g ps) : ∀ (k : Nat) (xs : List Int), k ≤ g.2.length → gr g ps k = some xs → Closed0 g ps xs ∧ ∀ v : Nat, v < k → at' xs (v : Int) ≠ -1
  | 0, xs, _, h => ⟨(LCE_spec h).clo, fun v hv => by omega⟩
  | k + 1, xs, hk, h => by
    change (gr g ps k).bind _ = _ at h
    cases hz : gr g ps k with
    | none => rw [hz] at h; cases h
    | some zs =>
      rw [hz] at h
      obtain ⟨c1, c2⟩ := gr_ok hV hp k zs (by omega) hz
      have hzl := c1.inv.len
      change gstep g ps k zs = some xs at h
      unfold gstep at h
      by_cases hun : at' zs (k : Int) = -1
      · rw [if_pos hun] at h
        have fin : ∀ val : Int, val = 0 ∨ val = 1 → IsLCE g ps (zs.set k val) xs → Closed0 g ps xs ∧ ∀ v : Nat, v < k + 1 → at' xs (v : Int) ≠ -1 := by
          intro val hval hL
          refine ⟨hL.clo, fun v hv => ?_⟩
          by_cases hvk : v = k
          · subst hvk
            have := hL.ext v (by omega) (by rw [at_set1 _ _ _ (by omega), if_pos rfl]; omega)
            rw [this, at_set1 _ _ _ (by omega), if_pos rfl]; omega
          · have h2 := c2 v (by omega)
            have := hL.ext v (by omega) (by rw [at_set1 _ _ _ (by omega), if_neg hvk]; exact h2)
            rw [this, at_set1 _ _ _ (by omega), if_neg hvk]; exact h2
        cases h0 : LCE g ps (zs.set k 0) with
        | some b =>
          rw [h0] at h
          obtain rfl := Option.some.inj h
          exact fin 0 (.inl rfl) (LCE_spec h0)
        | none =>
          rw [h0] at h
          exact fin 1 (.inr rfl) (LCE_spec h)
      · rw [if_neg hun] at h
        obtain rfl := Option.some.inj h
        refine ⟨c1, fun v hv => ?_⟩
        by_cases hvk : v = k
        · subst hvk; exact hun
        · exact c2 v (by omega)

/-! ## what is to be proved -/
def HoldsP (kind : Int) (g : GR) (st : List Int) : Prop :=
  if kind = 1 then TreeP g st else if kind = 2 then ∃ a, OnlyAt st 1 a else if kind = 3 then ∀ d, Dist g 0 d → Sides g d else Mut g st ∧ gr g (ptns g st) g.2.length ≠ none
def LabP (kind : Int) (g : GR) (st : List Int) (l : List (Int × Int)) : Prop :=
  if kind = 1 then ∃ r, TreeR g st r ∧ TreeL g st r l else if kind = 2 then ∃ a, OnlyAt st 1 a ∧ LeadL g a l else if kind = 3 then ∃ d, Dist g 0 d ∧ Sides g d ∧ SideL g d l else Mut g st ∧ ∃ xs, gr g (ptns g st) g.2.length = some xs ∧ CovL g xs l

theorem Dist.unique (hV : VG g) {s : Nat} (hs : s < g.2.length) {d e : List Int} (h : Dist g s d) (h2 : Dist g s e) : d = e := by
  refine list_ext (by rw [h.len, h2.len]) fun v hv => ?_
  have hv' : v < g.2.length := by rw [← h.len]; exact hv
  obtain ⟨f, _, hf⟩ := distances_ok hV hv'
  rw [Dist.symm hV h hf hs hv', Dist.symm hV h2 hf hs hv']

theorem prove_spec (hV : VM g.1 g.2) (hC : Conn g) {kind : Int} (hF : Fit kind g st) : OK (fun q : List (Int × Int) × Int => (q.2 = 0 ∧ HoldsP kind g st ∧ LabP kind g st q.1) ∨ (q = ([], 7) ∧ ¬ HoldsP kind g st)) (m_labels_Prove 2000 kind g st) := by
  have hk := hF.k14
  have hg : VG g := hV.vg
  have h1 := hV.n1
  have wrap : ∀ q : List (Int × Int) × Bool, (if kind = 1 then m_labels_tree 2000 g st else if kind = 2 then m_labels_leader 2000 g st else if kind = 3 then m_labels_bipartite 2000 g st else m_labels_cover 2000 g st) = some q →
      ((q.2 = true ∧ HoldsP kind g st ∧ LabP kind g st q.1) ∨ (q = ([], false) ∧ ¬ HoldsP kind g st)) → OK (fun q : List (Int × Int) × Int => (q.2 = 0 ∧ HoldsP kind g st ∧ LabP kind g st q.1) ∨ (q = ([], 7) ∧ ¬ HoldsP kind g st)) (m_labels_Prove 2000 kind g st) := by
    intro q hq h
    refine ⟨_, prove_eq hg hC hF q hq, ?_⟩
    rcases h with ⟨h1, h2⟩ | ⟨rfl, h2⟩
    · rw [if_pos h1]; exact .inl ⟨rfl, h2⟩
    · exact .inr ⟨rfl, h2⟩
  obtain rfl | rfl | rfl | rfl : kind = 1 ∨ kind = 2 ∨ kind = 3 ∨ kind = 4 := by omega
  · obtain ⟨q, hq, h⟩ := tree_ok' hg hF
    refine wrap q hq ?_
    rcases h with ⟨h1, r, h2, h3⟩ | ⟨h1, h2⟩
    · exact .inl ⟨h1, ⟨r, h2⟩, r, h2, h3⟩
    · exact .inr ⟨h1, h2⟩
  · obtain ⟨q, hq, h⟩ := leader_ok hg hF
    refine wrap q hq ?_
    rcases h with ⟨h1, r, h2, h3⟩ | ⟨h1, h2⟩
    · exact .inl ⟨h1, ⟨r, h2⟩, r, h2, h3⟩
    · exact .inr ⟨h1, h2⟩
  · obtain ⟨q, hq, d, hD, h⟩ := bipartite_ok hg hC hF
    refine wrap q hq ?_
    rcases h with ⟨h1, h2, h3⟩ | ⟨h1, h2⟩
    · exact .inl ⟨h1, fun e he => (by rw [Dist.unique hg (by omega) he hD]; exact h2), d, hD, h2, h3⟩
    · exact .inr ⟨h1, fun hh => h2 (hh d hD)⟩
  · obtain ⟨q, hq, h⟩ := cover_spec hV hF.len hF.fit
    refine wrap q hq ?_
    rcases h with ⟨h1, xs, h2, h3, h4⟩ | ⟨h1, h2⟩
    · exact .inl ⟨h3, ⟨h1, by rw [h2]; simp⟩, h1, xs, h2, h4⟩
    · exact .inr ⟨h1, h2⟩

theorem LabP.len {kind : Int} (h : LabP kind g st l) : l.length = g.2.length := by
  unfold LabP at h
  split at h
  · obtain ⟨r, _, h⟩ := h; exact h.1
  · split at h
    · obtain ⟨r, _, h⟩ := h; exact h.1
    · split at h
      · obtain ⟨d, _, _, h⟩ := h; exact h.1
      · obtain ⟨_, xs, _, h⟩ := h; exact h.1

theorem lnk_node (hV : VG g) {v i : Nat} (hv : v < g.2.length) (hi : i < (row g v).length) : ∃ u : Nat, u < g.2.length ∧ (lnk (row g v) i).1 = (u : Int) := by
  obtain ⟨u, hu, he, _⟩ := hV.port hv hi; exact ⟨u, hu, he⟩

theorem ptn_port {v i : Nat} (hs : (i : Int) = at' st (v : Int)) : ptn g st v = (lnk (row g v) i).1 := by
  unfold ptn
  rw [if_pos (by omega), ← hs]

theorem prt_of (hV : VM g.1 g.2) (hfit : ∀ v : Nat, v < g.2.length → FitAt 4 g v (at' st (v : Int))) : Prt g (ptns g st) := ⟨ptns_len g st, fun v hv => by rw [ptns_at hv]; exact (ptn_rng hV hv (hfit v hv)).2⟩

/-- all nodes accept -/
theorem complete (hV : VM g.1 g.2) (hC : Conn g) {kind : Int} (hF : Fit kind g st) (h : LabP kind g st l) : AllAcc kind g st l := by
  have hk := hF.k14
  have hg : VG g := hV.vg
  have h1 := hV.n1
  have h24 := hV.n24
  have hst := hF.len
  intro v hv
  obtain rfl | rfl | rfl | rfl : kind = 1 ∨ kind = 2 ∨ kind = 3 ∨ kind = 4 := by omega
  · obtain ⟨r, hT, hl, hall⟩ := h
    obtain ⟨k, hk, hs⟩ := hall v hv
    refine ⟨fun i hi => ?_, ?_⟩
    · obtain ⟨u, hu, he⟩ := lnk_node hg hv hi
      obtain ⟨q, hq, _⟩ := hall u hu
      show (at' l (lnk (row g v) i).1).1 = (at' l (v : Int)).1
      rw [he, hq, hk]
    · have hft := hF.fit v hv
      rw [FitAt, if_pos (.inl rfl)] at hft
      by_cases hx : at' st (v : Int) < 0
      · rw [if_pos hx]
        have hvr : v = r := hT.root.2.2 v (by omega) (by omega)
        subst hvr
        have hk0 : k = 0 := Classical.byContradiction fun hne => hs.2 0 (by omega) rfl
        subst hk0
        show (at' l (v : Int)).1 = _ ∧ (at' l (v : Int)).2 = 0
        rw [hk]; exact ⟨rfl, rfl⟩
      · rw [if_neg hx]
        have hvr : v ≠ r := fun h => by subst h; have := hT.root.2.1; omega
        have hk1 : 1 ≤ k := by
          apply Classical.byContradiction
          intro hne
          have : k = 0 := by omega
          subst this
          exact hvr hs.1
        obtain ⟨i, hi⟩ : ∃ i : Nat, (i : Int) = at' st (v : Int) := ⟨(at' st (v : Int)).toNat, by omega⟩
        have hid : i < (row g v).length := by omega
        obtain ⟨u, hu, he⟩ := lnk_node hg hv hid
        obtain ⟨q, hq, hsq⟩ := hall u hu
        have hpu : ptn g st v = (u : Int) := by rw [ptn_port hi, he]
        have hs' : Steps g st r u (k - 1) := by
          have e : ∀ j, go g st (j + 1) v = go g st j u := fun j => by
            show go g st j (ptn g st v).toNat = _
            rw [hpu]
            have : ((u : Int)).toNat = u := by omega
            rw [this]
          refine ⟨?_, fun j hj => ?_⟩
          · have := hs.1
            rw [show k = (k - 1) + 1 by omega, e] at this; exact this
          · rw [← e]; exact hs.2 (j + 1) (by omega)
        have hqk : q = k - 1 := hsq.det hs'
        have hkn := steps_lt hg hF.fit hv hs
        refine ⟨i, hid, hi, ?_, ?_⟩
        · show 1 ≤ (at' l (v : Int)).2
          rw [hk]; dsimp only; omega
        · show (at' l (lnk (row g v) i).1).2 = wI .i64 ((at' l (v : Int)).2 - 1)
          rw [he, hq, hk]
          dsimp only
          rw [wr (by omega) (by omega)]
          omega
  · obtain ⟨a, ha, hl, d, hD, hall⟩ := h
    have hal := ha.1
    have hpos := conn_pos hg hC (s := a) (by omega) hD
    refine ⟨fun i hi => ?_, ?_⟩
    · obtain ⟨u, hu, he⟩ := lnk_node hg hv hi
      show (at' l (lnk (row g v) i).1).1 = (at' l (v : Int)).1
      rw [he, hall u hu, hall v hv]
    · by_cases hx : at' st (v : Int) = 1
      · rw [if_pos hx]
        have hva : v = a := ha.2.2 v (by omega) hx
        subst hva
        show (at' l (v : Int)).1 = _ ∧ (at' l (v : Int)).2 = 0
        rw [hall v hv]
        exact ⟨rfl, (hD.zero v hv).2 rfl⟩
      · rw [if_neg hx]
        have hva : v ≠ a := fun h => hx (by rw [h]; exact ha.2.1)
        have h0 := hpos v hv
        have hne : D d v ≠ 0 := fun h => hva ((hD.zero v hv).1 h)
        obtain ⟨u, hu, ⟨i, hi, he⟩, hd⟩ := hD.near v hv (by omega)
        have hlt := hD.lt hv
        refine ⟨i, hi, ?_, ?_⟩
        · show 1 ≤ (at' l (v : Int)).2
          rw [hall v hv]; dsimp only; omega
        · show (at' l (lnk (row g v) i).1).2 = wI .i64 ((at' l (v : Int)).2 - 1)
          rw [he, hall u hu, hall v hv]
          dsimp only
          rw [wr (by omega) (by omega)]
          omega
  · obtain ⟨d, hD, hS, hl, hall⟩ := h
    refine ⟨?_, fun i hi => ?_⟩
    · show (at' l (v : Int)).1 = 0 ∨ (at' l (v : Int)).1 = 1
      rw [hall v hv]; dsimp only; omega
    · obtain ⟨u, hu, he⟩ := lnk_node hg hv hi
      have := hS v hv i hi
      show (at' l (lnk (row g v) i).1).1 = 1 - (at' l (v : Int)).1
      rw [he] at this ⊢
      rw [hall u hu, hall v hv]
      have q : at' d (u : Int) = D d u := rfl
      dsimp only
      omega
  · obtain ⟨hM, xs, hgr, hl, hall⟩ := h
    have hP := prt_of hV hF.fit
    obtain ⟨hc, htot⟩ := gr_ok hV hP _ xs (Nat.le_refl _) hgr
    have hclo : ∀ v : Nat, v < g.2.length → Clo g (ptns g st) xs v := fun v hv => hc.inv.clo v hv (fun h => h) (htot v hv)
    have hcv := hclo v hv
    refine ⟨?_, fun i hi => ?_, ?_⟩
    · show (at' l (v : Int)).1 = 0 ∨ (at' l (v : Int)).1 = 1
      rw [hall v hv]; exact hcv.two
    · obtain ⟨u, hu, he⟩ := lnk_node hg hv hi
      show (at' l (v : Int)).1 = 1 ∨ (at' l (lnk (row g v) i).1).1 = 1
      rw [he, hall u hu, hall v hv]
      rcases hcv.two with h0 | h0
      · refine .inr ?_
        have := hcv.nb h0 (lnk (row g v) i) (mem_of_at hi)
        rw [he] at this; exact this
      · exact .inl h0
    · have hft := hF.fit v hv
      rw [FitAt, if_pos (.inr rfl)] at hft
      unfold val4
      by_cases hx : at' st (v : Int) < 0
      · rw [if_pos hx, decide_eq_true_eq, hall v hv]
        refine hcv.no ?_
        rw [ptns_at hv]; unfold ptn; rw [if_neg (by omega)]; decide
      · rw [if_neg hx]
        obtain ⟨i, hi⟩ : ∃ i : Nat, (i : Int) = at' st (v : Int) := ⟨(at' st (v : Int)).toNat, by omega⟩
        have hid : i < (row g v).length := by omega
        obtain ⟨u, hu, he⟩ := lnk_node hg hv hid
        have hpv : ptn g st v = (u : Int) := by rw [ptn_port hi, he]
        have hpu : ptn g st u = (v : Int) := by
          have := hM v hv (by omega)
          rw [hpv] at this; exact this
        have hfu := hF.fit u hu
        rw [FitAt, if_pos (.inr rfl)] at hfu
        have hsu : 0 ≤ at' st (u : Int) := by
          apply Classical.byContradiction
          intro hc
          unfold ptn at hpu
          rw [if_neg hc] at hpu
          omega
        obtain ⟨j, hj⟩ : ∃ j : Nat, (j : Int) = at' st (u : Int) := ⟨(at' st (u : Int)).toNat, by omega⟩
        have hjd : j < (row g u).length := by omega
        have hju : (lnk (row g u) j).1 = (v : Int) := by rw [← ptn_port hj]; exact hpu
        have hpo : portOf (row g u) (v : Int) = (j : Int) := portOf_some j hjd hju fun k hk => by
          have := ((hg.node u hu).links j hjd).2.2.2 k hk
          rw [hju] at this; exact this
        have e : (at' (at' g.2 (v : Int)) (at' st (v : Int))).1 = (u : Int) := by rw [← hi]; exact he
        rw [e]
        have hpt := hcv.pt (by rw [ptns_at hv, hpv]; omega)
        rw [ptns_at hv, hpv] at hpt
        have h2 := hcv.two
        dsimp only
        rw [hall v hv, hall u hu, decide_eq_true (show at' st (u : Int) = portOf (at' g.2 (u : Int)) (v : Int) by rw [← hj]; exact hpo.symm)]
        dsimp only
        rcases h2 with h2 | h2
        · rw [decide_eq_true h2]; rfl
        · rw [decide_eq_true h2, decide_eq_true (show at' xs (u : Int) = 0 by omega)]
          simp

/-! ## the converse -/
theorem adj_same (hA : ∀ v, v < g.2.length → ∀ i, i < (row g v).length → SameAt g l v i) (hV : VG g) {s : Nat} : ∀ {k v : Nat}, Walk g s k v → (at' l (v : Int)).1 = (at' l (s : Int)).1
  | 0, v, h => by obtain ⟨rfl, _⟩ := h; rfl
  | k + 1, v, h => by
    obtain ⟨u, h1, i, hi, he⟩ := h
    have hu := Walk.lt hV h1
    have := hA u hu i hi
    change (at' l (lnk (row g u) i).1).1 = (at' l (u : Int)).1 at this
    rw [he] at this
    rw [this]; exact adj_same hA hV h1

theorem id_inj (hV : VG g) {u v : Nat} (hu : u < g.2.length) (hv : v < g.2.length) (h : at' g.1 (u : Int) = at' g.1 (v : Int)) : u = v := by
  rcases Nat.lt_trichotomy u v with h2 | h2 | h2
  · exact absurd h ((hV.node v hv).ids u h2)
  · exact h2
  · exact absurd h.symm ((hV.node u hu).ids v h2)

theorem sound12 (hV : VG g) (hC : Conn g) (x : Int) (mk : Nat → Prop) (hmk : ∀ v, v < g.2.length → (mk v ↔ at' st (v : Int) = x)) (hst : st.length = g.2.length)
    (hA : ∀ v, v < g.2.length → ∀ i, i < (row g v).length → SameAt g l v i) (hroot : ∀ v, v < g.2.length → mk v → (lab l v).1 = at' g.1 (v : Int))
    (hdown : ∀ v, v < g.2.length → ¬ mk v → ∃ u, u < g.2.length ∧ 1 ≤ (lab l v).2 ∧ (lab l u).2 = (lab l v).2 - 1) (hzero : ∀ v, v < g.2.length → mk v → (lab l v).2 = 0) : ∃ a, OnlyAt st x a := by
  have h1 := hV.n1
  have down : ∀ (m v : Nat), v < g.2.length → (lab l v).2 ≤ (m : Int) → ∃ a, a < g.2.length ∧ mk a := by
    intro m
    induction m with
    | zero =>
      intro v hv hm
      by_cases h : mk v
      · exact ⟨v, hv, h⟩
      · obtain ⟨u, _, h2, _⟩ := hdown v hv h; omega
    | succ m ih =>
      intro v hv hm
      by_cases h : mk v
      · exact ⟨v, hv, h⟩
      · obtain ⟨u, hu, h2, h3⟩ := hdown v hv h
        exact ih u hu (by omega)
  obtain ⟨a, ha, hma⟩ := down (lab l 0).2.toNat 0 (by omega) (by omega)
  refine ⟨a, by omega, (hmk a ha).1 hma, fun b hb hbx => ?_⟩
  have hb' : b < g.2.length := by omega
  have hmb := (hmk b hb').2 hbx
  obtain ⟨k, hw⟩ := hC a b ha hb'
  have := adj_same hA hV hw
  refine id_inj hV hb' ha ?_
  rw [← hroot b hb' hmb, ← hroot a ha hma]; exact this

theorem sound (hV : VM g.1 g.2) (hC : Conn g) {kind : Int} (hF : Fit kind g st) (hl : l.length = g.2.length) (hbd : ∀ v : Nat, v < g.2.length → (at' l (v : Int)).2 ≤ 1000000) (h : AllAcc kind g st l) : HoldsP kind g st := by
  have hk := hF.k14
  have hg : VG g := hV.vg
  have h1 := hV.n1
  have h24 := hV.n24
  have hst := hF.len
  obtain rfl | rfl | rfl | rfl : kind = 1 ∨ kind = 2 ∨ kind = 3 ∨ kind = 4 := by omega
  · have hA : ∀ v, v < g.2.length → (∀ i, i < (row g v).length → SameAt g l v i) ∧ _ := h
    have hft : ∀ v : Nat, v < g.2.length → -1 ≤ at' st (v : Int) ∧ at' st (v : Int) < ((row g v).length : Int) := fun v hv => by
      have := hF.fit v hv
      rw [FitAt, if_pos (.inl rfl)] at this; exact this
    have hdown : ∀ v, v < g.2.length → ¬ at' st (v : Int) < 0 → ∃ u : Nat, u < g.2.length ∧ ptn g st v = (u : Int) ∧ 1 ≤ (lab l v).2 ∧ (lab l u).2 = (lab l v).2 - 1 := by
      intro v hv hx
      have := (hA v hv).2
      rw [if_neg hx] at this
      obtain ⟨i, hi, hie, hy, hn⟩ := this
      obtain ⟨u, hu, he⟩ := lnk_node hg hv hi
      refine ⟨u, hu, by rw [ptn_port hie, he], hy, ?_⟩
      change (at' l (lnk (row g v) i).1).2 = wI .i64 ((at' l (v : Int)).2 - 1) at hn
      have hb := hbd v hv
      change 1 ≤ (at' l (v : Int)).2 at hy
      rw [he, wr (by omega) (by omega)] at hn
      exact hn
    have hroot : ∀ v, v < g.2.length → at' st (v : Int) < 0 → (lab l v).1 = at' g.1 (v : Int) ∧ (lab l v).2 = 0 := by
      intro v hv hx
      have := (hA v hv).2
      rw [if_pos hx] at this
      exact this
    obtain ⟨r, hr⟩ := sound12 (l := l) hg hC (-1) (fun v => at' st (v : Int) < 0) (fun v hv => by have := hft v hv; omega) hst (fun v hv => (hA v hv).1) (fun v hv hm => (hroot v hv hm).1) (fun v hv hm => by
      obtain ⟨u, hu, _, h2, h3⟩ := hdown v hv hm; exact ⟨u, hu, h2, h3⟩) (fun v hv hm => (hroot v hv hm).2)
    refine ⟨r, hr, ?_⟩
    have down : ∀ (m v : Nat), v < g.2.length → (lab l v).2 ≤ (m : Int) → ∃ k, go g st k v = r := by
      intro m
      induction m with
      | zero =>
        intro v hv hm
        by_cases hx : at' st (v : Int) < 0
        · exact ⟨0, hr.2.2 v (by omega) (by have := hft v hv; omega)⟩
        · obtain ⟨u, _, _, h2, _⟩ := hdown v hv hx; omega
      | succ m ih =>
        intro v hv hm
        by_cases hx : at' st (v : Int) < 0
        · exact ⟨0, hr.2.2 v (by omega) (by have := hft v hv; omega)⟩
        · obtain ⟨u, hu, hp, h2, h3⟩ := hdown v hv hx
          obtain ⟨k, hk⟩ := ih u hu (by omega)
          refine ⟨k + 1, ?_⟩
          show go g st k (ptn g st v).toNat = r
          rw [hp]; exact hk
    exact fun v hv => down (lab l v).2.toNat v hv (by omega)
  · have hA : ∀ v, v < g.2.length → (∀ i, i < (row g v).length → SameAt g l v i) ∧ _ := h
    exact sound12 (l := l) hg hC 1 (fun v => at' st (v : Int) = 1) (fun v hv => Iff.rfl) hst (fun v hv => (hA v hv).1) (fun v hv hm => by
      have := (hA v hv).2
      rw [if_pos hm] at this; exact this.1) (fun v hv hm => by
      have := (hA v hv).2
      rw [if_neg hm] at this
      obtain ⟨i, hi, hy, hn⟩ := this
      obtain ⟨u, hu, he⟩ := lnk_node hg hv hi
      refine ⟨u, hu, hy, ?_⟩
      change (at' l (lnk (row g v) i).1).2 = wI .i64 ((at' l (v : Int)).2 - 1) at hn
      have hb := hbd v hv
      change 1 ≤ (at' l (v : Int)).2 at hy
      rw [he, wr (by omega) (by omega)] at hn
      exact hn) (fun v hv hm => by
      have := (hA v hv).2
      rw [if_pos hm] at this; exact this.2)
  · have hA : ∀ v, v < g.2.length → ((lab l v).1 = 0 ∨ (lab l v).1 = 1) ∧ ∀ i, i < (row g v).length → (nlab g l v i).1 = 1 - (lab l v).1 := h
    intro d hD v hv i hi
    have par : ∀ (k v : Nat), Walk g 0 k v → (at' l (v : Int)).1 = if k % 2 = 0 then (at' l ((0 : Nat) : Int)).1 else 1 - (at' l ((0 : Nat) : Int)).1 := by
      intro k
      induction k with
      | zero => intro v hw; obtain ⟨rfl, _⟩ := hw; rfl
      | succ k ih =>
        intro v hw
        obtain ⟨u, hw1, j, hj, he⟩ := hw
        have hu := Walk.lt hg hw1
        have h2 := (hA u hu).2 j hj
        change (at' l (lnk (row g u) j).1).1 = 1 - (at' l (u : Int)).1 at h2
        rw [he, ih u hw1] at h2
        rw [h2]
        by_cases hk : k % 2 = 0
        · rw [if_pos hk, if_neg (by omega)]
        · rw [if_neg hk, if_pos (by omega)]; omega
    obtain ⟨u, hu, he⟩ := lnk_node hg hv hi
    have hpos := conn_pos hg hC (s := 0) (by omega) hD
    have p1 := par _ v (Dist.pos hg hD hv (hpos v hv))
    have p2 := par _ u (Dist.pos hg hD hu (hpos u hu))
    have h2 := (hA v hv).2 i hi
    change (at' l (lnk (row g v) i).1).1 = 1 - (at' l (v : Int)).1 at h2
    rw [he] at h2 ⊢
    have h01 := (hA v hv).1
    change (at' l (v : Int)).1 = 0 ∨ (at' l (v : Int)).1 = 1 at h01
    have q : at' d (u : Int) = D d u := rfl
    have hp1 := hpos v hv
    have hp2 := hpos u hu
    rw [q]
    intro hc
    have : (D d v).toNat % 2 = (D d u).toNat % 2 := by omega
    rw [this, ← p2] at p1
    omega
  · have hA : ∀ v, v < g.2.length → ((lab l v).1 = 0 ∨ (lab l v).1 = 1) ∧ (∀ i, i < (row g v).length → ((lab l v).1 = 1 ∨ (nlab g l v i).1 = 1)) ∧ val4 g st l v = true := h
    have hft : ∀ v : Nat, v < g.2.length → -1 ≤ at' st (v : Int) ∧ at' st (v : Int) < ((row g v).length : Int) := fun v hv => by
      have := hF.fit v hv
      rw [FitAt, if_pos (.inr rfl)] at this; exact this
    have hP := prt_of hV hF.fit
    -- the partner
    have part : ∀ v, v < g.2.length → 0 ≤ ptn g st v → ∃ u i : Nat, u < g.2.length ∧ i < (row g v).length ∧ (lnk (row g v) i).1 = (u : Int) ∧ ptn g st v = (u : Int) ∧ ptn g st u = (v : Int) ∧ ((at' l (v : Int)).1 = 0 ∨ (at' l (u : Int)).1 = 0) := by
      intro v hv h0
      have hx : ¬ at' st (v : Int) < 0 := fun hc => by unfold ptn at h0; rw [if_neg (by omega)] at h0; omega
      have hf := hft v hv
      obtain ⟨i, hi⟩ : ∃ i : Nat, (i : Int) = at' st (v : Int) := ⟨(at' st (v : Int)).toNat, by omega⟩
      have hid : i < (row g v).length := by omega
      obtain ⟨u, hu, he, hadj⟩ := hg.port hv hid
      have hv4 := (hA v hv).2.2
      unfold val4 at hv4
      have e : (at' (at' g.2 (v : Int)) (at' st (v : Int))).1 = (u : Int) := by rw [← hi]; exact he
      rw [if_neg hx, e] at hv4
      simp only [Bool.and_eq_true, Bool.or_eq_true, decide_eq_true_eq] at hv4
      obtain ⟨a1, a2⟩ := hv4
      obtain ⟨j, hj, hjv⟩ := hg.back hv hadj
      have hpo : portOf (row g u) (v : Int) = (j : Int) := portOf_some j hj hjv fun k hk => by
        have := ((hg.node u hu).links j hj).2.2.2 k hk
        rw [hjv] at this; exact this
      have a1' : at' st (u : Int) = (j : Int) := a1.trans hpo
      refine ⟨u, i, hu, hid, he, by rw [ptn_port hi, he], by rw [ptn_port a1'.symm, hjv], ?_⟩
      rcases a2 with a2 | a2
      · exact .inl a2
      · exact .inr a2.2
    have hM : Mut g st := fun v hv h0 => by
      obtain ⟨u, i, hu, _, _, h2, h3, _⟩ := part v hv h0
      rw [h2]; exact h3
    let T : List Int := (List.range g.2.length).map fun v : Nat => (at' l (v : Int)).1
    have hT : ∀ v : Nat, v < g.2.length → at' T (v : Int) = (at' l (v : Int)).1 := fun v hv => at_map _ hv
    have hTc : Closed0 g (ptns g st) T := by
      have hz : ∀ v : Nat, v < g.2.length → at' (ptns g st) (v : Int) < 0 → at' T (v : Int) = 0 := by
        intro v hv hp
        rw [ptns_at hv] at hp
        have hv4 := (hA v hv).2.2
        unfold val4 at hv4
        have hx : at' st (v : Int) < 0 := by
          apply Classical.byContradiction
          intro hc
          have hf := hft v hv
          obtain ⟨i, hi⟩ : ∃ i : Nat, (i : Int) = at' st (v : Int) := ⟨(at' st (v : Int)).toNat, by omega⟩
          obtain ⟨u, hu, he⟩ := lnk_node hg hv (i := i) (by omega)
          rw [ptn_port hi, he] at hp
          omega
        rw [if_pos hx, decide_eq_true_eq] at hv4
        rw [hT v hv]; exact hv4
      refine ⟨⟨by simp [T], fun v hv => ?_, fun v hv _ _ => ⟨?_, hz v hv, fun hp => ?_, fun h0 x hx => ?_⟩⟩, hz⟩
      · rw [hT v hv]; exact .inr (hA v hv).1
      · rw [hT v hv]; exact (hA v hv).1
      · rw [ptns_at hv] at hp ⊢
        obtain ⟨u, i, hu, hi, he, h2, h3, h4⟩ := part v hv hp
        rw [h2, hT u hu, hT v hv]
        have a1 := (hA v hv).1
        have a2 := (hA u hu).1
        change (at' l (v : Int)).1 = 0 ∨ (at' l (v : Int)).1 = 1 at a1
        change (at' l (u : Int)).1 = 0 ∨ (at' l (u : Int)).1 = 1 at a2
        have a3 := (hA v hv).2.1 i hi
        change (at' l (v : Int)).1 = 1 ∨ (at' l (lnk (row g v) i).1).1 = 1 at a3
        rw [he] at a3
        omega
      · rw [hT v hv] at h0
        obtain ⟨i, hi, he⟩ := at_of_mem hx
        obtain ⟨u, hu, heu⟩ := lnk_node hg hv (i := i) hi
        have a3 := (hA v hv).2.1 i hi
        change (at' l (v : Int)).1 = 1 ∨ (at' l (lnk (row g v) i).1).1 = 1 at a3
        have : x.1 = (u : Int) := by rw [← he]; exact heu
        rw [heu] at a3
        rw [this, hT u hu]
        omega
    -- values that go on
    have merge : ∀ b T' : List Int, Closed0 g (ptns g st) b → Closed0 g (ptns g st) T' → (∀ v : Nat, v < g.2.length → at' T' (v : Int) ≠ -1) → ∃ U, Closed0 g (ptns g st) U ∧ Ext2 g b U ∧ ∀ v : Nat, v < g.2.length → at' U (v : Int) ≠ -1 := by
      intro b T' hb hT' htot
      let U : List Int := (List.range g.2.length).map fun v : Nat => if at' b (v : Int) ≠ -1 then at' b (v : Int) else at' T' (v : Int)
      have hU : ∀ v : Nat, v < g.2.length → at' U (v : Int) = if at' b (v : Int) ≠ -1 then at' b (v : Int) else at' T' (v : Int) := fun v hv => at_map _ hv
      have htU : ∀ v : Nat, v < g.2.length → at' U (v : Int) ≠ -1 := fun v hv => by
        rw [hU v hv]; split
        · assumption
        · exact htot v hv
      have hz : ∀ v : Nat, v < g.2.length → at' (ptns g st) (v : Int) < 0 → at' U (v : Int) = 0 := fun v hv hp => by
        have := hb.zero v hv hp
        rw [hU v hv, if_pos (by omega), this]
      refine ⟨U, ⟨⟨by simp [U], fun v hv => ?_, fun v hv _ _ => ?_⟩, hz⟩, fun v hv hne => by rw [hU v hv, if_pos hne], htU⟩
      · rw [hU v hv]; split
        · exact hb.inv.val v hv
        · exact hT'.inv.val v hv
      · by_cases hbv : at' b (v : Int) ≠ -1
        · have hc := hb.inv.clo v hv (fun h => h) hbv
          have e : at' U (v : Int) = at' b (v : Int) := by rw [hU v hv, if_pos hbv]
          refine ⟨by rw [e]; exact hc.two, hz v hv, fun hp => ?_, fun h0 x hx => ?_⟩
          · have h2 := hc.pt hp
            have h3 := hP.rng v hv
            have h4 := hc.two
            obtain ⟨q, hq⟩ : ∃ q : Nat, at' (ptns g st) (v : Int) = q := ⟨(at' (ptns g st) (v : Int)).toNat, by omega⟩
            rw [hq] at h2 h3 ⊢
            rw [e, hU q (by omega), if_pos (by omega), h2]
          · rw [e] at h0
            have h2 := hc.nb h0 x hx
            have h3 := (hV.lk v hv x hx).1
            obtain ⟨q, hq⟩ : ∃ q : Nat, x.1 = q := ⟨x.1.toNat, by omega⟩
            rw [hq] at h2 h3 ⊢
            rw [hU q (by omega), if_pos (by omega), h2]
        · have hc := hT'.inv.clo v hv (fun h => h) (htot v hv)
          have e : at' U (v : Int) = at' T' (v : Int) := by rw [hU v hv, if_neg hbv]
          refine ⟨by rw [e]; exact hc.two, hz v hv, fun hp => ?_, fun h0 x hx => ?_⟩
          · have h2 := hc.pt hp
            have h3 := hP.rng v hv
            have hp' := hp
            rw [ptns_at hv] at hp'
            have hmu := hM v hv hp'
            rw [← ptns_at hv] at hmu
            obtain ⟨q, hq⟩ : ∃ q : Nat, at' (ptns g st) (v : Int) = q := ⟨(at' (ptns g st) (v : Int)).toNat, by omega⟩
            rw [hq] at h2 h3 hmu ⊢
            have hmu' : ptn g st q = (v : Int) := hmu
            have hbq : ¬ at' b (q : Int) ≠ -1 := fun hne => by
              have hcq := hb.inv.clo q (by omega) (fun h => h) hne
              have h5 := hcq.pt (by rw [ptns_at (by omega), hmu']; omega)
              rw [ptns_at (by omega), hmu'] at h5
              have := hcq.two
              omega
            rw [e, hU q (by omega), if_neg hbq, h2]
          · rw [e] at h0
            have h2 := hc.nb h0 x hx
            obtain ⟨h3, _, _, h4⟩ := hV.lk v hv x hx
            obtain ⟨q, hq⟩ : ∃ q : Nat, x.1 = q := ⟨x.1.toNat, by omega⟩
            rw [hq] at h2 h3 h4 ⊢
            rw [hU q (by omega)]
            by_cases hbq : at' b (q : Int) ≠ -1
            · rw [if_pos hbq]
              have hcq := hb.inv.clo q (by omega) (fun h => h) hbq
              rcases hcq.two with h5 | h5
              · have := hcq.nb h5 _ h4
                dsimp only at this
                omega
              · exact h5
            · rw [if_neg hbq]; exact h2
    have hTt : ∀ v : Nat, v < g.2.length → at' T (v : Int) ≠ -1 := fun v hv => by
      rw [hT v hv]
      have := (hA v hv).1
      change (at' l (v : Int)).1 = 0 ∨ (at' l (v : Int)).1 = 1 at this
      omega
    have key : ∀ k, k ≤ g.2.length → ∃ zs, gr g (ptns g st) k = some zs ∧ ∃ U, Closed0 g (ptns g st) U ∧ Ext2 g zs U ∧ ∀ v : Nat, v < g.2.length → at' U (v : Int) ≠ -1 := by
      intro k
      induction k with
      | zero =>
        intro _
        have hx : Ext2 g (List.replicate g.2.length (-1)) T := fun v hv hne => absurd (at_replicate _ _ hv) hne
        cases h0 : LCE g (ptns g st) (List.replicate g.2.length (-1)) with
        | none => exact absurd ⟨T, hTc, hx⟩ (LCE_no hV hP h0)
        | some b => exact ⟨b, h0, T, hTc, (LCE_spec h0).min T hTc hx, hTt⟩
      | succ k ih =>
        intro hk
        obtain ⟨zs, hz, U, hU, hE, ht⟩ := ih (by omega)
        obtain ⟨c1, _⟩ := gr_ok hV hP k zs (by omega) hz
        have hzl := c1.inv.len
        have e : gr g (ptns g st) (k + 1) = gstep g (ptns g st) k zs := by
          show (gr g (ptns g st) k).bind _ = _
          rw [hz]; rfl
        rw [e]
        unfold gstep
        by_cases hun : at' zs (k : Int) = -1
        · rw [if_pos hun]
          have ext : ∀ val : Int, at' U (k : Int) = val → Ext2 g (zs.set k val) U := fun val hval v hv hne => by
            rw [at_set1 _ _ _ (by omega)] at hne ⊢
            by_cases hvk : v = k
            · subst hvk; rw [if_pos rfl]; exact hval
            · rw [if_neg hvk] at hne ⊢; exact hE v hv hne
          cases h0 : LCE g (ptns g st) (zs.set k 0) with
          | some b =>
            obtain ⟨U', u1, u2, u3⟩ := merge b U (LCE_spec h0).clo hU ht
            exact ⟨b, rfl, U', u1, u2, u3⟩
          | none =>
            have hno := LCE_no hV hP h0
            have h1 : at' U (k : Int) = 1 := by
              have h2 := hU.inv.val k (by omega)
              have h3 := ht k (by omega)
              have h4 : at' U (k : Int) ≠ 0 := fun hc => hno ⟨U, hU, ext 0 hc⟩
              omega
            cases h5 : LCE g (ptns g st) (zs.set k 1) with
            | none => exact absurd ⟨U, hU, ext 1 h1⟩ (LCE_no hV hP h5)
            | some b => exact ⟨b, rfl, U, hU, (LCE_spec h5).min U hU (ext 1 h1), ht⟩
        · rw [if_neg hun]
          exact ⟨zs, rfl, U, hU, hE, ht⟩
    obtain ⟨zs, hz, _⟩ := key g.2.length (Nat.le_refl _)
    exact ⟨hM, by rw [hz]; simp⟩
end
end Go.Proofs.Ytmajgimhmfeliaa
end
section
set_option linter.unusedVariables false
set_option linter.unusedSimpArgs false
namespace Go.Proofs.Ytmajgimhmfeliaa
open Go.Sx
set_option linter.unusedVariables false
set_option linter.unusedSimpArgs false
def m_labels_Holds (fuel : Nat) (p0 : Int) (p1 : List (Int) × (List (List (Int × Int)))) (p2 : List (Int)) : Option (Bool) :=
  Option.bind (m_labels_Prove fuel p0 ((p1.1, p1.2)) p2) fun r2 => (some (decide (r2.2 = (0 : Int))))

theorem body19 : HasBody Try.prog 19 := Try.call19

set_option maxHeartbeats 4000000 in
set_option maxRecDepth 20000 in
theorem t_labels_Holds (fuel : Nat) {p0 : Int} {p1 : List (Int) × (List (List (Int × Int)))} {p2 : List (Int)} (v0 : Value)  (v1 : Value)  (z2 : List (Value × List (Int × Int)))  (v3 : Value) (r : Bool) (h : m_labels_Holds fuel p0 p1 p2 = some r) :
    Meets Try.prog 19 #[Value.int .i64 (p0), Value.agg #[v0, v1], v3] [Sl RI64 v0 p1.1, S2 RI64I64p v1 z2 p1.2, Sl RI64 v3 p2] (fun x : Unit => Value.bool (r)) (fun x l => l) (fun _ l => l) := by
  refine Meets.of (vs := [Value.int .i64 (p0), Value.agg #[v0, v1], v3]) Try.func19 rfl Try.ntmps19 rfl fun c => ?_
  unfold m_labels_Holds at h
  refine J.seq ?_
  refine J.region ?_
  refine J.loud (Loud.box (cs := [v0, v1]) rfl rfl) rfl fun b1 => ?_
  refine J.quiet (Y.assign rfl) rfl ?_
  refine J.done ?_
  refine J.thenN ?_
  refine J.seq ?_
  refine J.region ?_
  refine J.quiet (Y.move rfl) rfl ?_
  refine J.quiet (Y.loadBAll 0 rfl rfl rfl rfl) rfl ?_
  refine J.quiet (Y.move rfl) rfl ?_
  replace h := bnd h; obtain ⟨r2, hr3, h⟩ := h
  refine J.loud (Loud.callL body12 (t_labels_Prove fuel v0 v1 z2 v3 r2 hr3) rfl (LentAll.cons (Lent.fact 0 rfl) (LentAll.cons (Lent.fact 1 rfl) (LentAll.cons (Lent.fact 2 rfl) (LentAll.nil)))) (fun _ _ => rfl)) rfl fun x4 => ?_
  refine J.quiet (Y.move rfl) rfl ?_
  refine J.quiet (Y.extract rfl rfl) rfl ?_
  refine J.quiet (Y.extract rfl rfl) rfl ?_
  refine J.quiet (Y.assign rfl) rfl ?_
  refine J.quiet (Y.assign rfl) rfl ?_
  refine J.done ?_
  refine J.thenN ?_
  refine J.seq ?_
  refine J.region ?_
  refine J.quiet (Y.move rfl) rfl ?_
  refine J.quiet (Y.eql rfl rfl) rfl ?_
  refine J.quiet (Y.assign rfl) rfl ?_
  refine J.done ?_
  refine J.thenN ?_
  refine J.ret ?_
  obtain rfl := Option.some.inj h
  exact J.retG1 (()) rfl rfl (RV.tmp rfl) (SubM.nil) LentAll.nil

end Go.Proofs.Ytmajgimhmfeliaa
end
section
set_option linter.unusedVariables false
set_option linter.unusedSimpArgs false
namespace Go.Proofs.Ytmajgimhmfeliaa
open Go.Sx
set_option linter.unusedVariables false
theorem conn_of {g : GR} (hV : VM g.1 g.2) (h : ∀ v : Nat, 1 ≤ v → v < g.2.length → ∃ u : Nat, u < v ∧ NextTo g.2 u v) : Conn g := by
  have hg : VG g := hV.vg
  have h1 := hV.n1
  have w0 : ∀ v, v < g.2.length → ∃ k, Walk g 0 k v := by
    intro v
    induction v using Nat.strongRecOn with
    | _ v ih =>
      intro hv
      by_cases h0 : v = 0
      · subst h0; exact ⟨0, rfl, hv⟩
      · obtain ⟨u, hu, x, hx, he⟩ := h v (by omega) hv
        obtain ⟨k, hw⟩ := ih u hu (by omega)
        obtain ⟨i, hi, hie⟩ := at_of_mem hx
        refine ⟨k + 1, u, hw, i, hi, ?_⟩
        show (at' (at' g.2 (u : Int)) (i : Int)).1 = _
        rw [hie, he]
  intro u v hu hv
  obtain ⟨a, ha⟩ := w0 u hu
  obtain ⟨b, hb⟩ := w0 v hv
  exact ⟨a + b, (Walk.rev hg ha).trans hb⟩

theorem fit_of {g : GR} {y0 : Int} {r : Int × List Int × List (Int × Int)} (h : Shaped g y0 r) : Fit r.1 g r.2.1 := ⟨h.kind, h.st, h.fit⟩

theorem holds_spec {g : GR} (hV : VM g.1 g.2) (hC : Conn g) {kind : Int} {st : List Int} (hF : Fit kind g st) : ∃ b, m_labels_Holds 2000 kind g st = some b ∧ (b = true ↔ HoldsP kind g st) := by
  obtain ⟨⟨l, e⟩, hp, hq⟩ := prove_spec hV hC hF
  refine ⟨decide (e = 0), ?_, ?_⟩
  · unfold m_labels_Holds
    rw [bindS hp]
  · rw [decide_eq_true_eq]
    rcases hq with ⟨h1, h2, _⟩ | ⟨h1, h2⟩
    · exact ⟨fun _ => h2, fun _ => h1⟩
    · cases h1
      exact ⟨fun h => (by cases h), fun h => absurd h h2⟩

end Go.Proofs.Ytmajgimhmfeliaa
end
section
set_option linter.unusedVariables false
set_option linter.unusedSimpArgs false
namespace Go.Proofs.Ytmajgimhmfeliaa
open Go.Sx
set_option linter.unusedVariables false
set_option linter.unusedSimpArgs false
def law39_LabelsWhole_k3  (a19 : Bool) : Option (Bool) :=
  some (a19)
def law39_LabelsWhole_k2 (fuel : Nat) (r3 : (List (Int) × (List (List (Int × Int))))) (r9 : Int × List (Int) × (List (Int × Int))) (a16 : Bool) : Option (Bool) :=
  Option.bind (m_law39_known fuel ) fun r21 => (if r21 = true then (Option.bind (m_labels_Holds fuel r9.1 ((r3.1, r3.2)) r9.2.1) fun r25 => (law39_LabelsWhole_k3  ((a16 == r25)))) else (law39_LabelsWhole_k3  (false)))
def law39_LabelsWhole_k4 (a31 : Bool × Int) (ag30 : (Bool × Int) → Option (Bool)) (a36 : Bool) : Option (Bool) :=
  ag30 (a36, (wI .i64 (a31.2 + (1 : Int))))
def law39_LabelsWhole_k5 (fuel : Nat) (r3 : (List (Int) × (List (List (Int × Int))))) (r9 : Int × List (Int) × (List (Int × Int))) (a31 : Bool × Int) (ag30 : (Bool × Int) → Option (Bool)) (a40 : (List (Int × Int))) : Option (Bool) :=
  if a31.1 = true then (law39_LabelsWhole_k4 a31 ag30 (true)) else (Option.bind (m_labels_Rejecting fuel r9.1 ((r3.1, r3.2)) r9.2.1 a40) fun r43 => (law39_LabelsWhole_k4 a31 ag30 (decide (r43 = (0 : Int)))))
def law39_LabelsWhole_k6 (r3 : (List (Int) × (List (List (Int × Int))))) (a51 : (List (Int × Int)) × Int × Int) (ag50 : ((List (Int × Int)) × Int × Int) → Option (Bool)) (a60 : Int) : Option (Bool) :=
  ck ((List.length r3.2 : Int) ≠ 0) (ck ((List.length a51.1 : Int) + (List.length ([ (a60, (wI .i64 (Int.tdiv (Int.tmod a51.2.1 (wI .i64 ((List.length r3.2 : Int) * (4 : Int)))) (List.length r3.2 : Int))))]) : Int) ≤ 1099511627) (ag50 ((a51.1 ++ ([ (a60, (wI .i64 (Int.tdiv (Int.tmod a51.2.1 (wI .i64 ((List.length r3.2 : Int) * (4 : Int)))) (List.length r3.2 : Int))))])), (wI .i64 (Int.tdiv a51.2.1 (wI .i64 ((List.length r3.2 : Int) * (4 : Int))))), (wI .i64 (a51.2.2 + (1 : Int))))))
def law39_LabelsWhole_k7 (r3 : (List (Int) × (List (List (Int × Int))))) (a51 : (List (Int × Int)) × Int × Int) (ag50 : ((List (Int × Int)) × Int × Int) → Option (Bool)) (a67 : Bool) : Option (Bool) :=
  if a67 = true then (ck ((List.length r3.2 : Int) ≠ 0) (law39_LabelsWhole_k6 r3 a51 ag50 (Int.tmod (Int.tmod a51.2.1 (wI .i64 ((List.length r3.2 : Int) * (4 : Int)))) (List.length r3.2 : Int)))) else (law39_LabelsWhole_k6 r3 a51 ag50 (at' r3.1 (Int.tmod (Int.tmod a51.2.1 (wI .i64 ((List.length r3.2 : Int) * (4 : Int)))) (List.length r3.2 : Int))))
def law39_LabelsWhole_s2 (fuel : Nat) (r3 : (List (Int) × (List (List (Int × Int))))) (r9 : Int × List (Int) × (List (Int × Int))) (a31 : Bool × Int) (ag30 : (Bool × Int) → Option (Bool)) (a51 : (List (Int × Int)) × Int × Int) (ag50 : ((List (Int × Int)) × Int × Int) → Option (Bool)) : Option (Bool) :=
  if a51.2.2 < (List.length r3.2 : Int) then (ck ((wI .i64 ((List.length r3.2 : Int) * (4 : Int))) ≠ 0) (ck ((wI .i64 ((List.length r3.2 : Int) * (4 : Int))) ≠ 0) (ck ((List.length r3.2 : Int) ≠ 0) (ck (0 ≤ (Int.tmod (Int.tmod a51.2.1 (wI .i64 ((List.length r3.2 : Int) * (4 : Int)))) (List.length r3.2 : Int)) ∧ (Int.tmod (Int.tmod a51.2.1 (wI .i64 ((List.length r3.2 : Int) * (4 : Int)))) (List.length r3.2 : Int)) < (List.length r3.1 : Int)) (if r9.1 = (3 : Int) then (law39_LabelsWhole_k7 r3 a51 ag50 (true)) else (law39_LabelsWhole_k7 r3 a51 ag50 (decide (r9.1 = (4 : Int))))))))) else (law39_LabelsWhole_k5 fuel r3 r9 a31 ag30 (a51.1))
def law39_LabelsWhole_s1 (fuel : Nat) (r3 : (List (Int) × (List (List (Int × Int))))) (r9 : Int × List (Int) × (List (Int × Int))) (a13 : Int) (a31 : Bool × Int) (ag30 : (Bool × Int) → Option (Bool)) : Option (Bool) :=
  if a31.2 < a13 then (iter (law39_LabelsWhole_s2 fuel r3 r9 a31 ag30) fuel (([] : List (Int × Int)), a31.2, (0 : Int))) else (law39_LabelsWhole_k2 fuel r3 r9 (a31.1))
def law39_LabelsWhole_k1 (fuel : Nat) (r3 : (List (Int) × (List (List (Int × Int))))) (r9 : Int × List (Int) × (List (Int × Int))) (a13 : Int) : Option (Bool) :=
  iter (law39_LabelsWhole_s1 fuel r3 r9 a13) fuel (false, (0 : Int))
def law39_LabelsWhole_s3 (fuel : Nat) (r3 : (List (Int) × (List (List (Int × Int))))) (r9 : Int × List (Int) × (List (Int × Int))) (a75 : Int × Int) (ag74 : (Int × Int) → Option (Bool)) : Option (Bool) :=
  if a75.2 < (List.length r3.2 : Int) then (ag74 ((wI .i64 ((wI .i64 (a75.1 * (List.length r3.2 : Int))) * (4 : Int))), (wI .i64 (a75.2 + (1 : Int))))) else (law39_LabelsWhole_k1 fuel r3 r9 (a75.1))
def m_law39_LabelsWhole (fuel : Nat) (p0 : Int × List (Int) × List (Int) × List (Int) × Bool × Bool) (p1 : Int × List (Int) × List (Int)) : Option (Bool) :=
  Option.bind (m__world_Net__Connected fuel ((p0.1, p0.2.1, p0.2.2.1, p0.2.2.2.1, p0.2.2.2.2.1, p0.2.2.2.2.2)) (3 : Int)) fun r3 => (Option.bind (m__law39_Claimed__shape fuel ((p1.1, p1.2.1, p1.2.2)) ((r3.1, r3.2))) fun r9 => (iter (law39_LabelsWhole_s3 fuel r3 r9) fuel ((1 : Int), (0 : Int))))

set_option maxHeartbeats 4000000 in
set_option maxRecDepth 20000 in
theorem t_law39_LabelsWhole (fuel : Nat) {p0 : Int × List (Int) × List (Int) × List (Int) × Bool × Bool} {p1 : Int × List (Int) × List (Int)} (v0 : Value)  (v1 : Value)  (v2 : Value)  (v3 : Value)  (v4 : Value) (r : Bool) (h : m_law39_LabelsWhole fuel p0 p1 = some r) :
    Meets Try.prog 9 #[Value.agg #[Value.int .i64 (p0.1), v0, v1, v2, Value.bool (p0.2.2.2.2.1), Value.bool (p0.2.2.2.2.2)], Value.agg #[Value.int .i64 (p1.1), v3, v4]] [Sl RI64 v0 p0.2.1, Sl RI64 v1 p0.2.2.1, Sl RI64 v2 p0.2.2.2.1, Sl RI64 v3 p1.2.1, Sl RI64 v4 p1.2.2] (fun x : Unit => Value.bool (r)) (fun x l => l) (fun _ l => l) := by
  refine Meets.of (vs := [Value.agg #[Value.int .i64 (p0.1), v0, v1, v2, Value.bool (p0.2.2.2.2.1), Value.bool (p0.2.2.2.2.2)], Value.agg #[Value.int .i64 (p1.1), v3, v4]]) Try.func9 rfl Try.ntmps9 rfl fun c => ?_
  unfold m_law39_LabelsWhole at h
  refine J.seq ?_
  refine J.region ?_
  refine J.loud (Loud.box (cs := [Value.int .i64 (p0.1), v0, v1, v2, Value.bool (p0.2.2.2.2.1), Value.bool (p0.2.2.2.2.2)]) rfl rfl) rfl fun b1 => ?_
  refine J.loud (Loud.box (cs := [Value.int .i64 (p1.1), v3, v4]) rfl rfl) rfl fun b2 => ?_
  refine J.quiet (Y.assign rfl) rfl ?_
  refine J.done ?_
  refine J.thenN ?_
  refine J.seq ?_
  refine J.region ?_
  refine J.quiet (Y.loadBAll 1 rfl rfl rfl rfl) rfl ?_
  replace h := bnd h; obtain ⟨r3, hr4, h⟩ := h
  refine J.loud (Loud.callL body10 (t__world_Net__Connected fuel v0 v1 v2 r3 hr4) rfl (LentAll.cons (Lent.fact 0 rfl) (LentAll.cons (Lent.fact 1 rfl) (LentAll.cons (Lent.fact 2 rfl) (LentAll.nil)))) (fun _ _ => rfl)) rfl fun x5 => ?_
  refine J.loud (Loud.alloc (cs := [Value.slice none 0 0, Value.slice none 0 0]) rfl rfl) rfl fun b6 => ?_
  refine J.know (Know.one ((Lent.ar (Lent.res 1 rfl) FI64))) fun ho7 => ?_
  refine J.know (Know.one (Lent.sl (Lent.rows (i := 2) (j := 3) rfl rfl FI64I64p))) fun ho8 => ?_
  refine J.storeAll 0 (vs := [x5.1, x5.2.1]) rfl rfl (all1 ho7 (all1 ho8 rfl)) rfl rfl rfl ?_
  refine J.done ?_
  refine J.thenN ?_
  refine J.seq ?_
  refine J.region ?_
  refine J.quiet (Y.fieldB rfl rfl rfl rfl rfl) rfl ?_
  refine J.quiet (Y.loadB 0 rfl rfl rfl rfl rfl) rfl ?_
  refine J.quiet (Y.lenN rfl (Lent.rows (i := 2) (j := 3) rfl rfl FI64I64p) rfl) rfl ?_
  refine J.quiet (Y.assign rfl) rfl ?_
  refine J.done ?_
  refine J.thenN ?_
  refine J.seq ?_
  refine J.region ?_
  refine J.quiet (Y.loadBAll 4 rfl rfl rfl rfl) rfl ?_
  refine J.quiet (Y.loadBAll 0 rfl rfl rfl rfl) rfl ?_
  replace h := bnd h; obtain ⟨r9, hr10, h⟩ := h
  refine J.loud (Loud.callL body11 (t__law39_Claimed__shape fuel v3 v4 x5.1 x5.2.1 (List.zip x5.2.2 r3.2) r9 hr10) rfl (LentAll.cons (Lent.fact 3 rfl) (LentAll.cons (Lent.fact 4 rfl) (LentAll.cons (Lent.ar (Lent.res 1 rfl) FI64) (LentAll.cons (Lent.rows (i := 2) (j := 3) rfl rfl FI64I64p) (LentAll.nil))))) (fun _ _ => rfl)) rfl fun x11 => ?_
  refine J.quiet (Y.move rfl) rfl ?_
  refine J.quiet (Y.extract rfl rfl) rfl ?_
  refine J.quiet (Y.extract rfl rfl) rfl ?_
  refine J.quiet (Y.extract rfl rfl) rfl ?_
  refine J.quiet (Y.assign rfl) rfl ?_
  refine J.quiet (Y.assign rfl) rfl ?_
  refine J.quiet (Y.assign rfl) rfl ?_
  refine J.done ?_
  refine J.thenN ?_
  refine J.seq ?_
  refine J.region ?_
  refine J.quiet (Y.assign rfl) rfl ?_
  refine J.done ?_
  refine J.thenN ?_
  refine J.seq ?_
  refine J.region ?_
  refine J.quiet (Y.assign rfl) rfl ?_
  refine J.done ?_
  refine J.thenN ?_
  refine J.seq ?_
  refine J.midI (A := Int) (B := Unit) (fun a13 => law39_LabelsWhole_k1 fuel r3 r9 a13 = some r) (fun a13 b14 => [(5, Value.pointer (some ⟨b6, 0, none⟩)), (6, Value.int .i64 (List.length r3.2 : Int)), (7, Value.int .i64 (r9.1)), (8, x11.1), (10, Value.bool (false)), (11, Value.int .i64 (a13))]) (fun a13 b14 => [Ar EI64 x11.1 r9.2.1, Blk b6 [x5.1, x5.2.1] 29, Ar EI64 x5.1 r3.1, Ar Enc.raw x5.2.1 x5.2.2, Rws EI64I64p x5.2.2 r3.2]) (fun a13 b14 => [Sl RI64 v0 p0.2.1, Sl RI64 v1 p0.2.2.1, Sl RI64 v2 p0.2.2.2.1, Sl RI64 v3 p1.2.1, Sl RI64 v4 p1.2.2]) ?_ ?_
  · refine J.seq ?_
    refine J.region ?_
    refine J.quiet (Y.assign rfl) rfl ?_
    refine J.done ?_
    refine J.thenN ?_
    refine J.block ?_
    refine J.loopI (A := Int × Int) (B := Unit) (law39_LabelsWhole_s3 fuel r3 r9) (fun a75 b76 => [(5, Value.pointer (some ⟨b6, 0, none⟩)), (6, Value.int .i64 (List.length r3.2 : Int)), (7, Value.int .i64 (r9.1)), (8, x11.1), (10, Value.bool (false)), (11, Value.int .i64 (a75.1)), (12, Value.int .i64 (a75.2))]) (fun a75 b76 => [Ar EI64 x11.1 r9.2.1, Blk b6 [x5.1, x5.2.1] 29, Ar EI64 x5.1 r3.1, Ar Enc.raw x5.2.1 x5.2.2, Rws EI64I64p x5.2.2 r3.2]) (fun a75 b76 => [Sl RI64 v0 p0.2.1, Sl RI64 v1 p0.2.2.1, Sl RI64 v2 p0.2.2.2.1, Sl RI64 v3 p1.2.1, Sl RI64 v4 p1.2.2]) ((1 : Int), (0 : Int)) (()) h (by repeat (first | exact SubF.nil | refine SubF.cons rfl ?_)) (SubM.cons 0 rfl (SubM.cons 1 rfl (SubM.cons 1 rfl (SubM.cons 1 rfl (SubM.cons 1 rfl (SubM.nil)))))) (LentAll.refl _ _) ?_
    clear h
    intro k77 a75 b76 h
    unfold law39_LabelsWhole_s3 at h
    refine J.seq ?_
    refine J.seq ?_
    refine J.region ?_
    refine J.quiet (Y.move rfl) rfl ?_
    refine J.quiet (Y.move rfl) rfl ?_
    refine J.quiet (Y.lss rfl rfl) rfl ?_
    refine J.done ?_
    refine J.thenN ?_
    refine J.condD (by exact rfl) (fun hp78 => ?_) (fun hp78 => ?_)
    · replace h := ifP hp78 h
      refine J.skip ?_
      refine J.thenN ?_
      refine J.seq ?_
      refine J.block ?_
      refine J.region ?_
      refine J.quiet (Y.move rfl) rfl ?_
      refine J.quiet (Y.move rfl) rfl ?_
      refine J.quiet (Y.mulW rfl rfl) rfl ?_
      refine J.quiet (Y.mulW rfl rfl) rfl ?_
      refine J.quiet (Y.assign rfl) rfl ?_
      refine J.done ?_
      refine J.inN ?_
      refine J.thenN ?_
      refine J.region ?_
      refine J.quiet (Y.move rfl) rfl ?_
      refine J.quiet (Y.addW rfl rfl) rfl ?_
      refine J.quiet (Y.assign rfl) rfl ?_
      refine J.done ?_
      refine J.thenN ?_
      exact J.againI ((wI .i64 ((wI .i64 (a75.1 * (List.length r3.2 : Int))) * (4 : Int))), (wI .i64 (a75.2 + (1 : Int)))) (()) h (by repeat (first | exact SubF.nil | refine SubF.cons rfl ?_)) (SubM.refl _) (LentAll.refl _ _)
    · replace h := ifN hp78 h
      refine J.exit ?_
      refine J.thenX ?_
      refine J.thenX ?_
      refine J.inX ?_
      refine J.thenN ?_
      exact J.meetI (a75.1) (()) h (by repeat (first | exact SubF.nil | refine SubF.cons rfl ?_)) (SubM.refl _) (LentAll.refl _ _)
  · clear h
    intro a13 b14 h
    unfold law39_LabelsWhole_k1 at h
    refine J.seq ?_
    refine J.midI (A := Bool) (B := Unit) (fun a16 => law39_LabelsWhole_k2 fuel r3 r9 a16 = some r) (fun a16 b17 => [(5, Value.pointer (some ⟨b6, 0, none⟩)), (7, Value.int .i64 (r9.1)), (8, x11.1), (10, Value.bool (a16))]) (fun a16 b17 => [Ar EI64 x11.1 r9.2.1, Blk b6 [x5.1, x5.2.1] 29, Ar EI64 x5.1 r3.1, Ar Enc.raw x5.2.1 x5.2.2, Rws EI64I64p x5.2.2 r3.2]) (fun a16 b17 => [Sl RI64 v0 p0.2.1, Sl RI64 v1 p0.2.2.1, Sl RI64 v2 p0.2.2.2.1, Sl RI64 v3 p1.2.1, Sl RI64 v4 p1.2.2]) ?_ ?_
    · refine J.seq ?_
      refine J.region ?_
      refine J.quiet (Y.assign rfl) rfl ?_
      refine J.done ?_
      refine J.thenN ?_
      refine J.block ?_
      refine J.loopI (A := Bool × Int) (B := Unit) (law39_LabelsWhole_s1 fuel r3 r9 a13) (fun a31 b32 => [(5, Value.pointer (some ⟨b6, 0, none⟩)), (6, Value.int .i64 (List.length r3.2 : Int)), (7, Value.int .i64 (r9.1)), (8, x11.1), (10, Value.bool (a31.1)), (11, Value.int .i64 (a13)), (13, Value.int .i64 (a31.2))]) (fun a31 b32 => [Ar EI64 x11.1 r9.2.1, Blk b6 [x5.1, x5.2.1] 29, Ar EI64 x5.1 r3.1, Ar Enc.raw x5.2.1 x5.2.2, Rws EI64I64p x5.2.2 r3.2]) (fun a31 b32 => [Sl RI64 v0 p0.2.1, Sl RI64 v1 p0.2.2.1, Sl RI64 v2 p0.2.2.2.1, Sl RI64 v3 p1.2.1, Sl RI64 v4 p1.2.2]) (false, (0 : Int)) (()) h (by repeat (first | exact SubF.nil | refine SubF.cons rfl ?_)) (SubM.refl _) (LentAll.refl _ _) ?_
      clear h
      intro k33 a31 b32 h
      unfold law39_LabelsWhole_s1 at h
      refine J.seq ?_
      refine J.seq ?_
      refine J.region ?_
      refine J.quiet (Y.move rfl) rfl ?_
      refine J.quiet (Y.move rfl) rfl ?_
      refine J.quiet (Y.lss rfl rfl) rfl ?_
      refine J.done ?_
      refine J.thenN ?_
      refine J.condD (by exact rfl) (fun hp34 => ?_) (fun hp34 => ?_)
      · replace h := ifP hp34 h
        refine J.skip ?_
        refine J.thenN ?_
        refine J.seq ?_
        refine J.midI (A := Bool) (B := Unit) (fun a36 => law39_LabelsWhole_k4 a31 (iter (law39_LabelsWhole_s1 fuel r3 r9 a13) k33) a36 = some r) (fun a36 b37 => [(5, Value.pointer (some ⟨b6, 0, none⟩)), (6, Value.int .i64 (List.length r3.2 : Int)), (7, Value.int .i64 (r9.1)), (8, x11.1), (10, Value.bool (a36)), (11, Value.int .i64 (a13)), (13, Value.int .i64 (a31.2))]) (fun a36 b37 => [Ar EI64 x11.1 r9.2.1, Blk b6 [x5.1, x5.2.1] 29, Ar EI64 x5.1 r3.1, Ar Enc.raw x5.2.1 x5.2.2, Rws EI64I64p x5.2.2 r3.2]) (fun a36 b37 => [Sl RI64 v0 p0.2.1, Sl RI64 v1 p0.2.2.1, Sl RI64 v2 p0.2.2.2.1, Sl RI64 v3 p1.2.1, Sl RI64 v4 p1.2.2]) ?_ ?_
        · refine J.block ?_
          refine J.seq ?_
          refine J.region ?_
          refine J.quiet (Y.assign rfl) rfl ?_
          refine J.done ?_
          refine J.thenN ?_
          refine J.seq ?_
          refine J.region ?_
          refine J.quiet (Y.move rfl) rfl ?_
          refine J.quiet (Y.assign rfl) rfl ?_
          refine J.done ?_
          refine J.thenN ?_
          refine J.seq ?_
          refine J.midI (A := (List (Int × Int))) (B := Value) (fun a40 => law39_LabelsWhole_k5 fuel r3 r9 a31 (iter (law39_LabelsWhole_s1 fuel r3 r9 a13) k33) a40 = some r) (fun a40 b41 => [(5, Value.pointer (some ⟨b6, 0, none⟩)), (6, Value.int .i64 (List.length r3.2 : Int)), (7, Value.int .i64 (r9.1)), (8, x11.1), (10, Value.bool (a31.1)), (11, Value.int .i64 (a13)), (13, Value.int .i64 (a31.2)), (14, b41)]) (fun a40 b41 => [Ar EI64 x11.1 r9.2.1, Blk b6 [x5.1, x5.2.1] 29, Ar EI64 x5.1 r3.1, Ar Enc.raw x5.2.1 x5.2.2, Rws EI64I64p x5.2.2 r3.2, Ar EI64I64p b41 a40]) (fun a40 b41 => [Sl RI64 v0 p0.2.1, Sl RI64 v1 p0.2.2.1, Sl RI64 v2 p0.2.2.2.1, Sl RI64 v3 p1.2.1, Sl RI64 v4 p1.2.2]) ?_ ?_
          · refine J.seq ?_
            refine J.region ?_
            refine J.quiet (Y.assign rfl) rfl ?_
            refine J.done ?_
            refine J.thenN ?_
            refine J.block ?_
            refine J.stp (Stp.nilAr EI64I64p) ?_
            refine J.loopI (A := (List (Int × Int)) × Int × Int) (B := Value) (law39_LabelsWhole_s2 fuel r3 r9 a31 (iter (law39_LabelsWhole_s1 fuel r3 r9 a13) k33)) (fun a51 b52 => [(5, Value.pointer (some ⟨b6, 0, none⟩)), (6, Value.int .i64 (List.length r3.2 : Int)), (7, Value.int .i64 (r9.1)), (8, x11.1), (10, Value.bool (a31.1)), (11, Value.int .i64 (a13)), (13, Value.int .i64 (a31.2)), (14, b52), (15, Value.int .i64 (a51.2.1)), (16, Value.int .i64 (a51.2.2))]) (fun a51 b52 => [Ar EI64 x11.1 r9.2.1, Blk b6 [x5.1, x5.2.1] 29, Ar EI64 x5.1 r3.1, Ar Enc.raw x5.2.1 x5.2.2, Rws EI64I64p x5.2.2 r3.2, Ar EI64I64p b52 a51.1]) (fun a51 b52 => [Sl RI64 v0 p0.2.1, Sl RI64 v1 p0.2.2.1, Sl RI64 v2 p0.2.2.2.1, Sl RI64 v3 p1.2.1, Sl RI64 v4 p1.2.2]) (([] : List (Int × Int)), a31.2, (0 : Int)) (Value.slice none 0 0) h (by repeat (first | exact SubF.nil | refine SubF.cons rfl ?_)) (SubM.cons 1 rfl (SubM.cons 1 rfl (SubM.cons 1 rfl (SubM.cons 1 rfl (SubM.cons 1 rfl (SubM.cons 0 rfl (SubM.nil))))))) (LentAll.refl _ _) ?_
            clear h
            intro k53 a51 b52 h
            unfold law39_LabelsWhole_s2 at h
            refine J.seq ?_
            refine J.seq ?_
            refine J.region ?_
            refine J.quiet (Y.move rfl) rfl ?_
            refine J.quiet (Y.move rfl) rfl ?_
            refine J.quiet (Y.lss rfl rfl) rfl ?_
            refine J.done ?_
            refine J.thenN ?_
            refine J.condD (by exact rfl) (fun hp54 => ?_) (fun hp54 => ?_)
            · replace h := ifP hp54 h
              refine J.skip ?_
              refine J.thenN ?_
              refine J.seq ?_
              refine J.block ?_
              refine J.seq ?_
              refine J.region ?_
              refine J.quiet (Y.move rfl) rfl ?_
              refine J.quiet (Y.move rfl) rfl ?_
              refine J.quiet (Y.mulW rfl rfl) rfl ?_
              replace h := ck_some h; obtain ⟨hc55, h⟩ := h
              refine J.quiet (Y.rem rfl rfl hc55) rfl ?_
              refine J.quiet (Y.assign rfl) rfl ?_
              refine J.done ?_
              refine J.thenN ?_
              refine J.seq ?_
              refine J.region ?_
              refine J.quiet (Y.move rfl) rfl ?_
              refine J.quiet (Y.move rfl) rfl ?_
              refine J.quiet (Y.mulW rfl rfl) rfl ?_
              replace h := ck_some h; obtain ⟨hc56, h⟩ := h
              refine J.quiet (Y.quoW rfl rfl hc56) rfl ?_
              refine J.quiet (Y.assign rfl) rfl ?_
              refine J.done ?_
              refine J.thenN ?_
              refine J.seq ?_
              refine JR.start [0, 1, 0, 0, 12, 31, 63, 127] 5 mixedOrders (by decide +kernel) ?_
              refine JR.open (by exact rfl) ?_
              refine JR.qt rfl (SubM.nil) (SubL.nil) (Y.fieldB rfl rfl rfl rfl rfl) HistOk.z ?_
              refine JR.qt rfl (SubM.cons 1 rfl (SubM.nil)) (SubL.nil) (Y.loadB 0 rfl rfl rfl rfl rfl) HistOk.z ?_
              refine JR.qt rfl (SubM.nil) (SubL.nil) (Y.move rfl) HistOk.z ?_
              refine JR.qt rfl (SubM.nil) (SubL.nil) (Y.move rfl) HistOk.z ?_
              replace h := ck_some h; obtain ⟨hc57, h⟩ := h
              refine JR.qt rfl (SubM.nil) (SubL.nil) (Y.rem rfl rfl hc57) HistOk.z ?_
              refine JR.tailD 5 rfl rfl ?_
              replace h := ck_some h; obtain ⟨hc58, h⟩ := h
              refine J.quiet (Y.indexS rfl rfl (Lent.ar (Lent.res 2 rfl) FI64) rfl rfl hc58) rfl ?_
              refine J.quiet (Y.loadS0 rfl (Lent.ar (Lent.res 2 rfl) FI64) rfl rfl rfl RI64c0 hc58) rfl ?_
              refine J.quiet (Y.assign rfl) rfl ?_
              refine J.done ?_
              refine J.thenN ?_
              refine J.seq ?_
              refine J.midI (A := Int) (B := Unit) (fun a60 => law39_LabelsWhole_k6 r3 a51 (iter (law39_LabelsWhole_s2 fuel r3 r9 a31 (iter (law39_LabelsWhole_s1 fuel r3 r9 a13) k33)) k53) a60 = some r) (fun a60 b61 => [(5, Value.pointer (some ⟨b6, 0, none⟩)), (6, Value.int .i64 (List.length r3.2 : Int)), (7, Value.int .i64 (r9.1)), (8, x11.1), (10, Value.bool (a31.1)), (11, Value.int .i64 (a13)), (13, Value.int .i64 (a31.2)), (14, b52), (15, Value.int .i64 (wI .i64 (Int.tdiv a51.2.1 (wI .i64 ((List.length r3.2 : Int) * (4 : Int)))))), (16, Value.int .i64 (a51.2.2)), (17, Value.int .i64 (Int.tmod a51.2.1 (wI .i64 ((List.length r3.2 : Int) * (4 : Int))))), (18, Value.int .i64 (a60))]) (fun a60 b61 => [Ar EI64 x11.1 r9.2.1, Blk b6 [x5.1, x5.2.1] 29, Ar EI64 x5.1 r3.1, Ar Enc.raw x5.2.1 x5.2.2, Rws EI64I64p x5.2.2 r3.2, Ar EI64I64p b52 a51.1]) (fun a60 b61 => [Sl RI64 v0 p0.2.1, Sl RI64 v1 p0.2.2.1, Sl RI64 v2 p0.2.2.2.1, Sl RI64 v3 p1.2.1, Sl RI64 v4 p1.2.2]) ?_ ?_
              · refine J.seq ?_
                refine J.midI (A := Bool) (B := Unit) (fun a67 => law39_LabelsWhole_k7 r3 a51 (iter (law39_LabelsWhole_s2 fuel r3 r9 a31 (iter (law39_LabelsWhole_s1 fuel r3 r9 a13) k33)) k53) a67 = some r) (fun a67 b68 => [(5, Value.pointer (some ⟨b6, 0, none⟩)), (6, Value.int .i64 (List.length r3.2 : Int)), (7, Value.int .i64 (r9.1)), (8, x11.1), (10, Value.bool (a31.1)), (11, Value.int .i64 (a13)), (13, Value.int .i64 (a31.2)), (14, b52), (15, Value.int .i64 (wI .i64 (Int.tdiv a51.2.1 (wI .i64 ((List.length r3.2 : Int) * (4 : Int)))))), (16, Value.int .i64 (a51.2.2)), (17, Value.int .i64 (Int.tmod a51.2.1 (wI .i64 ((List.length r3.2 : Int) * (4 : Int))))), (18, Value.int .i64 (at' r3.1 (Int.tmod (Int.tmod a51.2.1 (wI .i64 ((List.length r3.2 : Int) * (4 : Int)))) (List.length r3.2 : Int)))), (71, Value.bool (a67))]) (fun a67 b68 => [Ar EI64 x11.1 r9.2.1, Blk b6 [x5.1, x5.2.1] 29, Ar EI64 x5.1 r3.1, Ar Enc.raw x5.2.1 x5.2.2, Rws EI64I64p x5.2.2 r3.2, Ar EI64I64p b52 a51.1]) (fun a67 b68 => [Sl RI64 v0 p0.2.1, Sl RI64 v1 p0.2.2.1, Sl RI64 v2 p0.2.2.2.1, Sl RI64 v3 p1.2.1, Sl RI64 v4 p1.2.2]) ?_ ?_
                · refine J.region ?_
                  refine J.quiet (Y.move rfl) rfl ?_
                  refine J.quiet (Y.eql rfl rfl) rfl ?_
                  refine J.quiet (Y.move rfl) rfl ?_
                  refine J.guardD (by exact rfl) (by exact rfl) (fun hp71 => ?_) (fun hp71 => ?_)
                  · replace h := ifP hp71 h
                    refine J.guardN rfl rfl rfl ?_
                    refine J.guardN rfl rfl rfl ?_
                    refine J.quiet (Y.pickT rfl rfl) rfl ?_
                    refine J.done ?_
                    refine J.thenN ?_
                    exact J.meetI (true) (()) h (by repeat (first | exact SubF.nil | refine SubF.cons rfl ?_)) (SubM.refl _) (LentAll.refl _ _)
                  · replace h := ifN hp71 h
                    refine J.guardY rfl (Y.move rfl) rfl ?_
                    refine J.guardY rfl (Y.eql rfl rfl) rfl ?_
                    refine J.quiet (Y.pickF rfl rfl) rfl ?_
                    refine J.done ?_
                    refine J.thenN ?_
                    exact J.meetI (decide (r9.1 = (4 : Int))) (()) h (by repeat (first | exact SubF.nil | refine SubF.cons rfl ?_)) (SubM.refl _) (LentAll.refl _ _)
                · clear h
                  intro a67 b68 h
                  unfold law39_LabelsWhole_k7 at h
                  refine J.cond (by exact rfl) (fun hp69 => ?_) (fun hp69 => ?_)
                  · replace h := ifP hp69 h
                    refine J.region ?_
                    refine J.quiet (Y.move rfl) rfl ?_
                    refine J.quiet (Y.move rfl) rfl ?_
                    replace h := ck_some h; obtain ⟨hc70, h⟩ := h
                    refine J.quiet (Y.rem rfl rfl hc70) rfl ?_
                    refine J.quiet (Y.assign rfl) rfl ?_
                    refine J.done ?_
                    refine J.thenN ?_
                    exact J.meetI (Int.tmod (Int.tmod a51.2.1 (wI .i64 ((List.length r3.2 : Int) * (4 : Int)))) (List.length r3.2 : Int)) (()) h (by repeat (first | exact SubF.nil | refine SubF.cons rfl ?_)) (SubM.refl _) (LentAll.refl _ _)
                  · replace h := ifBN hp69 h
                    refine J.skip ?_
                    refine J.thenN ?_
                    exact J.meetI (at' r3.1 (Int.tmod (Int.tmod a51.2.1 (wI .i64 ((List.length r3.2 : Int) * (4 : Int)))) (List.length r3.2 : Int))) (()) h (by repeat (first | exact SubF.nil | refine SubF.cons rfl ?_)) (SubM.refl _) (LentAll.refl _ _)
              · clear h
                intro a60 b61 h
                unfold law39_LabelsWhole_k6 at h
                refine J.region ?_
                refine J.quiet (Y.move rfl) rfl ?_
                refine J.quiet (Y.move rfl) rfl ?_
                refine J.quiet (Y.move rfl) rfl ?_
                refine J.quiet (Y.move rfl) rfl ?_
                replace h := ck_some h; obtain ⟨hc62, h⟩ := h
                refine J.quiet (Y.quoW rfl rfl hc62) rfl ?_
                refine J.quiet (Y.bld2 (r := Value.agg #[Value.int .i64 (a60), Value.int .i64 (wI .i64 (Int.tdiv (Int.tmod a51.2.1 (wI .i64 ((List.length r3.2 : Int) * (4 : Int)))) (List.length r3.2 : Int)))]) rfl rfl (by intro w; simp [Instr.build, Instr.fill, cells_intV, cells_boolV, cells_sliceV, cells_ptrV, cells_strV, cells_funcV, cells_agg])) rfl ?_
                refine J.loud (Loud.buildS (e := EI64I64p) ([((a60, (wI .i64 (Int.tdiv (Int.tmod a51.2.1 (wI .i64 ((List.length r3.2 : Int) * (4 : Int)))) (List.length r3.2 : Int)))))]) [(0, Value.agg #[Value.int .i64 (a60), Value.int .i64 (wI .i64 (Int.tdiv (Int.tmod a51.2.1 (wI .i64 ((List.length r3.2 : Int) * (4 : Int)))) (List.length r3.2 : Int)))])] rfl rfl rfl rfl (fill_1_2 (Value.int .i64 (a60)) (Value.int .i64 (wI .i64 (Int.tdiv (Int.tmod a51.2.1 (wI .i64 ((List.length r3.2 : Int) * (4 : Int)))) (List.length r3.2 : Int))))) rfl rfl rfl) rfl fun u63 => ?_
                replace h := ck_some h; obtain ⟨hc65, h⟩ := h
                refine J.loud (Loud.appendL 6 FI64I64p rfl rfl rfl (Lent.ar (Lent.res 0 rfl) FI64I64p) rfl rfl rfl rfl hc65 rfl) rfl fun u64 => ?_
                refine J.quiet (Y.assign rfl) rfl ?_
                refine J.done ?_
                refine J.inN ?_
                refine J.thenN ?_
                refine J.region ?_
                refine J.quiet (Y.move rfl) rfl ?_
                refine J.quiet (Y.addW rfl rfl) rfl ?_
                refine J.quiet (Y.assign rfl) rfl ?_
                refine J.done ?_
                refine J.thenN ?_
                exact J.againI ((a51.1 ++ ([ (a60, (wI .i64 (Int.tdiv (Int.tmod a51.2.1 (wI .i64 ((List.length r3.2 : Int) * (4 : Int)))) (List.length r3.2 : Int))))])), (wI .i64 (Int.tdiv a51.2.1 (wI .i64 ((List.length r3.2 : Int) * (4 : Int))))), (wI .i64 (a51.2.2 + (1 : Int)))) (u64) h (by repeat (first | exact SubF.nil | refine SubF.cons rfl ?_)) (SubM.cons 1 rfl (SubM.cons 1 rfl (SubM.cons 1 rfl (SubM.cons 1 rfl (SubM.cons 1 rfl (SubM.cons 1 rfl (SubM.nil))))))) (LentAll.refl _ _)
            · replace h := ifN hp54 h
              refine J.exit ?_
              refine J.thenX ?_
              refine J.thenX ?_
              refine J.inX ?_
              refine J.thenN ?_
              exact J.meetI (a51.1) (b52) h (by repeat (first | exact SubF.nil | refine SubF.cons rfl ?_)) (SubM.refl _) (LentAll.refl _ _)
          · clear h
            intro a40 b41 h
            unfold law39_LabelsWhole_k5 at h
            refine J.region ?_
            refine J.quiet (Y.move rfl) rfl ?_
            refine J.quiet (Y.move rfl) rfl ?_
            refine J.guard (by exact rfl) (by exact rfl) (fun hp42 => ?_) (fun hp42 => ?_)
            · replace h := ifP hp42 h
              refine J.guardN rfl rfl rfl ?_
              refine J.guardN rfl rfl rfl ?_
              refine J.guardN rfl rfl rfl ?_
              refine J.guardN rfl rfl rfl ?_
              refine J.guardN rfl rfl rfl ?_
              refine J.guardN rfl rfl rfl ?_
              refine J.quiet (Y.pickT rfl rfl) rfl ?_
              refine J.quiet (Y.assign rfl) rfl ?_
              refine J.done ?_
              refine J.inN ?_
              refine J.thenN ?_
              exact J.meetI (true) (()) h (by repeat (first | exact SubF.nil | refine SubF.cons rfl ?_)) (SubM.cons 0 rfl (SubM.cons 0 rfl (SubM.cons 0 rfl (SubM.cons 0 rfl (SubM.cons 0 rfl (SubM.nil)))))) (LentAll.refl _ _)
            · replace h := ifBN hp42 h
              refine J.guardY rfl (Y.move rfl) rfl ?_
              refine J.guardY rfl (Y.loadBAll 1 rfl rfl rfl rfl) rfl ?_
              refine J.guardY rfl (Y.move rfl) rfl ?_
              refine J.guardY rfl (Y.move rfl) rfl ?_
              replace h := bnd h; obtain ⟨r43, hr44, h⟩ := h
              refine J.loudG rfl (Loud.callL body25 (t_labels_Rejecting fuel x5.1 x5.2.1 (List.zip x5.2.2 r3.2) x11.1 b41 r43 hr44) rfl (LentAll.cons (Lent.ar (Lent.res 2 rfl) FI64) (LentAll.cons (Lent.rows (i := 3) (j := 4) rfl rfl FI64I64p) (LentAll.cons (Lent.ar (Lent.res 0 rfl) FI64) (LentAll.cons (Lent.ar (Lent.res 5 rfl) FI64I64p) (LentAll.nil))))) (fun _ _ => rfl)) rfl fun x45 => ?_
              refine J.guardY rfl (Y.eql rfl rfl) rfl ?_
              refine J.quiet (Y.pickF rfl rfl) rfl ?_
              refine J.quiet (Y.assign rfl) rfl ?_
              refine J.done ?_
              refine J.inN ?_
              refine J.thenN ?_
              exact J.meetI (decide (r43 = (0 : Int))) (()) h (by repeat (first | exact SubF.nil | refine SubF.cons rfl ?_)) (SubM.cons 0 rfl (SubM.cons 0 rfl (SubM.cons 0 rfl (SubM.cons 0 rfl (SubM.cons 0 rfl (SubM.nil)))))) (LentAll.refl _ _)
        · clear h
          intro a36 b37 h
          unfold law39_LabelsWhole_k4 at h
          refine J.region ?_
          refine J.quiet (Y.move rfl) rfl ?_
          refine J.quiet (Y.addW rfl rfl) rfl ?_
          refine J.quiet (Y.assign rfl) rfl ?_
          refine J.done ?_
          refine J.thenN ?_
          exact J.againI (a36, (wI .i64 (a31.2 + (1 : Int)))) (()) h (by repeat (first | exact SubF.nil | refine SubF.cons rfl ?_)) (SubM.refl _) (LentAll.refl _ _)
      · replace h := ifN hp34 h
        refine J.exit ?_
        refine J.thenX ?_
        refine J.thenX ?_
        refine J.inX ?_
        refine J.thenN ?_
        exact J.meetI (a31.1) (()) h (by repeat (first | exact SubF.nil | refine SubF.cons rfl ?_)) (SubM.refl _) (LentAll.refl _ _)
    · clear h
      intro a16 b17 h
      unfold law39_LabelsWhole_k2 at h
      refine J.seq ?_
      refine J.midI (A := Bool) (B := Unit) (fun a19 => law39_LabelsWhole_k3  a19 = some r) (fun a19 b20 => [(4, Value.bool (a19))]) (fun a19 b20 => []) (fun a19 b20 => [Sl RI64 v0 p0.2.1, Sl RI64 v1 p0.2.2.1, Sl RI64 v2 p0.2.2.2.1, Sl RI64 v3 p1.2.1, Sl RI64 v4 p1.2.2]) ?_ ?_
      · refine J.region ?_
        replace h := bnd h; obtain ⟨r21, hr22, h⟩ := h
        refine J.loud (Loud.callL body13 (t_law39_known fuel  r21 hr22) rfl (LentAll.nil) (fun _ _ => rfl)) rfl fun x23 => ?_
        refine J.quiet (Y.move rfl) rfl ?_
        refine J.guard (by exact rfl) (by exact rfl) (fun hp24 => ?_) (fun hp24 => ?_)
        · replace h := ifP hp24 h
          refine J.guardY rfl (Y.move rfl) rfl ?_
          refine J.guardY rfl (Y.move rfl) rfl ?_
          refine J.guardY rfl (Y.loadBAll 1 rfl rfl rfl rfl) rfl ?_
          refine J.guardY rfl (Y.move rfl) rfl ?_
          replace h := bnd h; obtain ⟨r25, hr26, h⟩ := h
          refine J.loudG rfl (Loud.callL body19 (t_labels_Holds fuel x5.1 x5.2.1 (List.zip x5.2.2 r3.2) x11.1 r25 hr26) rfl (LentAll.cons (Lent.ar (Lent.res 2 rfl) FI64) (LentAll.cons (Lent.rows (i := 3) (j := 4) rfl rfl FI64I64p) (LentAll.cons (Lent.ar (Lent.res 0 rfl) FI64) (LentAll.nil)))) (fun _ _ => rfl)) rfl fun x27 => ?_
          refine J.guardY rfl (Y.eqlB rfl rfl rfl) rfl ?_
          refine J.quiet (Y.pickT rfl rfl) rfl ?_
          refine J.quiet (Y.assign rfl) rfl ?_
          refine J.done ?_
          refine J.thenN ?_
          exact J.meetI ((a16 == r25)) (()) h (by repeat (first | exact SubF.nil | refine SubF.cons rfl ?_)) (SubM.nil) (LentAll.refl _ _)
        · replace h := ifBN hp24 h
          refine J.guardN rfl rfl rfl ?_
          refine J.guardN rfl rfl rfl ?_
          refine J.guardN rfl rfl rfl ?_
          refine J.guardN rfl rfl rfl ?_
          refine J.guardN rfl rfl rfl ?_
          refine J.guardN rfl rfl rfl ?_
          refine J.quiet (Y.pickF rfl rfl) rfl ?_
          refine J.quiet (Y.assign rfl) rfl ?_
          refine J.done ?_
          refine J.thenN ?_
          exact J.meetI (false) (()) h (by repeat (first | exact SubF.nil | refine SubF.cons rfl ?_)) (SubM.nil) (LentAll.refl _ _)
      · clear h
        intro a19 b20 h
        unfold law39_LabelsWhole_k3 at h
        refine J.ret ?_
        obtain rfl := Option.some.inj h
        exact J.retG1 (()) rfl rfl (RV.tmp rfl) (SubM.refl _) LentAll.nil

end Go.Proofs.Ytmajgimhmfeliaa
end
section
set_option linter.unusedVariables false
set_option linter.unusedSimpArgs false
namespace Go.Proofs.Ytmajgimhmfeliaa
open Go.Sx
set_option linter.unusedVariables false
theorem digits (B : Nat) (hB : 1 ≤ B) : ∀ (n : Nat) (f : Nat → Nat), (∀ v, v < n → f v < B) → ∃ k, k < B ^ n ∧ ∀ v, v < n → (k / B ^ v) % B = f v
  | 0, f, _ => ⟨0, by simp, fun v hv => by omega⟩
  | n + 1, f, h => by
    obtain ⟨k, hk, hd⟩ := digits B hB n (fun v => f (v + 1)) (fun v hv => h (v + 1) (by omega))
    have h0 := h 0 (by omega)
    have e1 : (f 0 + B * k) / B = k := by rw [Nat.add_mul_div_left _ _ (by omega), Nat.div_eq_of_lt h0]; omega
    have e2 : (f 0 + B * k) % B = f 0 := by rw [Nat.add_mul_mod_self_left, Nat.mod_eq_of_lt h0]
    refine ⟨f 0 + B * k, ?_, fun v hv => ?_⟩
    · rw [Nat.pow_succ]
      have : B * (k + 1) ≤ B * B ^ n := Nat.mul_le_mul_left _ hk
      rw [Nat.mul_add, Nat.mul_one] at this
      rw [Nat.mul_comm (B ^ n) B]
      omega
    · cases v with
      | zero => simp [e2]
      | succ v =>
        rw [Nat.pow_succ, Nat.mul_comm (B ^ v) B, ← Nat.div_div_eq_div_mul, e1]
        exact hd v (by omega)

/-- the label that a number stands for -/
def lbl (kind : Int) (g : GR) (a : Nat) : Int × Int := (if kind = 3 ∨ kind = 4 then ((a % g.2.length : Nat) : Int) else at' g.1 ((a % g.2.length : Nat) : Int), ((a / g.2.length : Nat) : Int))
def lbls (kind : Int) (g : GR) (k : Nat) : List (Int × Int) := (List.range g.2.length).map fun v => lbl kind g ((k / (g.2.length * 4) ^ v) % (g.2.length * 4))

section
variable {g : GR} {st : List Int} {lb : List (Int × Int)} {kind : Int}
theorem tmodN (a b : Nat) : Int.tmod (a : Int) (b : Int) = ((a % b : Nat) : Int) := by rw [Int.tmod_eq_emod_of_nonneg (by omega)]; rfl
theorem tdivN (a b : Nat) : Int.tdiv (a : Int) (b : Int) = ((a / b : Nat) : Int) := by rw [Int.tdiv_eq_ediv_of_nonneg (by omega)]; rfl

theorem wrN {a : Nat} (h : a ≤ 100000) : wI .i64 (a : Int) = (a : Int) := wr (by omega) (by omega)

theorem whole_inner (hV : VM g.1 g.2) (h3 : g.2.length ≤ 3) (a31 : Bool × Int) (ag : Bool × Int → Option Bool) (k : Nat) (hk : k < 100000) :
    iter (law39_LabelsWhole_s2 2000 g (kind, st, lb) a31 ag) 2000 ([], (k : Int), 0) = law39_LabelsWhole_k5 2000 g (kind, st, lb) a31 ag (lbls kind g k) := by
  have h1 := hV.n1
  have hlen := hV.len
  have key : ∀ (d v fuel : Nat), v + d = g.2.length → d < fuel → iter (law39_LabelsWhole_s2 2000 g (kind, st, lb) a31 ag) fuel ((List.range v).map (fun v => lbl kind g ((k / (g.2.length * 4) ^ v) % (g.2.length * 4))), ((k / (g.2.length * 4) ^ v : Nat) : Int), (v : Int)) = law39_LabelsWhole_k5 2000 g (kind, st, lb) a31 ag (lbls kind g k) := by
    intro d
    induction d with
    | zero =>
      intro v fuel hv hf
      obtain ⟨f, rfl⟩ : ∃ f, fuel = f + 1 := ⟨fuel - 1, by omega⟩
      show law39_LabelsWhole_s2 2000 g (kind, st, lb) a31 ag _ _ = _
      unfold law39_LabelsWhole_s2
      dsimp only
      rw [if_neg (by omega)]
      have : v = g.2.length := by omega
      subst this
      rfl
    | succ d ih =>
      intro v fuel hv hf
      obtain ⟨f, rfl⟩ : ∃ f, fuel = f + 1 := ⟨fuel - 1, by omega⟩
      have ih' := ih (v + 1) f (by omega) (by omega)
      show law39_LabelsWhole_s2 2000 g (kind, st, lb) a31 ag _ (iter (law39_LabelsWhole_s2 2000 g (kind, st, lb) a31 ag) f) = _
      generalize iter (law39_LabelsWhole_s2 2000 g (kind, st, lb) a31 ag) f = ag3 at ih' ⊢
      clear ih
      have hw4 : wI .i64 ((g.2.length : Int) * 4) = ((g.2.length * 4 : Nat) : Int) := by rw [wr (by omega) (by omega)]; simp
      generalize hq : k / (g.2.length * 4) ^ v = q at *
      have hqk : q ≤ k := by rw [← hq]; exact Nat.div_le_self _ _
      have hm1 : q % (g.2.length * 4) < g.2.length * 4 := Nat.mod_lt _ (by omega)
      have hm2 : q % (g.2.length * 4) % g.2.length < g.2.length := Nat.mod_lt _ (by omega)
      have hm3 : q % (g.2.length * 4) / g.2.length ≤ q % (g.2.length * 4) := Nat.div_le_self _ _
      have hm4 : q / (g.2.length * 4) ≤ q := Nat.div_le_self _ _
      have step : ∀ x : Int, x = (lbl kind g (q % (g.2.length * 4))).1 → law39_LabelsWhole_k6 g ((List.range v).map (fun v => lbl kind g ((k / (g.2.length * 4) ^ v) % (g.2.length * 4))), (q : Int), (v : Int)) ag3 x = law39_LabelsWhole_k5 2000 g (kind, st, lb) a31 ag (lbls kind g k) := by
        intro x hx
        unfold law39_LabelsWhole_k6
        dsimp only
        rw [ckT (by omega), ckT (by simp; omega), hw4, tmodN, tdivN, tdivN, wrN (a := q % (g.2.length * 4) / g.2.length) (by omega), wrN (a := q / (g.2.length * 4)) (by omega), wr (by omega) (by omega)]
        have := ih'
        rw [List.range_succ, List.map_append] at this
        have e1 : k / (g.2.length * 4) ^ (v + 1) = q / (g.2.length * 4) := by rw [Nat.pow_succ, ← Nat.div_div_eq_div_mul, hq]
        rw [e1] at this
        rw [hx]
        have e2 : (lbl kind g (q % (g.2.length * 4))) = ((lbl kind g (q % (g.2.length * 4))).1, ((q % (g.2.length * 4) / g.2.length : Nat) : Int)) := rfl
        rw [← e2]
        have e3 : ([v].map (fun v => lbl kind g ((k / (g.2.length * 4) ^ v) % (g.2.length * 4)))) = [lbl kind g (q % (g.2.length * 4))] := by simp [hq]
        rw [e3] at this
        exact_mod_cast this
      unfold law39_LabelsWhole_s2
      dsimp only
      rw [if_pos (by omega), hw4, ckT (by omega), ckT (by omega), ckT (by omega), tmodN, tmodN, ckT (by omega)]
      have k7 : ∀ b : Bool, (b = true ↔ kind = 3 ∨ kind = 4) → law39_LabelsWhole_k7 g ((List.range v).map (fun v => lbl kind g ((k / (g.2.length * 4) ^ v) % (g.2.length * 4))), (q : Int), (v : Int)) ag3 b = law39_LabelsWhole_k5 2000 g (kind, st, lb) a31 ag (lbls kind g k) := by
        intro b hb
        unfold law39_LabelsWhole_k7
        dsimp only
        cases b with
        | true =>
          rw [if_pos rfl, ckT (by omega), hw4, tmodN, tmodN]
          refine step _ ?_
          unfold lbl
          rw [if_pos (hb.1 rfl)]
        | false =>
          rw [if_neg (by simp), hw4, tmodN, tmodN]
          refine step _ ?_
          unfold lbl
          rw [if_neg (fun h => by have := hb.2 h; cases this)]
      by_cases h3' : kind = 3
      · rw [if_pos h3']; exact k7 true ⟨fun _ => .inl h3', fun _ => rfl⟩
      · rw [if_neg h3']
        exact k7 _ (by rw [decide_eq_true_eq]; exact ⟨.inr, fun h => h.resolve_left h3'⟩)
  have := key g.2.length 0 2000 (by omega) (by omega)
  rw [Nat.pow_zero, Nat.div_one] at this
  exact this

theorem lbls_len (k : Nat) : (lbls kind g k).length = g.2.length := by simp [lbls]
theorem lbls_at {k v : Nat} (hv : v < g.2.length) : at' (lbls kind g k) (v : Int) = lbl kind g ((k / (g.2.length * 4) ^ v) % (g.2.length * 4)) := at_map _ hv

/-- each label that Prove answers has a number -/
theorem lab_num (hV : VM g.1 g.2) (hC : Conn g) (h3 : g.2.length ≤ 3) (hF : Fit kind g st) {l : List (Int × Int)} (h : LabP kind g st l) : ∀ v, v < g.2.length → ∃ a, a < g.2.length * 4 ∧ lbl kind g a = at' l (v : Int) := by
  have hg : VG g := hV.vg
  have h1 := hV.n1
  have hst := hF.len
  intro v hv
  have hk := hF.k14
  have num : ∀ i j : Nat, i < g.2.length → j < 4 → (i + g.2.length * j) < g.2.length * 4 ∧ (i + g.2.length * j) % g.2.length = i ∧ (i + g.2.length * j) / g.2.length = j := by
    intro i j hi hj
    refine ⟨?_, ?_, ?_⟩
    · have : g.2.length * (j + 1) ≤ g.2.length * 4 := Nat.mul_le_mul_left _ hj
      rw [Nat.mul_add] at this
      omega
    · rw [Nat.add_mul_mod_self_left, Nat.mod_eq_of_lt hi]
    · rw [Nat.add_mul_div_left _ _ (by omega), Nat.div_eq_of_lt hi]; omega
  obtain rfl | rfl | rfl | rfl : kind = 1 ∨ kind = 2 ∨ kind = 3 ∨ kind = 4 := by omega
  · obtain ⟨r, hT, hl, ha⟩ := h
    obtain ⟨k, e, hs⟩ := ha v hv
    have hlt := steps_lt hg hF.fit hv hs
    have hrl := hT.root.1
    obtain ⟨n1, n2, n3⟩ := num r k (by omega) (by omega)
    refine ⟨_, n1, ?_⟩
    unfold lbl
    rw [n2, n3, e, if_neg (by decide)]
  · obtain ⟨a, hA, hl, d, hD, ha⟩ := h
    have hal := hA.1
    have hp := conn_pos hg hC (s := a) (by omega) hD v hv
    have hlt := hD.lt hv
    obtain ⟨q, hq⟩ : ∃ q : Nat, D d v = q := ⟨(D d v).toNat, by omega⟩
    obtain ⟨n1, n2, n3⟩ := num a q (by omega) (by omega)
    refine ⟨_, n1, ?_⟩
    unfold lbl
    rw [n2, n3, ha v hv, if_neg (by decide), hq]
  · obtain ⟨d, hD, _, hl, ha⟩ := h
    have hp := conn_pos hg hC (s := 0) (by omega) hD v hv
    have hlt := hD.lt hv
    obtain ⟨q, hq⟩ : ∃ q : Nat, D d v = q := ⟨(D d v).toNat, by omega⟩
    obtain ⟨n1, n2, n3⟩ := num (q % 2) 0 (by omega) (by omega)
    refine ⟨_, n1, ?_⟩
    unfold lbl
    rw [n2, n3, ha v hv, if_pos (.inl rfl), hq]
    rfl
  · obtain ⟨hM, xs, hgr, hl, ha⟩ := h
    have hP := prt_of hV hF.fit
    obtain ⟨hc, htot⟩ := gr_ok hV hP _ xs (Nat.le_refl _) hgr
    have h2 := hc.inv.val v hv
    have h4 := htot v hv
    obtain ⟨q, hq⟩ : ∃ q : Nat, at' xs (v : Int) = q := ⟨(at' xs (v : Int)).toNat, by omega⟩
    have hqn : q < g.2.length := by
      apply Classical.byContradiction
      intro hn
      have hn1 : g.2.length = 1 := by omega
      have hd := (hg.node v hv).deg
      have hft := hF.fit v hv
      rw [FitAt, if_pos (.inr rfl)] at hft
      have := hc.zero v hv (by rw [ptns_at hv]; unfold ptn; rw [if_neg (by omega)]; decide)
      omega
    obtain ⟨n1, n2, n3⟩ := num q 0 hqn (by omega)
    refine ⟨_, n1, ?_⟩
    unfold lbl
    rw [n2, n3, ha v hv, if_pos (.inr rfl), hq]
    rfl

theorem lab_code (hV : VM g.1 g.2) (hC : Conn g) (h3 : g.2.length ≤ 3) (hF : Fit kind g st) {l : List (Int × Int)} (h : LabP kind g st l) : ∃ k, k < (g.2.length * 4) ^ g.2.length ∧ lbls kind g k = l := by
  have h1 := hV.n1
  have hn := lab_num hV hC h3 hF h
  have hn' : ∀ v, ∃ a, v < g.2.length → a < g.2.length * 4 ∧ lbl kind g a = at' l (v : Int) := fun v => by
    by_cases hv : v < g.2.length
    · obtain ⟨a, ha⟩ := hn v hv; exact ⟨a, fun _ => ha⟩
    · exact ⟨0, fun h => absurd h hv⟩
  obtain ⟨f, hf⟩ := Classical.axiomOfChoice hn'
  obtain ⟨k, hk, hd⟩ := digits (g.2.length * 4) (by omega) g.2.length f (fun v hv => (hf v hv).1)
  refine ⟨k, hk, ?_⟩
  have hl := h.len
  apply List.ext_getElem (by rw [lbls_len, hl])
  intro i h1 h2
  have e : ∀ {l : List (Int × Int)} {i : Nat} (h : i < l.length), at' l (i : Int) = l[i] := fun {l i} h => by
    rw [at'_nat, List.getD_eq_getElem?_getD, List.getElem?_eq_getElem h]; rfl
  have hi : i < g.2.length := by omega
  rw [← e h1, ← e h2, lbls_at hi, hd i hi]
  exact (hf i hi).2
end
theorem pure_LabelsWhole (x : NETX) (y : Int × List (Int) × List (Int)) : m_law39_LabelsWhole 2000 x y = some true := by
  obtain ⟨g, e1, hV, h3, hT⟩ := connected_ok x 3 (by decide) (by decide)
  have hC := conn_of hV hT
  have h1 := hV.n1
  obtain ⟨⟨kind, st, lb⟩, e2, hS⟩ := shape_ok y hV
  have hF : Fit kind g st := fit_of hS
  unfold m_law39_LabelsWhole
  have e1' : m__world_Net__Connected 2000 x 3 = some g := e1
  rw [bindS e1', bindS e2]
  have hpow : ∀ k, k ≤ g.2.length → 1 ≤ (g.2.length * 4) ^ k ∧ (g.2.length * 4) ^ k ≤ 1728 := by
    intro k hk
    have hb : g.2.length * 4 ≤ 12 := by omega
    have h2 : 1 ≤ (g.2.length * 4) ^ k := Nat.one_le_pow _ _ (by omega)
    have h4 : (g.2.length * 4) ^ k ≤ 12 ^ k := Nat.pow_le_pow_left hb k
    have h5 : 12 ^ k ≤ 12 ^ 3 := Nat.pow_le_pow_right (by omega) (by omega)
    omega
  refine iter_eq (fun s : Int × Int => ∃ k : Nat, s = ((((g.2.length * 4) ^ k : Nat) : Int), (k : Int)) ∧ k ≤ g.2.length) (fun s => g.2.length - s.2.toNat) ?_ 2000 _ ⟨0, rfl, by omega⟩ (by dsimp only; omega)
  rintro s ag ⟨k, rfl, hk⟩ hrec
  unfold law39_LabelsWhole_s3
  dsimp only
  by_cases hkn : (k : Int) < (g.2.length : Int)
  · rw [if_pos hkn]
    have hp := hpow k hk
    have hp' := hpow (k + 1) (by omega)
    have e : (((g.2.length * 4) ^ (k + 1) : Nat) : Int) = (((g.2.length * 4) ^ k : Nat) : Int) * (g.2.length : Int) * 4 := by
      rw [Nat.pow_succ]; push_cast; rw [Int.mul_assoc]
    have hle : (((g.2.length * 4) ^ k : Nat) : Int) * (g.2.length : Int) ≤ 1728 := by
      have : 0 ≤ (((g.2.length * 4) ^ k : Nat) : Int) * (g.2.length : Int) := Int.mul_nonneg (by omega) (by omega)
      omega
    have hge : 0 ≤ (((g.2.length * 4) ^ k : Nat) : Int) * (g.2.length : Int) := Int.mul_nonneg (by omega) (by omega)
    rw [wr (x := (((g.2.length * 4) ^ k : Nat) : Int) * (g.2.length : Int)) (by omega) (by omega), wr (by omega) (by omega), wr (by omega) (by omega)]
    exact hrec _ ⟨k + 1, by rw [← e]; simp, by omega⟩ (by dsimp only; omega)
  rw [if_neg hkn]
  have hkk : k = g.2.length := by omega
  subst hkk
  unfold law39_LabelsWhole_k1
  have hp := hpow g.2.length (Nat.le_refl _)
  generalize hN : (g.2.length * 4) ^ g.2.length = N at *
  obtain ⟨hb, hh, hhi⟩ := holds_spec hV hC hF
  refine iter_eq (fun s : Bool × Int => ∃ k : Nat, s.2 = k ∧ k ≤ N ∧ (s.1 = true ↔ ∃ j, j < k ∧ AllAcc kind g st (lbls kind g j))) (fun s => N - s.2.toNat) ?_ 2000 _ ⟨0, rfl, by omega, ⟨fun h => (by cases h), fun ⟨j, hj, _⟩ => by omega⟩⟩ (by dsimp only; omega)
  rintro ⟨b, i⟩ ag2 ⟨k, hi, hkN, hbi⟩ hrec2
  dsimp only at hi hbi
  subst hi
  unfold law39_LabelsWhole_s1
  dsimp only
  by_cases hkn2 : (k : Int) < (N : Int)
  · rw [if_pos hkn2, whole_inner hV h3 _ ag2 k (by omega)]
    unfold law39_LabelsWhole_k5 law39_LabelsWhole_k4
    dsimp only
    rw [wr (by omega) (by omega)]
    cases b with
    | true =>
      rw [if_pos rfl]
      refine hrec2 _ ⟨k + 1, by simp, by omega, ⟨fun _ => ?_, fun _ => rfl⟩⟩ (by dsimp only; omega)
      obtain ⟨j, hj, ha⟩ := hbi.1 rfl
      exact ⟨j, by omega, ha⟩
    | false =>
      obtain ⟨r, hr, hri⟩ := rejecting_iff (l := lbls kind g k) hV.vg hF (lbls_len k)
      rw [if_neg (by simp), bindS hr]
      refine hrec2 _ ⟨k + 1, by simp, by omega, ?_⟩ (by dsimp only; omega)
      dsimp only
      rw [decide_eq_true_eq, hri]
      constructor
      · intro h; exact ⟨k, by omega, h⟩
      · rintro ⟨j, hj, ha⟩
        by_cases e : j = k
        · subst e; exact ha
        · have := hbi.2 ⟨j, by omega, ha⟩
          cases this
  · rw [if_neg hkn2]
    have hkk : k = N := by omega
    subst hkk
    unfold law39_LabelsWhole_k2
    rw [bindS known_eq, if_pos rfl]
    dsimp only
    rw [bindS hh]
    have : b = hb := by
      rw [Bool.eq_iff_iff, hbi, hhi]
      constructor
      · rintro ⟨j, hj, ha⟩
        refine sound hV hC hF (lbls_len j) (fun v hv => ?_) ha
        rw [lbls_at hv]
        show ((_ : Nat) : Int) ≤ _
        have : (j / (g.2.length * 4) ^ v) % (g.2.length * 4) < g.2.length * 4 := Nat.mod_lt _ (by omega)
        have h6 := Nat.div_le_self ((j / (g.2.length * 4) ^ v) % (g.2.length * 4)) g.2.length
        omega
      · intro hH
        obtain ⟨⟨l, e⟩, _, hq⟩ := prove_spec hV hC hF
        rcases hq with ⟨_, _, h5⟩ | ⟨_, h5⟩
        · obtain ⟨j, hj, he⟩ := lab_code hV hC h3 hF h5
          refine ⟨j, by rw [← hN]; exact hj, ?_⟩
          rw [he]
          exact complete hV hC hF h5
        · exact absurd hH h5
    subst this
    unfold law39_LabelsWhole_k3
    simp
end Go.Proofs.Ytmajgimhmfeliaa
end
