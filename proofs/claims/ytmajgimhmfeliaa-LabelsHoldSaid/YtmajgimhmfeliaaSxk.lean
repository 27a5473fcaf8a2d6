/- The layer Sx, part 11: a region that draws its order and whose loud operations are not ordered: one walk for each order of the loud ones. Conditions: the check of the region's edges and orders, decided by running it. -/
import Derived.Test.YtmajgimhmfeliaaSxj
set_option linter.unusedVariables false
set_option linter.unusedSimpArgs false
namespace Go.Sx
open Go.RowKit

theorem apart_symm {ops : Array Oper} {x y : Oper} (h : x.apart ops y = true) : y.apart ops x = true := by
  obtain ⟨h1, h2, h3⟩ := Oper.apart_spec h
  unfold Oper.apart
  rw [Bool.and_eq_true]
  constructor
  · cases hy : y.dst with
    | none => rfl
    | some d =>
      have a := h3 d hy
      have b : x.dst ≠ some d := fun e => h2 d e (by rw [hy])
      simp [a, b]
  · cases hx : x.dst with
    | none => rfl
    | some d => simp [h1 d hx]

def chkA (l : List Oper) (m : List Nat) (k0 : Nat) : Bool :=
  (List.range l.length).all fun i => match l[i]? with
    | none => false
    | some o =>
      (edges o).all (fun e => Nat.blt e i && before m i e) &&
      (List.range l.length).all (fun k => !before m i k || (Nat.blt k i && (edges o).any (fun e => Nat.beq e k || before m e k))) &&
      !isSelect o.op &&
      (if Nat.ble k0 i then (List.range i).all (fun x => before m i x)
       else (List.range i).all (fun x => before m i x || (match l[x]? with | none => false | some ox => ox.apart l.toArray o)))

structure ChkA (l : List Oper) (m : List Nat) (k0 : Nat) : Prop where
  edge : ∀ (i : Nat) (o : Oper), l[i]? = some o → ∀ e ∈ edges o, e < i ∧ before m i e = true
  trans : ∀ (i : Nat) (o : Oper), l[i]? = some o → ∀ k, before m i k = true → k < l.length → k < i ∧ ∃ e ∈ edges o, e = k ∨ before m e k = true
  sel : ∀ (i : Nat) (o : Oper), l[i]? = some o → ∀ cs b, o.op ≠ .select cs b
  tail : ∀ i x, i < l.length → k0 ≤ i → x < i → before m i x = true
  ind : ∀ (i x : Nat) (oi ox : Oper), l[i]? = some oi → l[x]? = some ox → i < k0 → x < i → before m i x = false → ox.apart l.toArray oi = true

theorem chkA_spec {l : List Oper} {m : List Nat} {k0 : Nat} (h : chkA l m k0 = true) : ChkA l m k0 := by
  have key : ∀ (i : Nat) (o : Oper), l[i]? = some o →
      ((edges o).all (fun e => Nat.blt e i && before m i e) = true) ∧
      ((List.range l.length).all (fun k => !before m i k || (Nat.blt k i && (edges o).any (fun e => Nat.beq e k || before m e k))) = true) ∧ isSelect o.op = false ∧
      ((if Nat.ble k0 i then (List.range i).all (fun x => before m i x)
       else (List.range i).all (fun x => before m i x || (match l[x]? with | none => false | some ox => ox.apart l.toArray o))) = true) := by
    intro i o ho
    have := List.all_eq_true.1 h i (List.mem_range.2 (getElem?_lt ho))
    simp only [ho, Bool.and_eq_true, Bool.not_eq_true'] at this
    exact ⟨this.1.1.1, this.1.1.2, this.1.2, this.2⟩
  refine ⟨?_, ?_, ?_, ?_, ?_⟩
  · intro i o ho e he
    have := List.all_eq_true.1 (key i o ho).1 e he
    simp only [Bool.and_eq_true, Nat.blt_eq] at this
    exact this
  · intro i o ho k hk hlt
    have := List.all_eq_true.1 (key i o ho).2.1 k (List.mem_range.2 hlt)
    simp only [hk, Bool.not_true, Bool.false_or, Bool.and_eq_true, Nat.blt_eq, List.any_eq_true, Bool.or_eq_true] at this
    obtain ⟨h1, e, he, h2⟩ := this
    refine ⟨h1, e, he, ?_⟩
    rcases h2 with h2 | h2
    · exact .inl (Nat.eq_of_beq_eq_true h2)
    · exact .inr h2
  · intro i o ho cs b e
    have := (key i o ho).2.2.1
    rw [e] at this
    cases this
  · intro i x hi hk hx
    obtain ⟨o, ho⟩ : ∃ o, l[i]? = some o := ⟨_, List.getElem?_eq_getElem hi⟩
    have := (key i o ho).2.2.2
    rw [if_pos (by simpa using hk)] at this
    exact List.all_eq_true.1 this x (List.mem_range.2 hx)
  · intro i x oi ox hi hx hk hlt hb
    have := (key i oi hi).2.2.2
    rw [if_neg (by simpa using hk)] at this
    have := List.all_eq_true.1 this x (List.mem_range.2 hlt)
    simp only [hb, Bool.false_or, hx] at this
    exact this

/-- s is an order that the edges allow -/
def Lin (l : List Oper) : Array Bool → List Nat → Prop
  | listed, [] => ∀ i, i < l.length → listed.getD i true = true
  | listed, i :: s => i ∈ Region.ready .any l.toArray listed ∧ Lin l (listed.setIfInBounds i true) s

def left (l : List Oper) (listed : Array Bool) : List Nat := (List.range l.length).filter fun i => !listed.getD i true

theorem mem_left {l : List Oper} {listed : Array Bool} {i : Nat} : i ∈ left l listed ↔ i < l.length ∧ listed.getD i true = false := by
  unfold left
  rw [List.mem_filter, List.mem_range]
  constructor
  · rintro ⟨h1, h2⟩
    exact ⟨h1, by simpa using h2⟩
  · rintro ⟨h1, h2⟩
    exact ⟨h1, by rw [h2]; rfl⟩

theorem left_set {l : List Oper} {listed : Array Bool} (hsz : listed.size = l.length) {i : Nat} (hi : i ∈ left l listed) : (left l (listed.setIfInBounds i true)).length < (left l listed).length := by
  have hlt := (mem_left.1 hi).1
  have : left l (listed.setIfInBounds i true) = (left l listed).filter (fun j => !(j == i)) := by
    unfold left
    rw [List.filter_filter]
    apply List.filter_congr
    intro j hj
    by_cases e : i = j
    · subst e; simp [hsz, hlt]
    · rw [getD_set_ne true e]
      have : (j == i) = false := by simpa using fun h => e h.symm
      simp [this]
  rw [this]
  apply List.length_filter_lt_length_iff_exists.2
  exact ⟨i, hi, by simp⟩

theorem lin_go {l : List Oper} {m : List Nat} {k0 : Nat} (hc : ChkA l m k0) : ∀ (fuel t : Nat) (listed : Array Bool), (left l listed).length ≤ fuel → listed.size = l.length → Lin l listed (Region.linearise.go .any l.toArray fuel t listed []) := by
  intro fuel
  induction fuel with
  | zero =>
    intro t listed hlen hsz
    simp only [Region.linearise.go, List.reverse_nil, Lin]
    intro i hi
    cases h : listed.getD i true with
    | true => rfl
    | false =>
      have := mem_left.2 ⟨hi, h⟩
      have hnil : left l listed = [] := List.eq_nil_of_length_eq_zero (by omega)
      rw [hnil] at this; simp at this
  | succ fuel ih =>
    intro t listed hlen hsz
    simp only [Region.linearise.go]
    change Lin l listed (match (Region.ready .any l.toArray listed)[t % (Region.ready .any l.toArray listed).length]? with
      | some i => Region.linearise.go .any l.toArray fuel (t / (Region.ready .any l.toArray listed).length) (listed.setIfInBounds i true) [i]
      | none => [].reverse)
    cases hi : (Region.ready .any l.toArray listed)[t % (Region.ready .any l.toArray listed).length]? with
    | none =>
      have hnil : Region.ready .any l.toArray listed = [] := by
        cases hr : Region.ready .any l.toArray listed with
        | nil => rfl
        | cons x xs =>
          rw [hr] at hi
          have hlt : t % (x :: xs).length < (x :: xs).length := Nat.mod_lt _ (by simp)
          simp at hi
          simp at hlt
          omega
      simp only [List.reverse_nil, Lin]
      intro i
      induction i using Nat.strongRecOn with
      | _ i ihi =>
        intro hlt
        cases h : listed.getD i true with
        | true => rfl
        | false =>
          exfalso
          obtain ⟨o, ho⟩ : ∃ o, l[i]? = some o := ⟨_, List.getElem?_eq_getElem hlt⟩
          have : i ∈ Region.ready .any l.toArray listed := by
            refine mem_ready.2 ⟨h, o, by simpa using ho, fun e he hb => ?_⟩
            have hee : e.on ∈ edges o := List.mem_map.2 ⟨e, List.mem_filter.2 ⟨by simpa using he, hb⟩, rfl⟩
            have hei := (hc.edge i o ho e.on hee).1
            have h1 := ihi e.on hei (by omega)
            have : e.on < listed.size := by omega
            simp [this] at h1 ⊢
            exact h1
          rw [hnil] at this; simp at this
    | some i =>
      simp only []
      rw [linearise_go_acc, List.reverse_singleton, List.singleton_append]
      have hir := List.mem_of_getElem? hi
      refine ⟨hir, ih _ _ ?_ (by simp [hsz])⟩
      obtain ⟨h0, o, ho, _⟩ := mem_ready.1 hir
      have hil : i ∈ left l listed := mem_left.2 ⟨by have := (Array.getElem?_eq_some_iff.1 ho).1; simpa using this, h0⟩
      have := left_set hsz hil
      omega

section
variable {P : Program} {Q : Exit → Act → World → Prop} {l : List Oper} {m : List Nat} {k0 : Nat}

theorem RW.sched (hc : ChkA l m k0) : ∀ (s : List Nat) (L : List Nat) (listed : Array Bool) (a : Act) (w : World) (H : List (Nat × World)) (Bs : List (Nat × (World → Prop))),
    Lin l listed s → listed.size = l.length → L.Nodup → L.Pairwise (fun x i => before m x i = false) → (∀ i, i ∈ L ↔ i < l.length ∧ listed.getD i true = false) →
    (∀ j k, listed.getD j false = true → before m j k = true → k < l.length → listed.getD k false = true) → L.filter (louds l) = s.filter (louds l) →
    RW P l.toArray Q (before m) (louds l) k0 L a w H Bs → wpOps P l.toArray Q s a w := by
  intro s
  induction s with
  | nil =>
    intro L listed a w H Bs hlin hsz hnd hpw hmem hcl hf h
    have hL : L = [] := by
      cases L with
      | nil => rfl
      | cons i L =>
        have := (hmem i).1 List.mem_cons_self
        rw [hlin i this.1] at this
        cases this.2
    subst hL
    exact h
  | cons i s ih =>
    intro L listed a w H Bs hlin hsz hnd hpw hmem hcl hf h
    obtain ⟨hi, hlin'⟩ := hlin
    obtain ⟨h0, o, ho', hedge⟩ := mem_ready.1 hi
    have ho : l[i]? = some o := by simpa using ho'
    have hlt : i < l.length := getElem?_lt ho
    have hiL : i ∈ L := (hmem i).2 ⟨hlt, h0⟩
    obtain ⟨L1, L2, rfl⟩ := List.append_of_mem hiL
    have hnd' := List.nodup_append.1 hnd
    have hi1 : i ∉ L1 := fun hx => (hnd'.2.2 i hx i List.mem_cons_self) rfl
    have hi2 : i ∉ L2 := (List.nodup_cons.1 hnd'.2.1).1
    have hpw' := List.pairwise_append.1 hpw
    have hL1 : ∀ x ∈ L1, before m x i = false := fun x hx => hpw'.2.2 x hx i List.mem_cons_self
    have hanc : ∀ k, before m i k = true → k < l.length → listed.getD k false = true := by
      intro k hk hkl
      obtain ⟨_, e, he, hek⟩ := hc.trans i o ho k hk hkl
      obtain ⟨ed, hed, rfl⟩ := List.mem_map.1 he
      obtain ⟨hed1, hed2⟩ := List.mem_filter.1 hed
      have hl := hedge ed (by simpa using hed1) hed2
      rcases hek with rfl | hek
      · exact hl
      · exact hcl _ _ hl hek hkl
    have hno : ∀ x ∈ L1, before m i x = false := by
      intro x hx
      cases hb : before m i x with
      | false => rfl
      | true =>
        have hxl := ((hmem x).1 (by simp [hx]))
        have := hanc x hb hxl.1
        have hxs : x < listed.size := by omega
        simp [hxs] at this hxl
        rw [this] at hxl
        simp at hxl
    have hloud : louds l i = true → ∀ x ∈ L1, louds l x = false := by
      intro hli x hx
      rw [List.filter_append, List.filter_cons_of_pos hli, List.filter_cons_of_pos hli] at hf
      cases hlx : louds l x with
      | false => rfl
      | true =>
        exfalso
        have hm : x ∈ L1.filter (louds l) := List.mem_filter.2 ⟨hx, hlx⟩
        cases hL : L1.filter (louds l) with
        | nil => rw [hL] at hm; simp at hm
        | cons y ys =>
          rw [hL, List.cons_append] at hf
          have : y = i := (List.cons.inj hf).1
          have hy : y ∈ L1.filter (louds l) := by rw [hL]; exact List.mem_cons_self
          rw [this] at hy
          exact hi1 (List.mem_filter.1 hy).1
    have hf' : (L1 ++ L2).filter (louds l) = s.filter (louds l) := by
      rw [List.filter_append] at hf ⊢
      cases hli : louds l i with
      | false => rw [List.filter_cons_of_neg (by rw [hli]; simp), List.filter_cons_of_neg (by rw [hli]; simp)] at hf; exact hf
      | true =>
        have hn : L1.filter (louds l) = [] := List.filter_eq_nil_iff.2 (fun x hx => by rw [hloud hli x hx]; simp)
        rw [List.filter_cons_of_pos hli, List.filter_cons_of_pos hli, hn] at hf
        rw [hn]
        exact (List.cons.inj hf).2
    have next : ∀ a' w' H' Bs', RW P l.toArray Q (before m) (louds l) k0 (L1 ++ L2) a' w' H' Bs' → wpOps P l.toArray Q s a' w' := by
      intro a' w' H' Bs' hr
      refine ih (L1 ++ L2) _ a' w' H' Bs' hlin' (by simp [hsz]) ?_ ?_ ?_ ?_ hf' hr
      · exact List.nodup_append.2 ⟨hnd'.1, (List.nodup_cons.1 hnd'.2.1).2, fun x hx y hy => hnd'.2.2 x hx y (List.mem_cons_of_mem _ hy)⟩
      · exact List.pairwise_append.2 ⟨hpw'.1, (List.pairwise_cons.1 hpw'.2.1).2, fun x hx y hy => hpw'.2.2 x hx y (List.mem_cons_of_mem _ hy)⟩
      · intro j
        by_cases e : i = j
        · subst e
          constructor
          · intro hj
            rcases List.mem_append.1 hj with hj | hj
            · exact absurd hj hi1
            · exact absurd hj hi2
          · rintro ⟨_, hj⟩
            simp [hsz, hlt] at hj
        · rw [getD_set_ne true e]
          have := hmem j
          simp only [List.mem_append, List.mem_cons] at this ⊢
          constructor
          · intro hj; exact this.1 (by rcases hj with hj | hj; exact .inl hj; exact .inr (.inr hj))
          · intro hj
            rcases this.2 hj with hj | rfl | hj
            · exact .inl hj
            · exact absurd rfl e
            · exact .inr hj
      · intro j k hj hjk hk
        by_cases e : i = j
        · subst e; exact getD_set_true (hanc k hjk hk)
        · rw [getD_set_ne false e] at hj
          exact getD_set_true (hcl j k hj hjk hk)
    have hoa : l.toArray[i]? = some o := ho'
    rw [wpOps_cons]
    have hxlen : ∀ x ∈ L1, x < l.length := fun x hx => ((hmem x).1 (by simp [hx])).1
    by_cases hk : k0 ≤ i
    · have hL1e : L1 = [] := by
        cases L1 with
        | nil => rfl
        | cons x L1 =>
          exfalso
          have h1 := hno x List.mem_cons_self
          have h2 := hL1 x List.mem_cons_self
          have hx := hxlen x List.mem_cons_self
          rcases Nat.lt_trichotomy x i with h' | h' | h'
          · rw [hc.tail i x hlt hk h'] at h1; cases h1
          · exact hi1 (by rw [← h']; exact List.mem_cons_self)
          · rw [hc.tail x i hx (by omega) h'] at h2; cases h2
      subst hL1e
      simp only [List.nil_append, RW, hoa] at h
      unfold wpOp
      simp only [hoa]
      split
      · rename_i hw
        rw [if_pos hw] at h
        rcases h with ⟨_, h | h⟩ | ⟨h, _⟩ | ⟨h, _⟩
        · exact .inl (Oper.wp_mono (fun a' w' hr => next a' w' _ _ hr) h)
        · exact .inr (Oper.rnd_mono (fun a' w' hr => next a' w' _ _ hr) h)
        · omega
        · omega
      · rename_i hw
        rw [if_neg hw] at h
        exact next _ _ _ _ h
    · have hik : i < k0 := by omega
      have hind : ∀ x ∈ L1, Indep l.toArray (before m) (louds l) x i ∧ x < k0 := by
        intro x hx
        have hxl := hxlen x hx
        obtain ⟨ox, hox⟩ : ∃ ox, l[x]? = some ox := ⟨_, List.getElem?_eq_getElem hxl⟩
        have hxk : x < k0 := by
          rcases Nat.lt_or_ge x k0 with h' | h'
          · exact h'
          · have := hL1 x hx
            rw [hc.tail x i hxl h' (by omega)] at this; cases this
        have hap : ox.apart l.toArray o = true := by
          rcases Nat.lt_trichotomy x i with h' | h' | h'
          · exact hc.ind i x o ox ho hox hik h' (hno x hx)
          · exact absurd (by rw [← h']; exact hx) hi1
          · exact apart_symm (hc.ind x i ox o hox ho hxk h' (hL1 x hx))
        refine ⟨⟨hno x hx, hL1 x hx, ?_, ?_⟩, hxk⟩
        · intro ox' oi' h1 h2
          have e1 : ox = ox' := by simpa [hox] using h1
          have e2 : o = oi' := by simpa [ho] using h2
          rw [← e1, ← e2]; exact hap
        · cases hli : louds l i with
          | false => exact .inr rfl
          | true => exact .inl (hloud hli x hx)
      have hsel : ∀ (i : Nat) (o : Oper), l.toArray[i]? = some o → ∀ cs b, o.op ≠ .select cs b := fun i o h => hc.sel i o (by simpa using h)
      unfold wpOp
      simp only [hoa]
      cases hl : louds l i with
      | false =>
        rcases RW.pull_quiet hsel hoa hik hl L1 a w H Bs hind h with ⟨h1, h2⟩ | ⟨h1, v, B, ⟨hb, _, hr⟩, h2⟩
        · rw [h1]; exact next _ _ _ _ h2
        · rw [h1]
          exact .inl (by simp only [Oper.wp, hr w hb, Oper.upon]; exact next _ _ _ _ h2)
      | true =>
        rcases RW.pull_loud hsel hoa hik hl L1 a w H Bs hind h with ⟨h1, h2⟩ | ⟨h1, h2⟩
        · rw [h1]; exact next _ _ _ _ h2
        · rw [h1]
          exact .inl (nwp_Q (nwp_mono (fun a' w' hh => next a' w' _ _ hh.2) h2))

/-! all orders of a list -/
def insAll (x : Nat) : List Nat → List (List Nat)
  | [] => [[x]]
  | y :: ys => (x :: y :: ys) :: (insAll x ys).map (y :: ·)

def allOrders : List Nat → List (List Nat)
  | [] => [[]]
  | x :: xs => (allOrders xs).flatMap (insAll x)

theorem mem_insAll (x : Nat) (b : List Nat) : ∀ a : List Nat, a ++ x :: b ∈ insAll x (a ++ b)
  | [] => by cases b <;> simp [insAll]
  | y :: a => by
    simp only [List.cons_append, insAll, List.mem_cons, List.mem_map]
    exact .inr ⟨_, mem_insAll x b a, rfl⟩

theorem mem_allOrders : ∀ (l s : List Nat), s.Perm l → s ∈ allOrders l
  | [], s, h => by simp [allOrders, h.eq_nil]
  | x :: l, s, h => by
    have hx : x ∈ s := h.symm.subset List.mem_cons_self
    obtain ⟨a, b, rfl⟩ := List.append_of_mem hx
    have h2 : (a ++ b).Perm l := by
      have : (x :: (a ++ b)).Perm (x :: l) := (List.perm_middle.symm).trans h
      exact (List.perm_cons x).1 this
    simp only [allOrders, List.mem_flatMap]
    exact ⟨a ++ b, mem_allOrders l _ h2, mem_insAll x b a⟩

def pw (m : List Nat) : List Nat → Bool
  | [] => true
  | x :: L => L.all (fun i => !before m x i && !Nat.beq x i) && pw m L

theorem pw_spec (m : List Nat) : ∀ L : List Nat, pw m L = true → L.Nodup ∧ L.Pairwise (fun x i => before m x i = false)
  | [], _ => ⟨List.nodup_nil, List.Pairwise.nil⟩
  | x :: L, h => by
    simp only [pw, Bool.and_eq_true] at h
    obtain ⟨h1, h2⟩ := pw_spec m L h.2
    have h3 := List.all_eq_true.1 h.1
    refine ⟨List.nodup_cons.2 ⟨fun hx => ?_, h1⟩, List.pairwise_cons.2 ⟨fun i hi => ?_, h2⟩⟩
    · have := h3 x hx; simp at this
    · have := h3 i hi; simp only [Bool.and_eq_true, Bool.not_eq_true'] at this; exact this.1

/-- the orders LL have one for each order of the loud operations that the edges allow -/
def cover (l : List Oper) (m : List Nat) (LL : List (List Nat)) : Bool :=
  (LL.all fun L => pw m L && L.all (fun i => Nat.blt i l.length) && (List.range l.length).all (fun i => L.contains i)) &&
  ((allOrders ((List.range l.length).filter (louds l))).all fun s => !pw m s || LL.any fun L => L.filter (louds l) == s)

theorem Lin.nodup {hc : ChkA l m k0} : ∀ (s : List Nat) (listed : Array Bool), listed.size = l.length → Lin l listed s →
    (∀ j k, listed.getD j false = true → before m j k = true → k < l.length → listed.getD k false = true) →
    s.Nodup ∧ (∀ i, i ∈ s ↔ i < l.length ∧ listed.getD i true = false) ∧ s.Pairwise (fun x i => before m x i = false)
  | [], listed, _, h, _ => ⟨List.nodup_nil, fun i => ⟨fun hi => by simp at hi, fun ⟨h1, h2⟩ => by rw [h i h1] at h2; cases h2⟩, List.Pairwise.nil⟩
  | i :: s, listed, hsz, h, hcl => by
    obtain ⟨hr, hl⟩ := h
    obtain ⟨h0, o, ho', hedge⟩ := mem_ready.1 hr
    have ho : l[i]? = some o := by simpa using ho'
    have hlt := getElem?_lt ho
    have hanc : ∀ k, before m i k = true → k < l.length → listed.getD k false = true := by
      intro k hk hkl
      obtain ⟨_, e, he, hek⟩ := hc.trans i o ho k hk hkl
      obtain ⟨ed, hed, rfl⟩ := List.mem_map.1 he
      obtain ⟨hed1, hed2⟩ := List.mem_filter.1 hed
      have hl := hedge ed (by simpa using hed1) hed2
      rcases hek with rfl | hek
      · exact hl
      · exact hcl _ _ hl hek hkl
    obtain ⟨h1, h2, h3⟩ := Lin.nodup (hc := hc) s (listed.setIfInBounds i true) (by simp [hsz]) hl (fun j k hj hjk hk => by
      by_cases e : i = j
      · subst e; exact getD_set_true (hanc k hjk hk)
      · rw [getD_set_ne false e] at hj
        exact getD_set_true (hcl j k hj hjk hk))
    have hni : i ∉ s := fun hi => by
      have := ((h2 i).1 hi).2
      simp [hsz, hlt] at this
    refine ⟨List.nodup_cons.2 ⟨hni, h1⟩, fun j => ?_, List.pairwise_cons.2 ⟨fun x hx => ?_, h3⟩⟩
    · by_cases e : i = j
      · subst e; simp [hlt, h0]
      · rw [List.mem_cons, h2 j, getD_set_ne true e]
        constructor
        · rintro (h | h)
          · exact absurd h.symm e
          · exact h
        · exact fun h => .inr h
    · cases hb : before m i x with
      | false => rfl
      | true =>
        have hxs := (h2 x).1 hx
        have hxi : i ≠ x := fun e => hni (e ▸ hx)
        rw [getD_set_ne true hxi] at hxs
        have := hanc x hb hxs.1
        have hlt' : x < listed.size := by omega
        simp [hlt'] at this hxs
        rw [this] at hxs
        simp at hxs

theorem wp_region_orders {rd : Option Nat} {id : Nat} {a : Act} {w : World} (LL : List (List Nat)) (hd : l.all noDefer = true) (hm : P.follows .mixedOrders = true) (hc : chkA l m k0 = true) (hv : cover l m LL = true)
    (h : ∀ L ∈ LL, RW P l.toArray Q (before m) (louds l) k0 L a w.drew [] []) : (Code.region id l.toArray true).wpr rd P Q a w := by
  refine wpr_region_draw hd fun t => ?_
  have hcc := chkA_spec hc
  simp only [Region.schedule, hm, Bool.true_or, if_true, Region.linearise]
  have h0 : ∀ i, i < l.length → (Array.replicate l.toArray.size false).getD i true = false := fun i hi => by simp [hi]
  have hcl : ∀ j k, (Array.replicate l.toArray.size false).getD j false = true → before m j k = true → k < l.length → (Array.replicate l.toArray.size false).getD k false = true := by
    intro j k hj
    simp [Array.getElem?_replicate] at hj
    split at hj <;> simp at hj
  have hlin := lin_go hcc l.toArray.size t (Array.replicate l.toArray.size false) (by unfold left; exact Nat.le_trans (List.length_filter_le _ _) (by simp)) (by simp)
  generalize Region.linearise.go .any l.toArray l.toArray.size t (Array.replicate l.toArray.size false) [] = s at hlin
  obtain ⟨hn, hmem, hp⟩ := Lin.nodup (hc := hcc) s _ (by simp) hlin hcl
  simp only [cover, Bool.and_eq_true] at hv
  have hperm : s.Perm (List.range l.length) := by
    refine (List.perm_ext_iff_of_nodup hn List.nodup_range).2 fun i => ?_
    rw [hmem i, List.mem_range]
    exact ⟨fun h => h.1, fun h => ⟨h, h0 i h⟩⟩
  have hso := mem_allOrders _ _ (hperm.filter (louds l))
  have h2 := List.all_eq_true.1 hv.2 _ hso
  have hpws : pw m (s.filter (louds l)) = true := by
    have hn' : (s.filter (louds l)).Nodup := List.Pairwise.filter _ hn
    have hp' : (s.filter (louds l)).Pairwise (fun x i => before m x i = false) := List.Pairwise.filter _ hp
    generalize s.filter (louds l) = q at hn' hp'
    induction q with
    | nil => rfl
    | cons x q ihq =>
      have a1 := List.nodup_cons.1 hn'
      have a2 := List.pairwise_cons.1 hp'
      simp only [pw, Bool.and_eq_true, List.all_eq_true, Bool.not_eq_true']
      refine ⟨fun i hi => ⟨a2.1 i hi, beq_ne (fun e => a1.1 (e ▸ hi))⟩, ihq a1.2 a2.2⟩
  rw [hpws] at h2
  simp only [Bool.not_true, Bool.false_or, List.any_eq_true] at h2
  obtain ⟨L, hL, he⟩ := h2
  have hLv := List.all_eq_true.1 hv.1 L hL
  simp only [Bool.and_eq_true, List.all_eq_true, Nat.blt_eq, List.mem_range, List.contains_iff_mem] at hLv
  obtain ⟨hLn, hLp⟩ := pw_spec m L hLv.1.1
  exact RW.sched hcc s L _ a _ [] [] hlin (by simp) hLn hLp (fun i => ⟨fun hi => ⟨hLv.1.2 i hi, h0 i (hLv.1.2 i hi)⟩, fun hi => hLv.2 i hi.1⟩) hcl (by simpa using he) (h L hL)

theorem JR.orders {rd : Option Nat} {c : Ctx} {n : Sz} {σ : Fr} {M L : List Fact} {id : Nat} (m : List Nat) (k0 : Nat) (LL : List (List Nat)) (hm : P.follows .mixedOrders = true) (hc : chkA l m k0 = true) (hv : cover l m LL = true)
    (h : ∀ o ∈ LL, JR c n σ M L [] [] (RW P l.toArray Q (before m) (louds l) k0 o)) (hd : l.all noDefer = true := by rfl) : J c n σ M L ((Code.region id l.toArray true).wpr rd P Q) := fun a w s t =>
  wp_region_orders LL hd hm hc hv fun o ho => h o ho a w.drew [] [] s (t.ext ((Below.refl _ _).drew)) trivial trivial
end
end Go.Sx
