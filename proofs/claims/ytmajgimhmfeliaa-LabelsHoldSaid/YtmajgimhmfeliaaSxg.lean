/- The layer Sx, part 7: the walk in text order is sound for a region that draws its order; the judgement for such regions. Conditions: the check of the region's edges. -/
import Derived.Test.YtmajgimhmfeliaaSxf
set_option linter.unusedVariables false
set_option linter.unusedSimpArgs false
namespace Go.Sx
open Go.RowKit

structure Chk (l : List Oper) (m : List Nat) (k0 : Nat) : Prop where
  edge : ∀ (i : Nat) (o : Oper), l[i]? = some o → ∀ e ∈ edges o, e < i ∧ before m i e = true
  trans : ∀ (i : Nat) (o : Oper), l[i]? = some o → ∀ k, before m i k = true → k < l.length → k < i ∧ ∃ e ∈ edges o, e = k ∨ before m e k = true
  sel : ∀ (i : Nat) (o : Oper), l[i]? = some o → ∀ cs b, o.op ≠ .select cs b
  tail : ∀ i x, i < l.length → k0 ≤ i → x < i → before m i x = true
  ind : ∀ (i x : Nat) (oi ox : Oper), l[i]? = some oi → l[x]? = some ox → i < k0 → x < i → before m i x = false → ox.apart l.toArray oi = true ∧ (loudOp ox.op = false ∨ loudOp oi.op = false)

theorem getElem?_lt {α : Type} {l : List α} {i : Nat} {x : α} (h : l[i]? = some x) : i < l.length := by
  rcases Nat.lt_or_ge i l.length with h' | h'
  · exact h'
  · rw [List.getElem?_eq_none h'] at h; cases h

theorem chk_spec {l : List Oper} {m : List Nat} {k0 : Nat} (h : chk l m k0 = true) : Chk l m k0 := by
  have key : ∀ (i : Nat) (o : Oper), l[i]? = some o →
      ((edges o).all (fun e => Nat.blt e i && before m i e && (List.range i).all (fun k => !before m e k || before m i k)) = true) ∧
      ((List.range l.length).all (fun k => !before m i k || (Nat.blt k i && (edges o).any (fun e => Nat.beq e k || before m e k))) = true) ∧ isSelect o.op = false ∧
      ((if Nat.ble k0 i then (List.range i).all (fun x => before m i x)
       else (List.range i).all (fun x => before m i x || (match l[x]? with | none => false | some ox => ox.apart l.toArray o && (!loudOp ox.op || !loudOp o.op)))) = true) := by
    intro i o ho
    have := List.all_eq_true.1 h i (List.mem_range.2 (getElem?_lt ho))
    simp only [ho, Bool.and_eq_true, Bool.not_eq_true'] at this
    exact ⟨this.1.1.1, this.1.1.2, this.1.2, this.2⟩
  refine ⟨?_, ?_, ?_, ?_, ?_⟩
  · intro i o ho e he
    have := List.all_eq_true.1 (key i o ho).1 e he
    simp only [Bool.and_eq_true, Nat.blt_eq] at this
    exact ⟨this.1.1, this.1.2⟩
  · intro i o ho k hk hlt
    have := List.all_eq_true.1 (key i o ho).2.1 k (List.mem_range.2 hlt)
    simp only [hk, Bool.not_true, Bool.false_or, Bool.and_eq_true, Nat.blt_eq, List.any_eq_true, Bool.or_eq_true] at this
    obtain ⟨h1, e, he, h2⟩ := this
    refine ⟨h1, e, he, ?_⟩
    rcases h2 with h2 | h2
    · exact .inl (Nat.eq_of_beq_eq_true h2)
    · exact .inr h2
  · intro i o ho cs b e
    have := (key i o ho).2.2.1
    rw [e] at this
    cases this
  · intro i x hi hk hx
    obtain ⟨o, ho⟩ : ∃ o, l[i]? = some o := ⟨_, List.getElem?_eq_getElem hi⟩
    have := (key i o ho).2.2.2
    rw [if_pos (by simpa using hk)] at this
    exact List.all_eq_true.1 this x (List.mem_range.2 hx)
  · intro i x oi ox hi hx hk hlt hb
    have := (key i oi hi).2.2.2
    rw [if_neg (by simpa using hk)] at this
    have := List.all_eq_true.1 this x (List.mem_range.2 hlt)
    simp only [hb, Bool.false_or, hx, Bool.and_eq_true, Bool.or_eq_true, Bool.not_eq_true'] at this
    exact this

section
variable {P : Program} {Q : Exit → Act → World → Prop} {l : List Oper} {m : List Nat} {k0 : Nat}

theorem RW.any (hc : Chk l m k0) : ∀ (fuel : Nat) (L : List Nat) (listed : Array Bool) (a : Act) (w : World) (H : List (Nat × World)) (Bs : List (Nat × (World → Prop))),
    L.length ≤ fuel → listed.size = l.length → L.Pairwise (· < ·) → (∀ i, i ∈ L ↔ i < l.length ∧ listed.getD i true = false) →
    (∀ j k, listed.getD j false = true → before m j k = true → k < l.length → listed.getD k false = true) →
    RW P l.toArray Q (before m) (louds l) k0 L a w H Bs → wpAny P .any l.toArray Q fuel listed a w := by
  intro fuel
  induction fuel with
  | zero =>
    intro L listed a w H Bs hlen hsz hsort hmem hcl h
    have hL : L = [] := List.eq_nil_of_length_eq_zero (by omega)
    subst hL
    refine ⟨?_, h⟩
    rw [List.eq_nil_iff_forall_not_mem]
    intro i hi
    obtain ⟨h0, o, ho, _⟩ := mem_ready.1 hi
    have : i < l.length := by have := (Array.getElem?_eq_some_iff.1 ho).1; simpa using this
    have := (hmem i).2 ⟨this, h0⟩
    simp at this
  | succ fuel ih =>
    intro L listed a w H Bs hlen hsz hsort hmem hcl h
    refine ⟨fun hr => ?_, fun i hi => ?_⟩
    · cases L with
      | nil => exact h
      | cons i L =>
        exfalso
        obtain ⟨hlt, h0⟩ := (hmem i).1 List.mem_cons_self
        obtain ⟨o, ho⟩ : ∃ o, l[i]? = some o := ⟨_, List.getElem?_eq_getElem hlt⟩
        have : i ∈ Region.ready .any l.toArray listed := by
          refine mem_ready.2 ⟨h0, o, by simpa using ho, fun e he hb => ?_⟩
          have hee : e.on ∈ edges o := List.mem_map.2 ⟨e, List.mem_filter.2 ⟨by simpa using he, hb⟩, rfl⟩
          have hei := (hc.edge i o ho e.on hee).1
          cases hg : listed.getD e.on true with
          | false =>
            have hm := (hmem e.on).2 ⟨by omega, hg⟩
            rcases List.mem_cons.1 hm with e1 | e1
            · omega
            · have := (List.pairwise_cons.1 hsort).1 _ e1; omega
          | true =>
            have : e.on < listed.size := by omega
            simp [this] at hg ⊢
            exact hg
        rw [hr] at this
        simp at this
    · obtain ⟨h0, o, ho', hedge⟩ := mem_ready.1 hi
      have ho : l[i]? = some o := by simpa using ho'
      have hlt : i < l.length := getElem?_lt ho
      have hiL : i ∈ L := (hmem i).2 ⟨hlt, h0⟩
      obtain ⟨L1, L2, rfl⟩ := List.append_of_mem hiL
      have hs := List.pairwise_append.1 hsort
      have hL1 : ∀ x ∈ L1, x < i := fun x hx => hs.2.2 x hx i List.mem_cons_self
      have hL2 : ∀ x ∈ L2, i < x := fun x hx => (List.pairwise_cons.1 hs.2.1).1 x hx
      have hanc : ∀ k, before m i k = true → k < l.length → listed.getD k false = true := by
        intro k hk hkl
        obtain ⟨_, e, he, hek⟩ := hc.trans i o ho k hk hkl
        obtain ⟨ed, hed, rfl⟩ := List.mem_map.1 he
        obtain ⟨hed1, hed2⟩ := List.mem_filter.1 hed
        have hl := hedge ed (by simpa using hed1) hed2
        rcases hek with rfl | hek
        · exact hl
        · exact hcl _ _ hl hek hkl
      have hno : ∀ x ∈ L1, before m i x = false := by
        intro x hx
        cases hb : before m i x with
        | false => rfl
        | true =>
          have hxl := ((hmem x).1 (by simp [hx]))
          have := hanc x hb hxl.1
          have hxs : x < listed.size := by omega
          simp [hxs] at this hxl
          rw [this] at hxl
          simp at hxl
      -- the rest
      have next : ∀ a' w' H' Bs', RW P l.toArray Q (before m) (louds l) k0 (L1 ++ L2) a' w' H' Bs' → wpAny P .any l.toArray Q fuel (listed.setIfInBounds i true) a' w' := by
        intro a' w' H' Bs' hr
        refine ih (L1 ++ L2) _ a' w' H' Bs' ?_ (by simp [hsz]) ?_ ?_ ?_ hr
        · simp at hlen ⊢; omega
        · exact List.pairwise_append.2 ⟨hs.1, (List.pairwise_cons.1 hs.2.1).2, fun x hx y hy => by have := hL1 x hx; have := hL2 y hy; omega⟩
        · intro j
          by_cases e : i = j
          · subst e
            constructor
            · intro hj
              rcases List.mem_append.1 hj with hj | hj
              · have := hL1 i hj; omega
              · have := hL2 i hj; omega
            · rintro ⟨_, hj⟩
              simp [hsz, hlt] at hj
          · rw [getD_set_ne true e]
            have := hmem j
            simp only [List.mem_append, List.mem_cons] at this ⊢
            constructor
            · intro hj; exact this.1 (by rcases hj with hj | hj; exact .inl hj; exact .inr (.inr hj))
            · intro hj
              rcases this.2 hj with hj | rfl | hj
              · exact .inl hj
              · exact absurd rfl e
              · exact .inr hj
        · intro j k hj hjk hk
          by_cases e : i = j
          · subst e; exact getD_set_true (hanc k hjk hk)
          · rw [getD_set_ne false e] at hj
            exact getD_set_true (hcl j k hj hjk hk)
      have hoa : l.toArray[i]? = some o := ho'
      by_cases hk : k0 ≤ i
      · have hL1e : L1 = [] := by
          cases L1 with
          | nil => rfl
          | cons x L1 =>
            have h1 := hno x List.mem_cons_self
            have h2 := hc.tail i x hlt hk (hL1 x List.mem_cons_self)
            rw [h1] at h2; cases h2
        subst hL1e
        simp only [List.nil_append, RW, hoa] at h
        unfold wpOp
        simp only [hoa]
        split
        · rename_i hw
          rw [if_pos hw] at h
          rcases h with ⟨_, h | h⟩ | ⟨h, _⟩ | ⟨h, _⟩
          · exact .inl (Oper.wp_mono (fun a' w' hr => next a' w' _ _ hr) h)
          · exact .inr (Oper.rnd_mono (fun a' w' hr => next a' w' _ _ hr) h)
          · omega
          · omega
        · rename_i hw
          rw [if_neg hw] at h
          exact next _ _ _ _ h
      · have hik : i < k0 := by omega
        have hind : ∀ x ∈ L1, Indep l.toArray (before m) (louds l) x i ∧ x < k0 := by
          intro x hx
          have hxi := hL1 x hx
          obtain ⟨ox, hox⟩ : ∃ ox, l[x]? = some ox := ⟨_, List.getElem?_eq_getElem (by omega)⟩
          have hi2 := hc.ind i x o ox ho hox hik hxi (hno x hx)
          refine ⟨⟨hno x hx, ?_, ?_, ?_⟩, by omega⟩
          · cases hb : before m x i with
            | false => rfl
            | true => have := (hc.trans x ox hox i hb hlt).1; omega
          · intro ox' oi' h1 h2
            have e1 : ox = ox' := by simpa [hox] using h1
            have e2 : o = oi' := by simpa [ho] using h2
            rw [← e1, ← e2]; exact hi2.1
          · rcases hi2.2 with h1 | h1
            · exact .inl (by simp [louds, hox, h1])
            · exact .inr (by simp [louds, ho, h1])
        have hsel : ∀ (i : Nat) (o : Oper), l.toArray[i]? = some o → ∀ cs b, o.op ≠ .select cs b := fun i o h => hc.sel i o (by simpa using h)
        unfold wpOp
        simp only [hoa]
        cases hl : louds l i with
        | false =>
          rcases RW.pull_quiet hsel hoa hik hl L1 a w H Bs hind h with ⟨h1, h2⟩ | ⟨h1, v, B, ⟨hb, _, hr⟩, h2⟩
          · rw [h1]; exact next _ _ _ _ h2
          · rw [h1]
            exact .inl (by simp only [Oper.wp, hr w hb, Oper.upon]; exact next _ _ _ _ h2)
        | true =>
          rcases RW.pull_loud hsel hoa hik hl L1 a w H Bs hind h with ⟨h1, h2⟩ | ⟨h1, h2⟩
          · rw [h1]; exact next _ _ _ _ h2
          · rw [h1]
            exact .inl (nwp_Q (nwp_mono (fun a' w' hh => next a' w' _ _ hh.2) h2))

theorem wp_region_text {rd : Option Nat} {id : Nat} {a : Act} {w : World} (hd : l.all noDefer = true) (hm : P.follows .mixedOrders = true) (hc : chk l m k0 = true)
    (h : RW P l.toArray Q (before m) (louds l) k0 (List.range l.length) a w.drew [] []) : (Code.region id l.toArray true).wpr rd P Q a w := by
  refine wpr_region_any hd hm ?_
  refine RW.any (chk_spec hc) _ (List.range l.length) _ a _ [] [] (by simp) (by simp) List.pairwise_lt_range ?_ ?_ h
  · intro i
    simp only [List.mem_range]
    constructor
    · intro hi; exact ⟨hi, by simp [hi]⟩
    · exact fun h => h.1
  · intro j k hj
    simp [Array.getElem?_replicate] at hj
    split at hj <;> simp at hj

/-! ## The judgement inside a region that draws -/
/-- the worlds before the loud operations, each with its state -/
def Hist (c : Ctx) : List (Nat × List Fact × List Fact) → List (Nat × World) → Prop
  | [], [] => True
  | h :: H, x :: X => h.1 = x.1 ∧ St c h.2.1 h.2.2 x.2 ∧ Hist c H X
  | _, _ => False

/-- what the quiet operations lean on -/
def BaseOk (c : Ctx) : List (Nat × List Fact × List Fact) → List (Nat × (World → Prop)) → Prop
  | [], [] => True
  | b :: B, x :: X => x = (b.1, St c b.2.1 b.2.2) ∧ BaseOk c B X
  | _, _ => False

def JR (c : Ctx) (n : Sz) (σ : Fr) (M L : List Fact) (H Bs : List (Nat × List Fact × List Fact)) (G : Act → World → List (Nat × World) → List (Nat × (World → Prop)) → Prop) : Prop :=
  ∀ a w X Y, Sub n σ a → St c M L w → Hist c H X → BaseOk c Bs Y → G a w X Y

variable {c : Ctx} {n : Sz} {σ : Fr} {M L Mx Lx : List Fact} {H Bs : List (Nat × List Fact × List Fact)}

theorem JR.start {rd : Option Nat} {id : Nat} (m : List Nat) (k0 : Nat) (hm : P.follows .mixedOrders = true) (hc : chk l m k0 = true)
    (h : JR c n σ M L [] [] (RW P l.toArray Q (before m) (louds l) k0 (List.range l.length))) (hd : l.all noDefer = true := by rfl) : J c n σ M L ((Code.region id l.toArray true).wpr rd P Q) := fun a w s t =>
  wp_region_text hd hm hc (h a w.drew [] [] s (t.ext ((Below.refl _ _).drew)) trivial trivial)

theorem JR.done (h : J c n σ M L (Q .normal)) : JR c n σ M L H Bs (RW P l.toArray Q (before m) (louds l) k0 []) := fun a w _ _ s t _ _ => h a w s t

/-- M' and L' hold what the state (Mx, Lx) asks -/
structure Holds2 (M L Mx Lx : List Fact) : Prop where
  hM : SubM M Mx
  hL : SubL L Lx

theorem Holds2.st {M L Mx Lx : List Fact} (h : Holds2 M L Mx Lx) {w : World} (t : St c M L w) : St c Mx Lx w := t.weak h.hM h.hL

def HistOk (A : Nat → Bool) (Mx Lx : List Fact) : List (Nat × List Fact × List Fact) → Prop
  | [] => True
  | h :: H => (A h.1 = true ∨ Holds2 h.2.1 h.2.2 Mx Lx) ∧ HistOk A Mx Lx H

def BsOk (A : Nat → Bool) (M L : List Fact) : List (Nat × List Fact × List Fact) → Prop
  | [] => True
  | b :: B => (A b.1 = true ∨ Holds2 M L b.2.1 b.2.2) ∧ BsOk A M L B

theorem HistOk.use {A : Nat → Bool} {Mx Lx : List Fact} : ∀ {H : List (Nat × List Fact × List Fact)} {X : List (Nat × World)}, HistOk A Mx Lx H → Hist c H X → ∀ x ∈ X, A x.1 = false → St c Mx Lx x.2
  | [], [], _, _, x, hx, _ => by simp at hx
  | [], _ :: _, _, h, _, _, _ => h.elim
  | _ :: _, [], _, h, _, _, _ => h.elim
  | h :: H, y :: X, ho, hi, x, hx, hA => by
    rcases List.mem_cons.1 hx with rfl | hx
    · rcases ho.1 with h1 | h1
      · rw [hi.1, hA] at h1; cases h1
      · exact h1.st hi.2.1
    · exact HistOk.use ho.2 hi.2.2 x hx hA

theorem BsOk.use {A : Nat → Bool} {M L : List Fact} {w : World} (t : St c M L w) : ∀ {B : List (Nat × List Fact × List Fact)} {X : List (Nat × (World → Prop))}, BsOk A M L B → BaseOk c B X → ∀ x ∈ X, A x.1 = false → x.2 w
  | [], [], _, _, x, hx, _ => by simp at hx
  | [], _ :: _, _, h, _, _, _ => h.elim
  | _ :: _, [], _, h, _, _, _ => h.elim
  | b :: B, y :: X, ho, hi, x, hx, hA => by
    rcases List.mem_cons.1 hx with rfl | hx
    · rcases ho.1 with h1 | h1
      · rw [hi.1] at hA; rw [h1] at hA; cases hA
      · rw [hi.1]; exact h1.st t
    · exact BsOk.use t ho.2 hi.2 x hx hA

theorem JR.quiet {i : Nat} {rest : List Nat} {d : Nat} {op : Op} {ty : TypeId} {pos : String} {aft : Array Edge} {v : Value} (Mx Lx : List Fact)
    (hi : l[i]? = some ⟨some d, op, ty, pos, aft, none⟩) (hk : Nat.blt i k0 = true) (hl : loudOp op = false) (hy : Y P c n σ Mx Lx ⟨some d, op, ty, pos, aft, none⟩ v) (hM : Holds2 M L Mx Lx) (hH : HistOk (before m i) Mx Lx H) (hd : Nat.blt d n.sz = true)
    (h : JR c n ((d, v) :: σ) M L H ((i, Mx, Lx) :: Bs) (RW P l.toArray Q (before m) (louds l) k0 rest)) : JR c n σ M L H Bs (RW P l.toArray Q (before m) (louds l) k0 (i :: rest)) := fun a w X Y s t hX hY => by
  have hi' : l.toArray[i]? = some ⟨some d, op, ty, pos, aft, none⟩ := by simpa using hi
  simp only [RW, hi']
  rw [if_pos (by simp [Region.wanted])]
  refine .inr (.inl ⟨by simpa [Nat.blt_eq] using hk, by simp [louds, hi, hl], v, St c Mx Lx, ⟨hM.st t, hH.use hX, fun w' t' => hy a w' s t'⟩, h _ w X _ (s.put d v hd) t hX ⟨rfl, hY⟩⟩)

theorem JR.guardY {i : Nat} {rest : List Nat} {d : Nat} {op : Op} {ty : TypeId} {pos : String} {aft : Array Edge} {j : Nat} {b : Bool} {v : Value} (Mx Lx : List Fact)
    (hi : l[i]? = some ⟨some d, op, ty, pos, aft, some (j, b)⟩) (hk : Nat.blt i k0 = true) (hl : loudOp op = false) (hg : gv l.toArray σ j = some b) (hy : Y P c n σ Mx Lx ⟨some d, op, ty, pos, aft, some (j, b)⟩ v) (hM : Holds2 M L Mx Lx) (hH : HistOk (before m i) Mx Lx H) (hd : Nat.blt d n.sz = true)
    (h : JR c n ((d, v) :: σ) M L H ((i, Mx, Lx) :: Bs) (RW P l.toArray Q (before m) (louds l) k0 rest)) : JR c n σ M L H Bs (RW P l.toArray Q (before m) (louds l) k0 (i :: rest)) := fun a w X Y s t hX hY => by
  have hi' : l.toArray[i]? = some ⟨some d, op, ty, pos, aft, some (j, b)⟩ := by simpa using hi
  simp only [RW, hi']
  rw [if_pos (by simp [Region.wanted, gv_yielded s hg])]
  refine .inr (.inl ⟨by simpa [Nat.blt_eq] using hk, by simp [louds, hi, hl], v, St c Mx Lx, ⟨hM.st t, hH.use hX, fun w' t' => hy a w' s t'⟩, h _ w X _ (s.put d v hd) t hX ⟨rfl, hY⟩⟩)

theorem JR.guardN {i : Nat} {rest : List Nat} {d : Nat} {op : Op} {ty : TypeId} {pos : String} {aft : Array Edge} {j : Nat} {b b' : Bool}
    (hi : l[i]? = some ⟨some d, op, ty, pos, aft, some (j, b)⟩) (hg : gv l.toArray σ j = some b') (hb : (b' == b) = false) (hd : Nat.blt d n.sz = true)
    (h : JR c n ((d, undef) :: σ) M L H Bs (RW P l.toArray Q (before m) (louds l) k0 rest)) : JR c n σ M L H Bs (RW P l.toArray Q (before m) (louds l) k0 (i :: rest)) := fun a w X Y s t hX hY => by
  have hi' : l.toArray[i]? = some ⟨some d, op, ty, pos, aft, some (j, b)⟩ := by simpa using hi
  simp only [RW, hi']
  rw [if_neg (by simp [Region.wanted, gv_yielded s hg, hb])]
  exact h _ w X Y (s.put d undef hd) t hX hY

theorem JR.guard {i dj : Nat} {rest : List Nat} {d : Option Tmp} {op : Op} {ty : TypeId} {pos : String} {aft : Array Edge} {j : Nat} {b' b : Bool}
    (_ : l[i]? = some ⟨d, op, ty, pos, aft, some (j, b)⟩) (_ : (l[j]?).bind (·.dst) = some dj) (hg : lk σ dj = some (.bool b'))
    (ht : b' = true → JR c n ((dj, .bool true) :: σ) M L H Bs (RW P l.toArray Q (before m) (louds l) k0 (i :: rest)))
    (hf : b' = false → JR c n ((dj, .bool false) :: σ) M L H Bs (RW P l.toArray Q (before m) (louds l) k0 (i :: rest))) : JR c n σ M L H Bs (RW P l.toArray Q (before m) (louds l) k0 (i :: rest)) := by
  cases b'
  · exact fun a w X Y s t hX hY => hf rfl a w X Y (s.over (s.slot _ _ hg)) t hX hY
  · exact fun a w X Y s t hX hY => ht rfl a w X Y (s.over (s.slot _ _ hg)) t hX hY

theorem JR.guardD {i dj : Nat} {rest : List Nat} {d : Option Tmp} {op : Op} {ty : TypeId} {pos : String} {aft : Array Edge} {j : Nat} {p : Prop} {_ : Decidable p} {b : Bool}
    (hi : l[i]? = some ⟨d, op, ty, pos, aft, some (j, b)⟩) (hj : (l[j]?).bind (·.dst) = some dj) (hg : lk σ dj = some (.bool (decide p)))
    (ht : p → JR c n ((dj, .bool true) :: σ) M L H Bs (RW P l.toArray Q (before m) (louds l) k0 (i :: rest)))
    (hf : ¬ p → JR c n ((dj, .bool false) :: σ) M L H Bs (RW P l.toArray Q (before m) (louds l) k0 (i :: rest))) : JR c n σ M L H Bs (RW P l.toArray Q (before m) (louds l) k0 (i :: rest)) :=
  JR.guard hi hj hg (fun h => ht (of_decide_eq_true h)) (fun h => hf (of_decide_eq_false h))

/-! loud operations -/
/-- o yields 'val x' for some x, and leaves the state (M' x, L' x) -/
def Loud (P : Program) (c : Ctx) (n : Sz) (σ : Fr) (M L : List Fact) (o : Oper) {A : Type} (val : A → Value) (M' L' : A → List Fact) : Prop :=
  ∀ a w, Sub n σ a → St c M L w → o.wp P a w (fun a' w' => ∃ x : A, a' = a.put o.dst (val x) ∧ St c (M' x) (L' x) w') NoQ

theorem J.loud {A : Type} {val : A → Value} {M' L' : A → List Fact} {ops : Array Oper} {rest : List Oper} {d : Nat} {op : Op} {ty : TypeId} {pos : String} {aft : Array Edge}
    (ho : Loud P c n σ M L ⟨some d, op, ty, pos, aft, none⟩ val M' L') (hd : Nat.blt d n.sz = true) (h : ∀ x, J c n ((d, val x) :: σ) (M' x) (L' x) (wpList P ops Q rest)) :
    J c n σ M L (wpList P ops Q (⟨some d, op, ty, pos, aft, none⟩ :: rest)) := fun a w s t =>
  wpList_take rfl (nwp_Q (nwp_mono (fun a' w' ⟨x, he, ht⟩ => by subst he; exact h x _ w' (s.put d _ hd) ht) (ho a w s t)))

theorem J.loudG {A : Type} {val : A → Value} {M' L' : A → List Fact} {ops : Array Oper} {rest : List Oper} {d : Nat} {op : Op} {ty : TypeId} {pos : String} {aft : Array Edge} {j : Nat} {b : Bool}
    (hg : gv ops σ j = some b) (ho : Loud P c n σ M L ⟨some d, op, ty, pos, aft, some (j, b)⟩ val M' L') (hd : Nat.blt d n.sz = true) (h : ∀ x, J c n ((d, val x) :: σ) (M' x) (L' x) (wpList P ops Q rest)) :
    J c n σ M L (wpList P ops Q (⟨some d, op, ty, pos, aft, some (j, b)⟩ :: rest)) := fun a w s t =>
  wpList_take (by simp [Region.wanted, gv_yielded s hg]) (nwp_Q (nwp_mono (fun a' w' ⟨x, he, ht⟩ => by subst he; exact h x _ w' (s.put d _ hd) ht) (ho a w s t)))

theorem JR.loud {A : Type} {val : A → Value} {M' L' : A → List Fact} {i : Nat} {rest : List Nat} {d : Nat} {op : Op} {ty : TypeId} {pos : String} {aft : Array Edge}
    (hi : l[i]? = some ⟨some d, op, ty, pos, aft, none⟩) (hk : Nat.blt i k0 = true) (hl : loudOp op = true) (ho : Loud P c n σ M L ⟨some d, op, ty, pos, aft, none⟩ val M' L') (hd : Nat.blt d n.sz = true)
    (hB : ∀ x, BsOk (before m i) (M' x) (L' x) Bs) (h : ∀ x, JR c n ((d, val x) :: σ) (M' x) (L' x) ((i, M, L) :: H) Bs (RW P l.toArray Q (before m) (louds l) k0 rest)) :
    JR c n σ M L H Bs (RW P l.toArray Q (before m) (louds l) k0 (i :: rest)) := fun a w X Y s t hX hY => by
  have hi' : l.toArray[i]? = some ⟨some d, op, ty, pos, aft, none⟩ := by simpa using hi
  simp only [RW, hi']
  rw [if_pos (by simp [Region.wanted])]
  refine .inr (.inr ⟨by simpa [Nat.blt_eq] using hk, by simp [louds, hi, hl], nwp_mono ?_ (ho a w s t)⟩)
  rintro a' w' ⟨x, rfl, ht⟩
  exact ⟨(hB x).use ht hY, h x _ w' _ Y (s.put d _ hd) ht ⟨rfl, t, hX⟩ hY⟩

theorem JR.loudG {A : Type} {val : A → Value} {M' L' : A → List Fact} {i : Nat} {rest : List Nat} {d : Nat} {op : Op} {ty : TypeId} {pos : String} {aft : Array Edge} {j : Nat} {b : Bool}
    (hi : l[i]? = some ⟨some d, op, ty, pos, aft, some (j, b)⟩) (hk : Nat.blt i k0 = true) (hl : loudOp op = true) (hg : gv l.toArray σ j = some b) (ho : Loud P c n σ M L ⟨some d, op, ty, pos, aft, some (j, b)⟩ val M' L') (hd : Nat.blt d n.sz = true)
    (hB : ∀ x, BsOk (before m i) (M' x) (L' x) Bs) (h : ∀ x, JR c n ((d, val x) :: σ) (M' x) (L' x) ((i, M, L) :: H) Bs (RW P l.toArray Q (before m) (louds l) k0 rest)) :
    JR c n σ M L H Bs (RW P l.toArray Q (before m) (louds l) k0 (i :: rest)) := fun a w X Y s t hX hY => by
  have hi' : l.toArray[i]? = some ⟨some d, op, ty, pos, aft, some (j, b)⟩ := by simpa using hi
  simp only [RW, hi']
  rw [if_pos (by simp [Region.wanted, gv_yielded s hg])]
  refine .inr (.inr ⟨by simpa [Nat.blt_eq] using hk, by simp [louds, hi, hl], nwp_mono ?_ (ho a w s t)⟩)
  rintro a' w' ⟨x, rfl, ht⟩
  exact ⟨(hB x).use ht hY, h x _ w' _ Y (s.put d _ hd) ht ⟨rfl, t, hX⟩ hY⟩

/-- the forced tail of a region is walked as a list -/
theorem RW.tail {X : List (Nat × World)} {Y : List (Nat × (World → Prop))} : ∀ (r : List Nat) (os : List Oper), (∀ i ∈ r, k0 ≤ i) → r.map (l[·]?) = os.map some → ∀ a w, wpList P l.toArray Q os a w → RW P l.toArray Q (before m) (louds l) k0 r a w X Y
  | [], [], _, _, _, _, h => h
  | [], _ :: _, _, e, _, _, _ => by simp at e
  | _ :: _, [], _, e, _, _, _ => by simp at e
  | i :: r, o :: os, hk, e, a, w, h => by
    simp only [List.map_cons, List.cons.injEq] at e
    have hi' : l.toArray[i]? = some o := by simpa using e.1
    have ih := fun a w => RW.tail (X := X) (Y := Y) r os (fun i hi => hk i (List.mem_cons_of_mem _ hi)) e.2 a w
    simp only [RW, hi']
    unfold wpList at h
    split
    · rename_i hw
      rw [if_pos hw] at h
      refine .inl ⟨hk i List.mem_cons_self, ?_⟩
      rcases h with h | h
      · exact .inl (Oper.wp_mono (fun a w h => ih a w h) h)
      · exact .inr (Oper.rnd_mono (fun a w h => ih a w h) h)
    · rename_i hw
      rw [if_neg hw] at h
      exact ih _ _ h

theorem JR.tail {r : List Nat} {os : List Oper} (hk : r.all (Nat.ble k0) = true) (he : r.map (l[·]?) = os.map some) (h : J c n σ M L (wpList P l.toArray Q os)) : JR c n σ M L H Bs (RW P l.toArray Q (before m) (louds l) k0 r) :=
  fun a w _ _ s t _ _ => RW.tail r os (fun i hi => by simpa using List.all_eq_true.1 hk i hi) he a w (h a w s t)
end
end Go.Sx
