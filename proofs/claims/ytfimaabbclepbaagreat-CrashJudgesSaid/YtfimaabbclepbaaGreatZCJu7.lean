/- Models of functions with their proofs, by program (gen/xt.py), and plain laws, in one text. Conditions: none. -/
import Derived.Test.YtfimaabbclepbaaGreatZCJu6
import Derived.Test.YtfimaabbclepbaaGreatZCJu2
import Derived.Test.YtfimaabbclepbaaGreatZCJu3
import Derived.Test.YtfimaabbclepbaaGreatZCJu4
import Derived.Test.YtfimaabbclepbaaGreatZCJu1
import Derived.OpenShut
set_option linter.unusedVariables false
set_option linter.unusedSimpArgs false
set_option maxHeartbeats 4000000
set_option maxRecDepth 20000
section
namespace Go.Gx
open Go Go.Sx
section
variable {P : Program} {w0 : Base} {w : World} {ρ : Rho} {H : GH}
theorem hook_plain {f : Nat} {vs : List Value} {L : List Fact} {V : Value} {g : GV} (hb : HasBody P f) (hm : Meets P f vs.toArray L (fun _ : Unit => V) (fun _ l => l) (fun _ l => l)) (R : Rel w0 ρ H w) (hL : ∀ h ∈ L, h.p w All) (hv : ∀ ρ, Rl ρ g V) : CallSem P w0 ρ f vs w g H := by
 refine .inr ⟨hb _ w, (hm w All hL).mono ?_⟩
 rintro e w' ⟨_, rfl, t⟩
 exact ⟨V, ρ, rfl, Rho.le_refl _, R.ext' t.old.ext, hv _⟩
theorem hook_sl {α : Type} {e : Enc α} {g : α → List GV} (hg : ∀ ρ x, RlL ρ (g x) (e.enc x)) {f : Nat} {vs : List Value} {L : List Fact} {r : List α} (hne : r ≠ []) (hb : HasBody P f) (hm : Meets P f vs.toArray L (fun x : Value => x) (fun x l => Ar e x r :: l) (fun _ l => l)) (R : Rel w0 ρ H w) (hL : ∀ h ∈ L, h.p w All) :
  CallSem P w0 ρ f vs w (.sl H.n 0 r.length e.sz) (H.new (.cells (r.flatMap g))) := by
 refine .inr ⟨hb _ w, (hm w All hL).mono ?_⟩
 rintro e w' ⟨x, rfl, t⟩
 obtain ⟨F, O, _⟩ := t.own
 have h0 : ArR _ w' (F 0) x r := O.res 0 _ rfl
 have R' := R.ext' t.old.ext
 have hF : ∀ i k, F i k → w.heap.size ≤ k := fun i k hk => by
  rcases (O.rng i k hk).1 with h | h
  ·exact h
  ·exact h.elim
 obtain ⟨ρ1, hle, R1, hv, _⟩ := import_ok (B := fun k => w.heap.size ≤ k) R' (fun a o l h1 h2 => Apart.start R a o l h1 h2) (fun k hk => .inl (Nat.le_trans R.ext.size hk)) (hF 0) h0 hne (flat_ok (hg ρ) r)
 exact ⟨x, ρ1, rfl, hle, R1, hv⟩
theorem hook_graph {α β : Type} {e : Enc α} {g : α → List GV} {e' : Enc β} {g' : β → List GV} (hg : ∀ ρ x, RlL ρ (g x) (e.enc x)) (hg' : ∀ ρ x, RlL ρ (g' x) (e'.enc x)) {f : Nat} {vs : List Value} {L : List Fact} {r : List α × List (List β)} (h1 : r.1 ≠ []) (h2 : r.2 ≠ []) (h3 : ∀ xs ∈ r.2, xs ≠ []) (hb : HasBody P f)
  (hm : Meets P f vs.toArray L (fun x : Value × Value × List Value => Value.agg #[x.1, x.2.1]) (fun x l => Ar e x.1 r.1 :: Ar Enc.raw x.2.1 x.2.2 :: Rws e' x.2.2 r.2 :: l) (fun _ l => l)) (R : Rel w0 ρ H w) (hL : ∀ h ∈ L, h.p w All) :
  CallSem P w0 ρ f vs w (.agg [.sl H.n 0 r.1.length e.sz, .sl (impRows e'.sz g' r.2 (H.new (.cells (r.1.flatMap g)))).2.n 0 r.2.length 1]) ((impRows e'.sz g' r.2 (H.new (.cells (r.1.flatMap g)))).2.new (.cells (impRows e'.sz g' r.2 (H.new (.cells (r.1.flatMap g)))).1)) := by
 refine .inr ⟨hb _ w, (hm w All hL).mono ?_⟩
 rintro en w' ⟨x, rfl, t⟩
 obtain ⟨F, O, _⟩ := t.own
 have q0 : ArR _ w' (F 0) x.1 r.1 := O.res 0 _ rfl
 have q1 : ArR Enc.raw w' (F 1) x.2.1 x.2.2 := O.res 1 _ rfl
 obtain ⟨ql, G, q2, q3, q4⟩ : (Rws e' x.2.2 r.2).p w' (F 2) := O.res 2 _ rfl
 have R' := R.ext' t.old.ext
 have hF : ∀ i k, F i k → w.heap.size ≤ k := fun i k hk => by
  rcases (O.rng i k hk).1 with h | h
  ·exact h
  ·exact h.elim
 obtain ⟨ρ1, hle1, R1, hv1, A1⟩ := import_ok (B := fun k => w.heap.size ≤ k) R' (fun a o l h1 h2 => Apart.start R a o l h1 h2) (fun k hk => .inl (Nat.le_trans R.ext.size hk)) (hF 0) q0 h1 (flat_ok (hg ρ) r.1)
 obtain ⟨ρ2, hle2, R2, hv2, A2⟩ := impRows_ok hg' r.2 x.2.2 G _ ρ1 _ R1 A1 (fun k hk => .inl (Nat.le_trans R.ext.size hk.1)) ql h3 q2 (fun i k hk => ⟨hF _ _ (q3 i k hk), fun h0 => by have := O.dis _ _ k (q3 i k hk) h0; omega⟩) q4
 have hne : x.2.2 ≠ [] := fun h0 => by rw [h0] at ql; exact h2 (List.eq_nil_of_length_eq_zero ql.symm)
 obtain ⟨ρ3, hle3, R3, hv3, _⟩ := import_ok (cs := (impRows e'.sz g' r.2 (H.new (.cells (r.1.flatMap g)))).1) (F := F 1) R2 A2 (fun k hk => .inl (Nat.le_trans R.ext.size hk.1.1)) (fun k hk => ⟨⟨hF _ _ hk, fun h0 => by have := O.dis _ _ k hk h0; omega⟩, fun i hi => by have := O.dis _ _ k hk (q3 i k hi); omega⟩) q1 hne (by rw [raw_cells]; exact hv2)
 refine ⟨_, ρ3, rfl, Rho.le_trans hle1 (Rho.le_trans hle2 hle3), R3, ?_⟩
 refine Rl.agg' (vs := [x.1, x.2.1]) (.cons ((hv1.le hle2).le hle3) (.cons (by rw [← ql]; exact hv3) .nil)) fun v hv => ?_
 have one_of : ∀ {γ : Type} {e : Enc γ} {F : Nat → Prop} {v : Value} {xs : List γ}, ArR e w' F v xs → one v = true := fun h => by
  obtain ⟨_, _, h⟩ := h
  rcases h with ⟨rfl, _⟩ | ⟨b, off, cap, T, cur, rfl, _⟩ <;> rfl
 simp at hv
 rcases hv with rfl | rfl
 ·exact one_of q0
 ·exact one_of q1
end
noncomputable section
def dInts (H : GH) (v : GV) : Option (List Int) := decS H 1 (dI .i64) v
def dPorts (H : GH) (v : GV) : Option (List (List (Int × Int))) := decS H 1 (dS H 2 (dP 1 (dI .i64) (dI .i64))) v
def dConf (H : GH) (v : GV) : Option (List (List Int)) := decS H 1 (dS H 1 (dI .i64)) v
def dGraph (H : GH) (v : GV) : Option (List Int × List (List (Int × Int))) := ob v.asA fun cs => List.casesOn (motive := fun _ => Option (List Int × List (List (Int × Int)))) cs none fun a r => List.casesOn (motive := fun _ => Option (List Int × List (List (Int × Int)))) r none fun b r => List.casesOn (motive := fun _ => Option (List Int × List (List (Int × Int)))) r (ob (dInts H a) fun x => ob (dPorts H b) fun y => some (x, y)) fun _ _ => none
end
section
variable {P : Program} {w0 : Base} {w : World} {ρ : Rho} {H : GH}
theorem dInts_ok (R : Rel w0 ρ H w) {v : GV} {V : Value} {xs : List Int} (hv : Rl ρ v V) (h : dInts H v = some xs) : (Sl (Rep.int .i64) V xs).p w All := by
 obtain ⟨zs, rfl, hz⟩ := decS_ok R (Reads.int .i64) hv h
 rw [List.map_id]
 exact hz
theorem dConf_ok (R : Rel w0 ρ H w) {v : GV} {V : Value} {xs : List (List Int)} (hv : Rl ρ v V) (h : dConf H v = some xs) : ∃ zs, (S2 (Rep.int .i64) V zs xs).p w All := by
 obtain ⟨zs, rfl, hz⟩ := decS_ok R (Reads.sl R (Reads.int .i64)) hv h
 exact ⟨zs, hz, by simp⟩
theorem dPorts_ok (R : Rel w0 ρ H w) {v : GV} {V : Value} {xs : List (List (Int × Int))} (hv : Rl ρ v V) (h : dPorts H v = some xs) : ∃ zs, (S2 (Rep.pair (Rep.int .i64) (Rep.int .i64)) V zs xs).p w All := by
 obtain ⟨zs, rfl, hz⟩ := decS_ok R (Reads.sl R (Reads.pair (Reads.int .i64) (Reads.int .i64))) hv h
 exact ⟨zs, hz, by simp⟩
theorem dGraph_ok (R : Rel w0 ρ H w) {v : GV} {V : Value} {p : List Int × List (List (Int × Int))} (hv : Rl ρ v V) (h : dGraph H v = some p) : ∃ v0 v1 z2, V = .agg #[v0, v1] ∧ (Sl (Rep.int .i64) v0 p.1).p w All ∧ (S2 (Rep.pair (Rep.int .i64) (Rep.int .i64)) v1 z2 p.2).p w All := by
 obtain ⟨cs, hcs, h⟩ := ob_some.1 (show ob v.asA _ = some p from h)
 rw [asA_eq hcs] at hv
 obtain ⟨vs, rfl, hr, _⟩ := hv.agg_inv
 cases cs with
 | nil => cases h
 | cons a cs =>
 cases cs with
 | nil => cases h
 | cons b cs =>
 cases cs with
 | cons _ _ => cases h
 | nil =>
 obtain ⟨x, hx, h⟩ := ob_some.1 (show ob (dInts H a) _ = some p from h)
 obtain ⟨y, hy, h⟩ := ob_some.1 h
 cases h
 obtain ⟨v0, vs, rfl, h0, hr⟩ := hr.of_cons
 obtain ⟨v1, vs, rfl, h1, hr⟩ := hr.of_cons
 rw [hr.of_nil]
 obtain ⟨z2, hz⟩ := dPorts_ok R h1 hy
 exact ⟨v0, v1, z2, rfl, dInts_ok R h0 hx, hz⟩
end
end Go.Gx
end
section
namespace Go.Gx
open Go Go.Sx
noncomputable section
section
variable {α R : Type}
def a0 (us : List α) (k : Option R) : Option R := List.casesOn (motive := fun _ => Option R) us k (fun _ _ => none)
def a1 (us : List α) (k : α → Option R) : Option R := List.casesOn (motive := fun _ => Option R) us none fun a r => a0 r (k a)
def a2 (us : List α) (k : α → α → Option R) : Option R := List.casesOn (motive := fun _ => Option R) us none fun a r => a1 r (k a)
def a3 (us : List α) (k : α → α → α → Option R) : Option R := List.casesOn (motive := fun _ => Option R) us none fun a r => a2 r (k a)
def a4 (us : List α) (k : α → α → α → α → Option R) : Option R := List.casesOn (motive := fun _ => Option R) us none fun a r => a3 r (k a)
def a5 (us : List α) (k : α → α → α → α → α → Option R) : Option R := List.casesOn (motive := fun _ => Option R) us none fun a r => a4 r (k a)
def a6 (us : List α) (k : α → α → α → α → α → α → Option R) : Option R := List.casesOn (motive := fun _ => Option R) us none fun a r => a5 r (k a)
theorem a0_some {us : List α} {k : Option R} {r : R} (h : a0 us k = some r) : us = [] ∧ k = some r := by
 cases us with
 | nil => exact ⟨rfl, h⟩
 | cons _ _ => cases h
theorem a1_some {us : List α} {k : α → Option R} {r : R} (h : a1 us k = some r) : ∃ x, us = [x] ∧ k x = some r := by
 cases us with
 | nil => cases h
 | cons x us => obtain ⟨rfl, h⟩ := a0_some h; exact ⟨x, rfl, h⟩
theorem a2_some {us : List α} {k : α → α → Option R} {r : R} (h : a2 us k = some r) : ∃ x y, us = [x, y] ∧ k x y = some r := by
 cases us with
 | nil => cases h
 | cons x us => obtain ⟨y, rfl, h⟩ := a1_some h; exact ⟨x, y, rfl, h⟩
theorem a3_some {us : List α} {k : α → α → α → Option R} {r : R} (h : a3 us k = some r) : ∃ x y z, us = [x, y, z] ∧ k x y z = some r := by
 cases us with
 | nil => cases h
 | cons x us => obtain ⟨y, z, rfl, h⟩ := a2_some h; exact ⟨x, y, z, rfl, h⟩
theorem a4_some {us : List α} {k : α → α → α → α → Option R} {r : R} (h : a4 us k = some r) : ∃ x y z u, us = [x, y, z, u] ∧ k x y z u = some r := by
 cases us with
 | nil => cases h
 | cons x us => obtain ⟨y, z, u, rfl, h⟩ := a3_some h; exact ⟨x, y, z, u, rfl, h⟩
theorem a5_some {us : List α} {k : α → α → α → α → α → Option R} {r : R} (h : a5 us k = some r) : ∃ x y z u v, us = [x, y, z, u, v] ∧ k x y z u v = some r := by
 cases us with
 | nil => cases h
 | cons x us => obtain ⟨y, z, u, v, rfl, h⟩ := a4_some h; exact ⟨x, y, z, u, v, rfl, h⟩
theorem a6_some {us : List α} {k : α → α → α → α → α → α → Option R} {r : R} (h : a6 us k = some r) : ∃ x y z u v w, us = [x, y, z, u, v, w] ∧ k x y z u v w = some r := by
 cases us with
 | nil => cases h
 | cons x us => obtain ⟨y, z, u, v, w, rfl, h⟩ := a5_some h; exact ⟨x, y, z, u, v, w, rfl, h⟩
end

def dSc (k : IntKind) (v : GV) : Option Int := ob v.asI fun p => bif eqK p.1 k then some p.2 else none
def dNet (H : GH) (v : GV) : Option (Int × List Int × List Int × List Int × Bool × Bool) := ob v.asA fun cs => a6 cs fun a b c d e f => ob (dSc .i64 a) fun n => ob (dInts H b) fun x => ob (dInts H c) fun y => ob (dInts H d) fun z => ob e.asB fun p => ob f.asB fun q => some (n, x, y, z, p, q)

def gI (n : Int) : List GV := [.int .i64 n]
def gP (p : Int × Int) : List GV := [.int .i64 p.1, .int .i64 p.2]
def fcI {R : Type} (l : List Int) : (List Int → R) → R := List.rec (motive := fun _ => (List Int → R) → R) (fun k => k []) (fun x _ ih k => fi x fun x => ih fun r => k (x :: r)) l
def fcP {R : Type} (l : List (Int × Int)) : (List (Int × Int) → R) → R := List.rec (motive := fun _ => (List (Int × Int) → R) → R) (fun k => k []) (fun x _ ih k => fi x.1 fun a => fi x.2 fun b => ih fun r => k ((a, b) :: r)) l
def fcR {R : Type} (l : List (List (Int × Int))) : (List (List (Int × Int)) → R) → R := List.rec (motive := fun _ => (List (List (Int × Int)) → R) → R) (fun k => k []) (fun x _ ih k => fcP x fun x => ih fun r => k (x :: r)) l
theorem fcI_eq {R : Type} : ∀ (l : List Int) (k : List Int → R), fcI l k = k l
 | [], k => rfl
 | x :: l, k => by
  show fi x (fun x => fcI l fun r => k (x :: r)) = _
  rw [fi_eq, fcI_eq l]
theorem fcP_eq {R : Type} : ∀ (l : List (Int × Int)) (k : List (Int × Int) → R), fcP l k = k l
 | [], k => rfl
 | x :: l, k => by
  show fi x.1 (fun a => fi x.2 fun b => fcP l fun r => k ((a, b) :: r)) = _
  rw [fi_eq, fi_eq, fcP_eq l]
theorem fcR_eq {R : Type} : ∀ (l : List (List (Int × Int))) (k : List (List (Int × Int)) → R), fcR l k = k l
 | [], k => rfl
 | x :: l, k => by
  show fcP x (fun x => fcR l fun r => k (x :: r)) = _
  rw [fcP_eq, fcR_eq l]
def oBool (b : Bool) (H : GH) : OR := Bool.casesOn (motive := fun _ => OR) b (some (.bool false, H)) (some (.bool true, H))
def oInts (r : List Int) (H : GH) : OR := fcI r fun r => bif Nat.beq r.length 0 then none else fc (r.flatMap gI) fun l => sn r.length fun n => H.newK (.cells l) fun h H' => some (.sl h 0 n 1, H')
def oGraph (r : List Int × List (List (Int × Int))) (H : GH) : OR := fcI r.1 fun x => fcR r.2 fun y => bif Nat.beq x.length 0 then none else bif Nat.beq y.length 0 then none else bif y.any fun l => Nat.beq l.length 0 then none else
 fc (x.flatMap gI) fun l => H.newK (.cells l) fun h H1 => fc (impRows 2 gP y H1).1 fun rs => sn x.length fun n => sn y.length fun m => (impRows 2 gP y H1).2.newK (.cells rs) fun h2 H2 => some (.agg [.sl h 0 n 1, .sl h2 0 m 1], H2)
end
section
variable {P : Program} {w0 : Base} {w : World} {ρ : Rho} {H H' : GH} {g : GV}
theorem RlL.one {x : GV} {vs : List Value} (h : RlL ρ [x] vs) : ∃ V, vs = [V] ∧ Rl ρ x V := by
 obtain ⟨v, vs, rfl, h1, h2⟩ := h.of_cons
 rw [h2.of_nil]; exact ⟨v, rfl, h1⟩
theorem dSc_ok {k : IntKind} {v : GV} {V : Value} {n : Int} (hv : Rl ρ v V) (h : dSc k v = some n) : V = .int k n := by
 obtain ⟨p, hp, h⟩ := ob_some.1 (show ob v.asI _ = some n from h)
 obtain ⟨hk, h⟩ := bif_some.1 h
 cases h
 rw [asI_eq hp] at hv
 rw [hv.int_inv, eqK_eq hk]
theorem asB_ok {v : GV} {V : Value} {b : Bool} (hv : Rl ρ v V) (h : v.asB = some b) : V = .bool b := by
 rw [asB_eq h] at hv; exact hv.bool_inv
theorem dNet_ok (R : Rel w0 ρ H w) {v : GV} {V : Value} {p : Int × List Int × List Int × List Int × Bool × Bool} (hv : Rl ρ v V) (h : dNet H v = some p) :
  ∃ v0 v1 v2, V = .agg #[.int .i64 p.1, v0, v1, v2, .bool p.2.2.2.2.1, .bool p.2.2.2.2.2] ∧ (Sl (Rep.int .i64) v0 p.2.1).p w All ∧ (Sl (Rep.int .i64) v1 p.2.2.1).p w All ∧ (Sl (Rep.int .i64) v2 p.2.2.2.1).p w All := by
 obtain ⟨cs, hcs, h⟩ := ob_some.1 (show ob v.asA _ = some p from h)
 obtain ⟨a, b, c, d, e, f, rfl, h⟩ := a6_some h
 obtain ⟨n, hn, h⟩ := ob_some.1 h
 obtain ⟨x, hx, h⟩ := ob_some.1 h
 obtain ⟨y, hy, h⟩ := ob_some.1 h
 obtain ⟨z, hz, h⟩ := ob_some.1 h
 obtain ⟨q, hq, h⟩ := ob_some.1 h
 obtain ⟨r, hr, h⟩ := ob_some.1 h
 cases h
 rw [asA_eq hcs] at hv
 obtain ⟨vs, rfl, hl, _⟩ := hv.agg_inv
 obtain ⟨va, vs, rfl, ha, hl⟩ := hl.of_cons
 obtain ⟨vb, vs, rfl, hb, hl⟩ := hl.of_cons
 obtain ⟨vc, vs, rfl, hc, hl⟩ := hl.of_cons
 obtain ⟨vd, vs, rfl, hd, hl⟩ := hl.of_cons
 obtain ⟨ve, vs, rfl, he, hl⟩ := hl.of_cons
 obtain ⟨vf, rfl, hf⟩ := hl.one
 have e1 := dSc_ok ha hn
 have e2 := asB_ok he hq
 have e3 := asB_ok hf hr
 subst e1 e2 e3
 exact ⟨vb, vc, vd, rfl, dInts_ok R hb hx, dInts_ok R hc hy, dInts_ok R hd hz⟩
theorem oBool_some {b : Bool} (h : oBool b H = some (g, H')) : g = .bool b ∧ H' = H := by
 cases b <;> cases h <;> exact ⟨rfl, rfl⟩
theorem oInts_some {r : List Int} (h : oInts r H = some (g, H')) : r ≠ [] ∧ g = .sl H.n 0 r.length 1 ∧ H' = H.new (.cells (r.flatMap gI)) := by
 unfold oInts at h
 rw [fcI_eq] at h
 obtain ⟨h1, h⟩ := bif_some'.1 h
 rw [fc_eq, sn_eq, GH.newK_eq] at h
 cases h
 exact ⟨fun e => (by subst e; cases h1), rfl, rfl⟩
theorem oGraph_some {r : List Int × List (List (Int × Int))} (h : oGraph r H = some (g, H')) : r.1 ≠ [] ∧ r.2 ≠ [] ∧ (∀ xs ∈ r.2, xs ≠ []) ∧
  g = .agg [.sl H.n 0 r.1.length 1, .sl (impRows 2 gP r.2 (H.new (.cells (r.1.flatMap gI)))).2.n 0 r.2.length 1] ∧ H' = (impRows 2 gP r.2 (H.new (.cells (r.1.flatMap gI)))).2.new (.cells (impRows 2 gP r.2 (H.new (.cells (r.1.flatMap gI)))).1) := by
 unfold oGraph at h
 rw [fcI_eq, fcR_eq] at h
 obtain ⟨h1, h⟩ := bif_some'.1 h
 obtain ⟨h2, h⟩ := bif_some'.1 h
 obtain ⟨h3, h⟩ := bif_some'.1 h
 rw [fc_eq, GH.newK_eq, fc_eq, sn_eq, sn_eq, GH.newK_eq] at h
 cases h
 refine ⟨fun e => (by rw [e] at h1; cases h1), fun e => (by rw [e] at h2; cases h2), fun xs hx e => ?_, rfl, rfl⟩
 have := List.any_eq_false.1 h3 xs hx
 rw [e] at this
 exact this rfl
theorem gI_ok (ρ : Rho) (x : Int) : RlL ρ (gI x) [.int .i64 x] := .cons (.int _ _) .nil
theorem gP_ok (ρ : Rho) (x : Int × Int) : RlL ρ (gP x) [.int .i64 x.1, .int .i64 x.2] := .cons (.int _ _) (.cons (.int _ _) .nil)
theorem meets_closed {f : Nat} {V : Value} (hb : HasBody P f) (hv : ∀ ρ V', Rl ρ g V' → V' = V) (h : ∀ w : World, CallSem P ⟨w, fun _ => False⟩ (fun _ => none) f [] w g H') : Meets P f #[] [] (fun _ : Unit => V) (fun _ l => l) (fun _ l => l) := by
 intro w0 S0 _
 rcases h w0 with ⟨v, w', ρ', hr, _⟩ | ⟨_, hc⟩
 ·have := hb #[] w0
  rw [show ([] : List Value).toArray = #[] from rfl] at hr
  rw [this] at hr; cases hr
 ·refine hc.mono ?_
  rintro e w' ⟨v, ρ', rfl, _, R, hr⟩
  exact ⟨(), by rw [hv _ _ hr], R.ext, fun _ _ => False, ⟨fun i m hm => by simp at hm, fun i k h => h.elim, fun i j k h => h.elim⟩, fun f hf => by simp at hf⟩

section
variable {tb : TB} {T : TypeId}
theorem alloc_z (h : zeroOf tb T = some [z64]) (H : GH) : vAlloc tb T H = some (.ptr H.n 0, H.new (.cells [z64])) := by
 unfold vAlloc
 rw [h]
 show H.newK (.cells [z64]) (fun h H' => some (GV.ptr h 0, H')) = _
 rw [GH.newK_eq]
theorem store_z {t : Ty} (h : tb T = some t) (hs : t.size = 1) (H : GH) (k : Nat) (c : GV) (hc : GH.cells H k = some [c]) : vStore tb T (.ptr k 0) z64 H = some (.un, H.set k (.cells [z64])) := by
 show ob (H.cells k) (fun cs => ob (tb T) fun t => bif Nat.beq 1 t.size then bif Nat.beq t.size 0 then none else ob (gput [z64] 0 cs) fun cs' => H.setK k (.cells cs') fun H' => some (GV.un, H') else none) = _
 rw [hc, h]
 show (bif Nat.beq 1 t.size then bif Nat.beq t.size 0 then none else ob (gput [z64] 0 [c]) fun cs' => H.setK k (.cells cs') fun H' => some (GV.un, H') else none) = _
 rw [hs]
 show H.setK k (.cells [z64]) (fun H' => some (GV.un, H')) = _
 rw [GH.setK_eq]
theorem load_z {t : Ty} (h : tb T = some t) (ha : aggD t.desc = false) (H : GH) (k : Nat) (hc : GH.cells H k = some [z64]) : vLoad tb T (.ptr k 0) H = some z64 := by
 show ob (H.cells k) (fun cs => ob (tb T) fun t => ofCells t cs 0) = _
 rw [hc, h]
 show ofCells t [z64] 0 = _
 unfold ofCells
 rw [ha]; rfl
end
def bodyOps (fn : Func) : List Oper := match fn.body with
 | some (.seq (.region _ ops _) _) => ops.toList
 | _ => []
def bodyRest (fn : Func) : Code := match fn.body with
 | some (.seq _ c) => c
 | _ => .skip
def bodyDst (fn : Func) : Nat := match bodyOps fn with
 | o :: _ => o.dst.getD 0
 | [] => 0
def okN (r : RS) : Bool := match r with
 | some o => match o.e with
  | .normal => true
  | _ => false
 | none => false
theorem okN_spec {r : RS} (h : okN r = true) : ∃ out, r = some out ∧ out.e = .normal := by
 unfold okN at h
 cases r with
 | none => cases h
 | some o =>
  refine ⟨o, rfl, ?_⟩
  cases he : o.e <;> simp only [he] at h <;> first | rfl | cases h
def okT (r : OR) : Bool := match r with
 | some (.bool true, _) => true
 | _ => false
theorem okT_spec {r : OR} (h : okT r = true) : ∃ H', r = some (.bool true, H') := by
 unfold okT at h
 split at h
 ·exact ⟨_, rfl⟩
 ·cases h
end
end Go.Gx
end
section
namespace Go.Proofs.YtfimaabbclepbaaGreat
open Go.Sx
def world_Within_k1  (a4 : Int) : Option (Int) :=
 some (a4)
def m_world_Within (fuel : Nat) (p0 : Int) (p1 : Int) : Option (Int) :=
 if p1 < (1 : Int) then (some (0 : Int)) else (ck (p1 ≠ 0) (if (Int.tmod p0 p1) < (0 : Int) then (world_Within_k1  (wI .i64 ((Int.tmod p0 p1) + p1))) else (world_Within_k1  (Int.tmod p0 p1))))
theorem body38 : HasBody Tryz.prog 38 := Tryz.call38
theorem t_world_Within (fuel : Nat) {p0 : Int} {p1 : Int} (r : Int) (h : m_world_Within fuel p0 p1 = some r) :
  Meets Tryz.prog 38 #[Value.int .i64 (p0), Value.int .i64 (p1)] [] (fun x : Unit => Value.int .i64 (r)) (fun x l => l) (fun _ l => l) := by
 refine Meets.of (vs := [Value.int .i64 (p0), Value.int .i64 (p1)]) Tryz.func38 rfl Tryz.ntmps38 rfl fun c => ?_
 unfold m_world_Within at h
 refine J.seq <| J.region <| J.quiet (Y.assign rfl) rfl <| J.done <| J.thenN <| J.seq <| J.seq <| J.region <| J.quiet (Y.move rfl) rfl <| J.quiet (Y.lss rfl rfl) rfl <| J.done <| J.thenN ?_
 refine J.condD (by exact rfl) (fun hp1 => ?_) (fun hp1 => ?_)
 ·have h := ifP hp1 h
  refine J.seq <| J.region <| J.quiet (Y.assign rfl) rfl <| J.done <| J.thenN <| J.ret <| J.thenR ?_
  obtain rfl := Option.some.inj h
  exact J.retG1 (()) rfl rfl (RV.tmp rfl) (SubM.refl _) LentAll.nil
 ·have h := ifN hp1 h
  refine J.skip <| J.thenN <| J.seq <| J.region <| J.quiet (Y.move rfl) rfl <| J.quiet (Y.move rfl) rfl ?_
  have h := ck_some h; obtain ⟨hc2, h⟩ := h
  refine J.quiet (Y.rem rfl rfl hc2) rfl <| J.quiet (Y.assign rfl) rfl <| J.done <| J.thenN <| J.seq <| J.midI (A := Int) (B := Unit) (fun a4 => world_Within_k1  a4 = some r) (fun a4 b5 => [(0, Value.int .i64 (a4))]) (fun a4 b5 => []) (fun a4 b5 => []) ?_ ?_
  ·refine J.seq <| J.region <| J.quiet (Y.move rfl) rfl <| J.quiet (Y.lss rfl rfl) rfl <| J.done <| J.thenN ?_
   refine J.condD (by exact rfl) (fun hp6 => ?_) (fun hp6 => ?_)
   ·have h := ifP hp6 h
    refine J.region <| J.quiet (Y.move rfl) rfl <| J.quiet (Y.move rfl) rfl <| J.quiet (Y.addW rfl rfl) rfl <| J.quiet (Y.assign rfl) rfl <| J.done <| J.thenN ?_
    exact J.meetI (wI .i64 ((Int.tmod p0 p1) + p1)) (()) h SF (SubM.refl _) (LentAll.refl _ _)
   ·have h := ifN hp6 h
    refine J.skip <| J.thenN ?_
    exact J.meetI (Int.tmod p0 p1) (()) h SF (SubM.refl _) (LentAll.refl _ _)
  ·clear h
   intro a4 b5 h
   unfold world_Within_k1 at h
   refine J.seq <| J.region <| J.quiet (Y.move rfl) rfl <| J.quiet (Y.assign rfl) rfl <| J.done <| J.thenN <| J.ret ?_
   obtain rfl := Option.some.inj h
   exact J.retG1 (()) rfl rfl (RV.tmp rfl) (SubM.refl _) LentAll.nil
end Go.Proofs.YtfimaabbclepbaaGreat
end
section
namespace Go.Proofs.YtfimaabbclepbaaGreat
open Go.Sx
def m_world_at (fuel : Nat) (p0 : List (Int)) (p1 : Int) : Option (Int) :=
 if p1 < (List.length p0 : Int) then (ck (0 ≤ p1 ∧ p1 < (List.length p0 : Int)) (some (at' p0 p1))) else (some (0 : Int))
theorem body39 : HasBody Tryz.prog 39 := Tryz.call39
theorem t_world_at (fuel : Nat) {p0 : List (Int)} {p1 : Int} (v0 : Value) (r : Int) (h : m_world_at fuel p0 p1 = some r) :
  Meets Tryz.prog 39 #[v0, Value.int .i64 (p1)] [Sl RI64 v0 p0] (fun x : Unit => Value.int .i64 (r)) (fun x l => l) (fun _ l => l) := by
 refine Meets.of (vs := [v0, Value.int .i64 (p1)]) Tryz.func39 rfl Tryz.ntmps39 rfl fun c => ?_
 unfold m_world_at at h
 refine J.seq <| J.region <| J.quiet (Y.assign rfl) rfl <| J.done <| J.thenN <| J.seq <| J.seq <| J.region <| J.quiet (Y.move rfl) rfl <| J.quiet (Y.move rfl) rfl <| J.quiet (Y.lenS rfl (Lent.fact 0 rfl) rfl) rfl <| J.quiet (Y.lss rfl rfl) rfl <| J.done <| J.thenN ?_
 refine J.condD (by exact rfl) (fun hp1 => ?_) (fun hp1 => ?_)
 ·have h := ifP hp1 h
  refine J.seq <| J.region <| J.quiet (Y.move rfl) rfl <| J.quiet (Y.move rfl) rfl ?_
  have h := ck_some h; obtain ⟨hc2, h⟩ := h
  refine J.quiet (Y.indexS rfl rfl (Lent.fact 0 rfl) rfl rfl hc2) rfl <| J.quiet (Y.loadS0 rfl (Lent.fact 0 rfl) rfl rfl rfl RI64c0 hc2) rfl <| J.quiet (Y.assign rfl) rfl <| J.done <| J.thenN <| J.ret <| J.thenR ?_
  obtain rfl := Option.some.inj h
  exact J.retG1 (()) rfl rfl (RV.tmp rfl) (SubM.refl _) LentAll.nil
 ·have h := ifN hp1 h
  refine J.skip <| J.thenN <| J.seq <| J.region <| J.quiet (Y.assign rfl) rfl <| J.done <| J.thenN <| J.ret ?_
  obtain rfl := Option.some.inj h
  exact J.retG1 (()) rfl rfl (RV.tmp rfl) (SubM.refl _) LentAll.nil
end Go.Proofs.YtfimaabbclepbaaGreat
end
section
namespace Go.Proofs.YtfimaabbclepbaaGreat
open Go.Sx
def _world_Net__nodes_k1 (r3 : Int) (a13 : List (Int)) : Option ((List (Int) × (List (List (Int × Int))))) :=
 some ((a13, (List.replicate (Int.toNat (wI .i64 ((1 : Int) + r3))) ([] : List (Int × Int)))))
def _world_Net__nodes_k2 (a21 : Int × List (Int)) (ag20 : (Int × List (Int)) → Option ((List (Int) × (List (List (Int × Int)))))) (a32 : Int) : Option ((List (Int) × (List (List (Int × Int))))) :=
 ck ((List.length a21.2 : Int) + (List.length ([a32]) : Int) ≤ 1099511627) (ag20 ((wI .i64 (a21.1 + (1 : Int))), (a21.2 ++ [a32])))
def _world_Net__nodes_k3 (ag40 : (Int × Int) → Option ((List (Int) × (List (List (Int × Int)))))) (a47 : Int × Int) : Option ((List (Int) × (List (List (Int × Int))))) :=
 ag40 (a47.1, (wI .i64 (a47.2 + (1 : Int))))
def _world_Net__nodes_s2 (a21 : Int × List (Int)) (ag20 : (Int × List (Int)) → Option ((List (Int) × (List (List (Int × Int)))))) (a41 : Int × Int) (ag40 : (Int × Int) → Option ((List (Int) × (List (List (Int × Int)))))) : Option ((List (Int) × (List (List (Int × Int))))) :=
 if a41.2 < a21.1 then (ck (0 ≤ a41.2 ∧ a41.2 < (List.length a21.2 : Int)) (if (at' a21.2 a41.2) = a41.1 then (ck ((256 : Int) ≠ 0) (_world_Net__nodes_k3 ag40 ((Int.tmod (wI .i64 (a41.1 + (1 : Int))) (256 : Int)), (-1 : Int)))) else (_world_Net__nodes_k3 ag40 (a41.1, a41.2)))) else (_world_Net__nodes_k2 a21 ag20 (a41.1))
def _world_Net__nodes_s1 (fuel : Nat) (p0 : Int × List (Int) × List (Int) × List (Int) × Bool × Bool) (r3 : Int) (a21 : Int × List (Int)) (ag20 : (Int × List (Int)) → Option ((List (Int) × (List (List (Int × Int)))))) : Option ((List (Int) × (List (List (Int × Int))))) :=
 if a21.1 < (wI .i64 ((1 : Int) + r3)) then (Option.bind (m_world_at fuel p0.2.2.2.1 a21.1) fun r25 => (Option.bind (m_world_Within fuel r25 (256 : Int)) fun r28 => (iter (_world_Net__nodes_s2 a21 ag20) fuel (r28, (0 : Int))))) else (_world_Net__nodes_k1 r3 (a21.2))
def m__world_Net__nodes (fuel : Nat) (p0 : Int × List (Int) × List (Int) × List (Int) × Bool × Bool) (p1 : Int) : Option ((List (Int) × (List (List (Int × Int))))) :=
 Option.bind (m_world_Within fuel (wI .i64 (p0.1 - (1 : Int))) p1) fun r3 => (ck (0 ≤ (wI .i64 ((1 : Int) + r3)) ∧ (wI .i64 ((1 : Int) + r3)) ≤ 1099511627) (iter (_world_Net__nodes_s1 fuel p0 r3) fuel ((0 : Int), ([] : List Int))))
theorem body37 : HasBody Tryz.prog 37 := Tryz.call37
theorem t__world_Net__nodes (fuel : Nat) {p0 : Int × List (Int) × List (Int) × List (Int) × Bool × Bool} {p1 : Int} (v0 : Value)  (v1 : Value)  (v2 : Value) (r : (List (Int) × (List (List (Int × Int))))) (h : m__world_Net__nodes fuel p0 p1 = some r) :
  Meets Tryz.prog 37 #[Value.agg #[Value.int .i64 (p0.1), v0, v1, v2, Value.bool (p0.2.2.2.2.1), Value.bool (p0.2.2.2.2.2)], Value.int .i64 (p1)] [Sl RI64 v0 p0.2.1, Sl RI64 v1 p0.2.2.1, Sl RI64 v2 p0.2.2.2.1] (fun x : Value × Value × List Value => Value.agg #[x.1, x.2.1]) (fun x l => Ar EI64 x.1 r.1 :: Ar Enc.raw x.2.1 x.2.2 :: Rws EI64I64p x.2.2 r.2 :: l) (fun _ l => l) := by
 refine Meets.of (vs := [Value.agg #[Value.int .i64 (p0.1), v0, v1, v2, Value.bool (p0.2.2.2.2.1), Value.bool (p0.2.2.2.2.2)], Value.int .i64 (p1)]) Tryz.func37 rfl Tryz.ntmps37 rfl fun c => ?_
 unfold m__world_Net__nodes at h
 refine J.seq <| J.region <| J.loud (Loud.box (cs := [Value.int .i64 (p0.1), v0, v1, v2, Value.bool (p0.2.2.2.2.1), Value.bool (p0.2.2.2.2.2)]) rfl rfl) rfl fun b1 => J.loud (Loud.alloc (cs := [Value.slice none 0 0, Value.slice none 0 0]) rfl rfl) rfl fun b2 => J.done <| J.thenN <| J.seq <| J.region <| J.quiet (Y.fieldB rfl rfl rfl rfl rfl) rfl <| J.quiet (Y.loadB 1 rfl rfl rfl rfl rfl) rfl <| J.quiet (Y.subW rfl rfl) rfl <| J.quiet (Y.move rfl) rfl ?_
 have h := bnd h; obtain ⟨r3, hr4, h⟩ := h
 refine J.loud (Loud.callL body38 (t_world_Within fuel  r3 hr4) rfl .nil (fun _ _ => rfl)) rfl fun x5 => J.quiet (Y.addW rfl rfl) rfl <| J.quiet (Y.assign rfl) rfl <| J.done <| J.thenN <| J.seq <| J.region <| J.quiet (Y.move rfl) rfl ?_
 have h := ck_some h; obtain ⟨hc6, h⟩ := h
 refine J.stp (Stp.rowsNew EI64I64p (Int.toNat (wI .i64 ((1 : Int) + r3)))) <| J.loud (Loud.makeS (e := Enc.raw) (Value.slice none 0 0) rfl rfl rfl rfl hc6 rfl rfl rfl) rfl fun u7 => J.know (Know.one (Lent.sl (Lent.rows (i := 0) (j := 1) rfl rfl FI64I64p))) fun ho8 => ?_
 refine J.quiet (Y.bld1 (r := Value.agg #[Value.slice none 0 0, u7]) rfl (by intro w; simp [Instr.build, Instr.fill, cells_intV, cells_boolV, cells_sliceV, cells_ptrV, cells_strV, cells_funcV, cells_agg, one_cells ho8])) rfl ?_
 refine J.loud (Loud.alloc (cs := [Value.slice none 0 0, Value.slice none 0 0]) rfl rfl) rfl fun b9 => J.know (Know.one (Lent.sl (Lent.rows (i := 1) (j := 2) rfl rfl FI64I64p))) fun ho10 => J.storeAll 0 (vs := [Value.slice none 0 0, u7]) rfl rfl (all1 rfl (all1 ho10 rfl)) rfl rfl rfl <| J.done <| J.thenN <| J.seq <| J.midI (A := List (Int)) (B := Value) (fun a13 => _world_Net__nodes_k1 r3 a13 = some r) (fun a13 b14 => [(4, Value.pointer (some ⟨b2, 0, none⟩)), (6, Value.pointer (some ⟨b9, 0, none⟩))]) (fun a13 b14 => [Blk b9 [b14, u7] 25, Ar Enc.raw u7 (List.replicate (Int.toNat (wI .i64 ((1 : Int) + r3))) (Value.slice none 0 0)), Rws EI64I64p (List.replicate (Int.toNat (wI .i64 ((1 : Int) + r3))) (Value.slice none 0 0)) (List.replicate (Int.toNat (wI .i64 ((1 : Int) + r3))) ([] : List (Int × Int))), Blk b2 [Value.slice none 0 0, Value.slice none 0 0] 25, Ar EI64 b14 a13]) (fun a13 b14 => [Sl RI64 v0 p0.2.1, Sl RI64 v1 p0.2.2.1, Sl RI64 v2 p0.2.2.2.1]) ?_ ?_
 ·refine J.seq <| J.region <| J.quiet (Y.assign rfl) rfl <| J.done <| J.thenN <| J.block <| J.stp (Stp.nilAr EI64) <| J.loopI (A := Int × List (Int)) (B := Value) (_world_Net__nodes_s1 fuel p0 r3) (fun a21 b22 => [(2, Value.pointer (some ⟨b1, 0, none⟩)), (4, Value.pointer (some ⟨b2, 0, none⟩)), (5, Value.int .i64 (wI .i64 ((1 : Int) + r3))), (6, Value.pointer (some ⟨b9, 0, none⟩)), (7, Value.int .i64 (a21.1))]) (fun a21 b22 => [Blk b9 [b22, u7] 25, Ar Enc.raw u7 (List.replicate (Int.toNat (wI .i64 ((1 : Int) + r3))) (Value.slice none 0 0)), Rws EI64I64p (List.replicate (Int.toNat (wI .i64 ((1 : Int) + r3))) (Value.slice none 0 0)) (List.replicate (Int.toNat (wI .i64 ((1 : Int) + r3))) ([] : List (Int × Int))), Blk b2 [Value.slice none 0 0, Value.slice none 0 0] 25, Blk b1 [Value.int .i64 (p0.1), v0, v1, v2, Value.bool (p0.2.2.2.2.1), Value.bool (p0.2.2.2.2.2)] 33, Ar EI64 b22 a21.2]) (fun a21 b22 => [Sl RI64 v0 p0.2.1, Sl RI64 v1 p0.2.2.1, Sl RI64 v2 p0.2.2.2.1]) ((0 : Int), ([] : List Int)) (Value.slice none 0 0) h SF (SubM.cons 1 rfl (SubM.cons 1 rfl (SubM.cons 1 rfl (SubM.cons 1 rfl (SubM.cons 1 rfl (SubM.cons 0 rfl (SubM.nil))))))) (LentAll.refl _ _) ?_
  clear h
  intro k23 a21 b22 h
  unfold _world_Net__nodes_s1 at h
  refine J.seq <| J.seq <| J.region <| J.quiet (Y.move rfl) rfl <| J.quiet (Y.move rfl) rfl <| J.quiet (Y.lss rfl rfl) rfl <| J.done <| J.thenN ?_
  refine J.condD (by exact rfl) (fun hp24 => ?_) (fun hp24 => ?_)
  ·have h := ifP hp24 h
   refine J.skip <| J.thenN <| J.seq <| J.block <| J.seq <| J.region <| J.quiet (Y.fieldB rfl rfl rfl rfl rfl) rfl <| J.quiet (Y.loadB 4 rfl rfl rfl rfl rfl) rfl <| J.quiet (Y.move rfl) rfl ?_
   have h := bnd h; obtain ⟨r25, hr26, h⟩ := h
   refine J.loud (Loud.callL body39 (t_world_at fuel v2 r25 hr26) rfl (LentAll.cons (Lent.fact 2 rfl) .nil) (fun _ _ => rfl)) rfl fun x27 => ?_
   have h := bnd h; obtain ⟨r28, hr29, h⟩ := h
   refine J.loud (Loud.callL body38 (t_world_Within fuel  r28 hr29) rfl .nil (fun _ _ => rfl)) rfl fun x30 => J.quiet (Y.assign rfl) rfl <| J.done <| J.thenN <| J.seq <| J.midI (A := Int) (B := Unit) (fun a32 => _world_Net__nodes_k2 a21 (iter (_world_Net__nodes_s1 fuel p0 r3) k23) a32 = some r) (fun a32 b33 => [(2, Value.pointer (some ⟨b1, 0, none⟩)), (4, Value.pointer (some ⟨b2, 0, none⟩)), (5, Value.int .i64 (wI .i64 ((1 : Int) + r3))), (6, Value.pointer (some ⟨b9, 0, none⟩)), (7, Value.int .i64 (a21.1)), (8, Value.int .i64 (a32))]) (fun a32 b33 => [Blk b9 [b22, u7] 25, Ar Enc.raw u7 (List.replicate (Int.toNat (wI .i64 ((1 : Int) + r3))) (Value.slice none 0 0)), Rws EI64I64p (List.replicate (Int.toNat (wI .i64 ((1 : Int) + r3))) (Value.slice none 0 0)) (List.replicate (Int.toNat (wI .i64 ((1 : Int) + r3))) ([] : List (Int × Int))), Blk b2 [Value.slice none 0 0, Value.slice none 0 0] 25, Blk b1 [Value.int .i64 (p0.1), v0, v1, v2, Value.bool (p0.2.2.2.2.1), Value.bool (p0.2.2.2.2.2)] 33, Ar EI64 b22 a21.2]) (fun a32 b33 => [Sl RI64 v0 p0.2.1, Sl RI64 v1 p0.2.2.1, Sl RI64 v2 p0.2.2.2.1]) ?_ ?_
   ·refine J.seq <| J.region <| J.quiet (Y.assign rfl) rfl <| J.done <| J.thenN <| J.block <| J.loopI (A := Int × Int) (B := Unit) (_world_Net__nodes_s2 a21 (iter (_world_Net__nodes_s1 fuel p0 r3) k23)) (fun a41 b42 => [(2, Value.pointer (some ⟨b1, 0, none⟩)), (4, Value.pointer (some ⟨b2, 0, none⟩)), (5, Value.int .i64 (wI .i64 ((1 : Int) + r3))), (6, Value.pointer (some ⟨b9, 0, none⟩)), (7, Value.int .i64 (a21.1)), (8, Value.int .i64 (a41.1)), (9, Value.int .i64 (a41.2))]) (fun a41 b42 => [Blk b9 [b22, u7] 25, Ar Enc.raw u7 (List.replicate (Int.toNat (wI .i64 ((1 : Int) + r3))) (Value.slice none 0 0)), Rws EI64I64p (List.replicate (Int.toNat (wI .i64 ((1 : Int) + r3))) (Value.slice none 0 0)) (List.replicate (Int.toNat (wI .i64 ((1 : Int) + r3))) ([] : List (Int × Int))), Blk b2 [Value.slice none 0 0, Value.slice none 0 0] 25, Blk b1 [Value.int .i64 (p0.1), v0, v1, v2, Value.bool (p0.2.2.2.2.1), Value.bool (p0.2.2.2.2.2)] 33, Ar EI64 b22 a21.2]) (fun a41 b42 => [Sl RI64 v0 p0.2.1, Sl RI64 v1 p0.2.2.1, Sl RI64 v2 p0.2.2.2.1]) (r28, (0 : Int)) (()) h SF (SubM.refl _) (LentAll.refl _ _) ?_
    clear h
    intro k43 a41 b42 h
    unfold _world_Net__nodes_s2 at h
    refine J.seq <| J.seq <| J.region <| J.quiet (Y.move rfl) rfl <| J.quiet (Y.move rfl) rfl <| J.quiet (Y.lss rfl rfl) rfl <| J.done <| J.thenN ?_
    refine J.condD (by exact rfl) (fun hp44 => ?_) (fun hp44 => ?_)
    ·have h := ifP hp44 h
     refine J.skip <| J.thenN <| J.seq <| J.midI (A := Int × Int) (B := Unit) (fun a47 => _world_Net__nodes_k3 (iter (_world_Net__nodes_s2 a21 (iter (_world_Net__nodes_s1 fuel p0 r3) k23)) k43) a47 = some r) (fun a47 b48 => [(2, Value.pointer (some ⟨b1, 0, none⟩)), (4, Value.pointer (some ⟨b2, 0, none⟩)), (5, Value.int .i64 (wI .i64 ((1 : Int) + r3))), (6, Value.pointer (some ⟨b9, 0, none⟩)), (7, Value.int .i64 (a21.1)), (8, Value.int .i64 (a47.1)), (9, Value.int .i64 (a47.2))]) (fun a47 b48 => [Blk b9 [b22, u7] 25, Ar Enc.raw u7 (List.replicate (Int.toNat (wI .i64 ((1 : Int) + r3))) (Value.slice none 0 0)), Rws EI64I64p (List.replicate (Int.toNat (wI .i64 ((1 : Int) + r3))) (Value.slice none 0 0)) (List.replicate (Int.toNat (wI .i64 ((1 : Int) + r3))) ([] : List (Int × Int))), Blk b2 [Value.slice none 0 0, Value.slice none 0 0] 25, Blk b1 [Value.int .i64 (p0.1), v0, v1, v2, Value.bool (p0.2.2.2.2.1), Value.bool (p0.2.2.2.2.2)] 33, Ar EI64 b22 a21.2]) (fun a47 b48 => [Sl RI64 v0 p0.2.1, Sl RI64 v1 p0.2.2.1, Sl RI64 v2 p0.2.2.2.1]) ?_ ?_
     ·refine J.block <| J.seq <| J.region <| J.quiet (Y.fieldB rfl rfl rfl rfl rfl) rfl <| J.quiet (Y.loadB 0 rfl rfl rfl rfl rfl) rfl <| J.quiet (Y.move rfl) rfl ?_
      have h := ck_some h; obtain ⟨hc49, h⟩ := h
      refine J.quiet (Y.indexS rfl rfl (Lent.ar (Lent.res 5 rfl) FI64) rfl rfl hc49) rfl <| J.quiet (Y.loadS0 rfl (Lent.ar (Lent.res 5 rfl) FI64) rfl rfl rfl RI64c0 hc49) rfl <| J.quiet (Y.move rfl) rfl <| J.quiet (Y.eql rfl rfl) rfl <| J.done <| J.thenN ?_
      refine J.condD (by exact rfl) (fun hp50 => ?_) (fun hp50 => ?_)
      ·have h := ifP hp50 h
       refine J.region <| J.quiet (Y.move rfl) rfl <| J.quiet (Y.addW rfl rfl) rfl ?_
       have h := ck_some h; obtain ⟨hc51, h⟩ := h
       refine J.quiet (Y.rem rfl rfl hc51) rfl <| J.quiet (Y.assign rfl) rfl <| J.quiet (Y.assign rfl) rfl <| J.done <| J.inN <| J.thenN ?_
       exact J.meetI ((Int.tmod (wI .i64 (a41.1 + (1 : Int))) (256 : Int)), (-1 : Int)) (()) h SF (SubM.refl _) (LentAll.refl _ _)
      ·have h := ifN hp50 h
       refine J.skip <| J.inN <| J.thenN ?_
       exact J.meetI (a41.1, a41.2) (()) h SF (SubM.refl _) (LentAll.refl _ _)
     ·clear h
      intro a47 b48 h
      unfold _world_Net__nodes_k3 at h
      refine J.region <| J.quiet (Y.move rfl) rfl <| J.quiet (Y.addW rfl rfl) rfl <| J.quiet (Y.assign rfl) rfl <| J.done <| J.thenN ?_
      exact J.againI (a47.1, (wI .i64 (a47.2 + (1 : Int)))) (()) h SF (SubM.refl _) (LentAll.refl _ _)
    ·have h := ifN hp44 h
     refine J.exit <| J.thenX <| J.thenX <| J.inX <| J.thenN ?_
     exact J.meetI (a41.1) (()) h SF (SubM.refl _) (LentAll.refl _ _)
   ·clear h
    intro a32 b33 h
    unfold _world_Net__nodes_k2 at h
    refine J.region <| J.quiet (Y.fieldB rfl rfl rfl rfl rfl) rfl <| J.quiet (Y.loadB 0 rfl rfl rfl rfl rfl) rfl <| J.quiet (Y.move rfl) rfl <| J.loud (Loud.buildS (e := EI64) ([a32]) [(0, Value.int .i64 (a32))] rfl rfl rfl rfl (fill_1_1 (Value.int .i64 (a32)) rfl) rfl rfl rfl) rfl fun u34 => ?_
    have h := ck_some h; obtain ⟨hc36, h⟩ := h
    refine J.loud (Loud.appendL 6 FI64 rfl rfl rfl (Lent.ar (Lent.res 0 rfl) FI64) rfl rfl rfl rfl hc36 rfl) rfl fun u35 => J.quiet (Y.fieldB rfl rfl rfl rfl rfl) rfl <| J.know (Know.one ((Lent.ar (Lent.res 6 rfl) FI64))) fun ho37 => J.store1 1 rfl rfl ho37 rfl rfl rfl <| J.done <| J.inN <| J.thenN <| J.region <| J.quiet (Y.move rfl) rfl <| J.quiet (Y.addW rfl rfl) rfl <| J.quiet (Y.assign rfl) rfl <| J.done <| J.thenN ?_
    exact J.againI ((wI .i64 (a21.1 + (1 : Int))), (a21.2 ++ [a32])) (u35) h SF (SubM.cons 1 rfl (SubM.cons 1 rfl (SubM.cons 1 rfl (SubM.cons 1 rfl (SubM.cons 1 rfl (SubM.cons 1 rfl (SubM.nil))))))) (LentAll.refl _ _)
  ·have h := ifN hp24 h
   refine J.exit <| J.thenX <| J.thenX <| J.inX <| J.thenN ?_
   exact J.meetI (a21.2) (b22) h SF (SubM.cons 0 rfl (SubM.cons 0 rfl (SubM.cons 0 rfl (SubM.cons 0 rfl (SubM.cons 1 rfl (SubM.nil)))))) (LentAll.refl _ _)
 ·clear h
  intro a13 b14 h
  unfold _world_Net__nodes_k1 at h
  refine J.seq <| J.region <| J.quiet (Y.loadBAll 0 rfl rfl rfl rfl) rfl <| J.know (Know.one ((Lent.ar (Lent.res 4 rfl) FI64))) fun ho15 => J.know (Know.one (Lent.sl (Lent.rows (i := 1) (j := 2) rfl rfl FI64I64p))) fun ho16 => J.storeAll 3 (vs := [b14, u7]) rfl rfl (all1 ho15 (all1 ho16 rfl)) rfl rfl rfl <| J.done <| J.thenN <| J.ret ?_
  obtain rfl := Option.some.inj h
  exact J.retG1 (b14, u7, (List.replicate (Int.toNat (wI .i64 ((1 : Int) + r3))) (Value.slice none 0 0))) rfl rfl (RV.cell 3 rfl rfl rfl rfl) (SubM.cons 4 rfl (SubM.cons 1 rfl (SubM.cons 1 rfl (SubM.nil)))) LentAll.nil
end Go.Proofs.YtfimaabbclepbaaGreat
end
section
namespace Go.Proofs.YtfimaabbclepbaaGreat
open Go.Sx
def world_linked_k1  (a2 : Unit) : Option (Bool) :=
 some (false)
def world_linked_s1 (p0 : List (Int) × (List (List (Int × Int)))) (p1 : Int) (p2 : Int) (a6 : Int) (ag5 : (Int) → Option (Bool)) : Option (Bool) :=
 ck (0 ≤ p1 ∧ p1 < (List.length p0.2 : Int)) (if a6 < (List.length (at' p0.2 p1) : Int) then (ck (0 ≤ p1 ∧ p1 < (List.length p0.2 : Int)) (ck (0 ≤ a6 ∧ a6 < (List.length (at' p0.2 p1) : Int)) (if ((at' (at' p0.2 p1) a6).1) = p2 then (some (true)) else (ag5 (wI .i64 (a6 + (1 : Int))))))) else (world_linked_k1  (())))
def m_world_linked (fuel : Nat) (p0 : List (Int) × (List (List (Int × Int)))) (p1 : Int) (p2 : Int) : Option (Bool) :=
 iter (world_linked_s1 p0 p1 p2) fuel (0 : Int)
theorem body55 : HasBody Tryz.prog 55 := Tryz.call55
theorem t_world_linked (fuel : Nat) {p0 : List (Int) × (List (List (Int × Int)))} {p1 : Int} {p2 : Int} (v0 : Value)  (v1 : Value)  (z2 : List (Value × List (Int × Int))) (r : Bool) (h : m_world_linked fuel p0 p1 p2 = some r) :
  Meets Tryz.prog 55 #[Value.agg #[v0, v1], Value.int .i64 (p1), Value.int .i64 (p2)] [Sl RI64 v0 p0.1, S2 RI64I64p v1 z2 p0.2] (fun x : Unit => Value.bool (r)) (fun x l => l) (fun _ l => l) := by
 refine Meets.of (vs := [Value.agg #[v0, v1], Value.int .i64 (p1), Value.int .i64 (p2)]) Tryz.func55 rfl Tryz.ntmps55 rfl fun c => ?_
 unfold m_world_linked at h
 refine J.seq <| J.region <| J.loud (Loud.box (cs := [v0, v1]) rfl rfl) rfl fun b1 => J.quiet (Y.assign rfl) rfl <| J.done <| J.thenN <| J.seq <| J.midI (A := Unit) (B := Unit) (fun a2 => world_linked_k1  a2 = some r) (fun a2 b3 => []) (fun a2 b3 => []) (fun a2 b3 => [Sl RI64 v0 p0.1, S2 RI64I64p v1 z2 p0.2]) ?_ ?_
 ·refine J.seq <| J.region <| J.quiet (Y.assign rfl) rfl <| J.done <| J.thenN <| J.block <| J.loopI (A := Int) (B := Unit) (world_linked_s1 p0 p1 p2) (fun a6 b7 => [(1, Value.int .i64 (p1)), (2, Value.int .i64 (p2)), (3, Value.pointer (some ⟨b1, 0, none⟩)), (7, Value.int .i64 (a6))]) (fun a6 b7 => [Blk b1 [v0, v1] 25]) (fun a6 b7 => [Sl RI64 v0 p0.1, S2 RI64I64p v1 z2 p0.2]) (0 : Int) (()) h SF (SubM.refl _) (LentAll.refl _ _) ?_
  clear h
  intro k8 a6 b7 h
  unfold world_linked_s1 at h
  refine J.seq <| J.seq <| J.region <| J.quiet (Y.move rfl) rfl <| J.quiet (Y.fieldB rfl rfl rfl rfl rfl) rfl <| J.quiet (Y.loadB 0 rfl rfl rfl rfl rfl) rfl <| J.quiet (Y.move rfl) rfl ?_
  have h := ck_some h; obtain ⟨hc9, h⟩ := h
  refine J.quiet (Y.indexN rfl rfl (Lent.fact 1 rfl) rfl rfl hc9) rfl <| J.quiet (Y.loadRow rfl (Lent.fact 1 rfl) rfl rfl hc9) rfl <| J.quiet (Y.lenS rfl (Lent.el (Lent.fact 1 rfl) hc9.1 hc9.2) rfl) rfl <| J.quiet (Y.lss rfl rfl) rfl <| J.done <| J.thenN ?_
  refine J.condD (by exact rfl) (fun hp10 => ?_) (fun hp10 => ?_)
  ·have h := ifP hp10 h
   refine J.skip <| J.thenN <| J.seq <| J.block <| J.seq <| J.region <| J.quiet (Y.fieldB rfl rfl rfl rfl rfl) rfl <| J.quiet (Y.loadB 0 rfl rfl rfl rfl rfl) rfl <| J.quiet (Y.move rfl) rfl ?_
   have h := ck_some h; obtain ⟨hc11, h⟩ := h
   refine J.quiet (Y.indexN rfl rfl (Lent.fact 1 rfl) rfl rfl hc11) rfl <| J.quiet (Y.loadRow rfl (Lent.fact 1 rfl) rfl rfl hc11) rfl <| J.quiet (Y.move rfl) rfl ?_
   have h := ck_some h; obtain ⟨hc12, h⟩ := h
   refine J.quiet (Y.indexS rfl rfl (Lent.el (Lent.fact 1 rfl) hc11.1 hc11.2) rfl rfl hc12) rfl <| J.quiet (Y.fieldEl rfl rfl rfl rfl rfl) rfl <| J.quiet (Y.loadS rfl (Lent.el (Lent.fact 1 rfl) hc11.1 hc11.2) rfl rfl rfl RI64I64pc0 hc12) rfl <| J.quiet (Y.move rfl) rfl <| J.quiet (Y.eql rfl rfl) rfl <| J.done <| J.thenN ?_
   refine J.condD (by exact rfl) (fun hp13 => ?_) (fun hp13 => ?_)
   ·have h := ifP hp13 h
    refine J.seq <| J.region <| J.quiet (Y.assign rfl) rfl <| J.done <| J.thenN <| J.ret <| J.inR <| J.thenR <| J.thenR <| J.inR <| J.thenR ?_
    obtain rfl := Option.some.inj h
    exact J.retG1 (()) rfl rfl (RV.tmp rfl) (SubM.nil) LentAll.nil
   ·have h := ifN hp13 h
    refine J.skip <| J.inN <| J.thenN <| J.region <| J.quiet (Y.move rfl) rfl <| J.quiet (Y.addW rfl rfl) rfl <| J.quiet (Y.assign rfl) rfl <| J.done <| J.thenN ?_
    exact J.againI (wI .i64 (a6 + (1 : Int))) (()) h SF (SubM.refl _) (LentAll.refl _ _)
  ·have h := ifN hp10 h
   refine J.exit <| J.thenX <| J.thenX <| J.inX <| J.thenN ?_
   exact J.meetI (()) (()) h SF (SubM.nil) (LentAll.refl _ _)
 ·clear h
  intro a2 b3 h
  unfold world_linked_k1 at h
  refine J.seq <| J.region <| J.quiet (Y.assign rfl) rfl <| J.done <| J.thenN <| J.ret ?_
  obtain rfl := Option.some.inj h
  exact J.retG1 (()) rfl rfl (RV.tmp rfl) (SubM.refl _) LentAll.nil
end Go.Proofs.YtfimaabbclepbaaGreat
end
section
namespace Go.Proofs.YtfimaabbclepbaaGreat
open Go.Sx
def _world_Net__link_k1 (p0 : Int × List (Int) × List (Int) × List (Int) × Bool × Bool) (p1 : List (Int) × (List (List (Int × Int)))) (p2 : Int) (p3 : Int) (p4 : Int) (a4 : Bool) : Option ((List (List (Int × Int)))) :=
 if a4 = true then (some (p1.2)) else (if p0.2.2.2.2.2 = true then (ck (0 ≤ p2 ∧ p2 < (List.length p1.2 : Int)) (ck ((List.length ([ (p3, p4)]) : Int) + (List.length (at' p1.2 p2) : Int) ≤ 1099511627) (ck (0 ≤ p2 ∧ p2 < (List.length p1.2 : Int)) (ck (0 ≤ p3 ∧ p3 < (List.length (List.set p1.2 (Int.toNat p2) (([ (p3, p4)]) ++ (at' p1.2 p2))) : Int)) (ck ((List.length ([ (p2, p4)]) : Int) + (List.length (at' (List.set p1.2 (Int.toNat p2) (([ (p3, p4)]) ++ (at' p1.2 p2))) p3) : Int) ≤ 1099511627) (ck (0 ≤ p3 ∧ p3 < (List.length (List.set p1.2 (Int.toNat p2) (([ (p3, p4)]) ++ (at' p1.2 p2))) : Int)) (some (List.set (List.set p1.2 (Int.toNat p2) (([ (p3, p4)]) ++ (at' p1.2 p2))) (Int.toNat p3) (([ (p2, p4)]) ++ (at' (List.set p1.2 (Int.toNat p2) (([ (p3, p4)]) ++ (at' p1.2 p2))) p3)))))))))) else (ck (0 ≤ p2 ∧ p2 < (List.length p1.2 : Int)) (ck (0 ≤ p3 ∧ p3 < (List.length p1.2 : Int)) (ck ((List.length (at' p1.2 p2) : Int) + (List.length ([ (p3, p4)]) : Int) ≤ 1099511627) (ck ((List.length (at' p1.2 p3) : Int) + (List.length ([ (p2, p4)]) : Int) ≤ 1099511627) (ck (Int.toNat p2 ≠ Int.toNat p3) (ck (0 ≤ p2 ∧ p2 < (List.length (List.set (List.set p1.2 (Int.toNat p2) ((at' p1.2 p2) ++ ([ (p3, p4)]))) (Int.toNat p3) ((at' p1.2 p3) ++ ([ (p2, p4)]))) : Int)) (ck (0 ≤ p3 ∧ p3 < (List.length (List.set (List.set p1.2 (Int.toNat p2) ((at' p1.2 p2) ++ ([ (p3, p4)]))) (Int.toNat p3) ((at' p1.2 p3) ++ ([ (p2, p4)]))) : Int)) (some (List.set (List.set p1.2 (Int.toNat p2) ((at' p1.2 p2) ++ ([ (p3, p4)]))) (Int.toNat p3) ((at' p1.2 p3) ++ ([ (p2, p4)]))))))))))))
def m__world_Net__link (fuel : Nat) (p0 : Int × List (Int) × List (Int) × List (Int) × Bool × Bool) (p1 : List (Int) × (List (List (Int × Int)))) (p2 : Int) (p3 : Int) (p4 : Int) : Option ((List (List (Int × Int)))) :=
 if p2 = p3 then (_world_Net__link_k1 p0 p1 p2 p3 p4 (true)) else (Option.bind (m_world_linked fuel ((p1.1, p1.2)) p2 p3) fun r86 => (_world_Net__link_k1 p0 p1 p2 p3 p4 (r86)))
theorem body43 : HasBody Tryz.prog 43 := Tryz.call43
theorem t__world_Net__link (fuel : Nat) {p0 : Int × List (Int) × List (Int) × List (Int) × Bool × Bool} {p1 : List (Int) × (List (List (Int × Int)))} {p2 : Int} {p3 : Int} {p4 : Int} (v0 : Value)  (v1 : Value)  (v2 : Value)  (v3 : Value)  (v4 : Value)  (w5 : List Value) (r : (List (List (Int × Int)))) (h : m__world_Net__link fuel p0 p1 p2 p3 p4 = some r) :
  MeetsM Tryz.prog 43 #[Value.agg #[Value.int .i64 (p0.1), v0, v1, v2, Value.bool (p0.2.2.2.2.1), Value.bool (p0.2.2.2.2.2)], Value.agg #[v3, v4], Value.int .i64 (p2), Value.int .i64 (p3), Value.int .i64 (p4)] [Ar Enc.raw v4 w5, Rws EI64I64p w5 p1.2] [Sl RI64 v0 p0.2.1, Sl RI64 v1 p0.2.2.1, Sl RI64 v2 p0.2.2.2.1, Sl RI64 v3 p1.1] (fun x : List Value => Value.tuple #[]) (fun x l => Ar Enc.raw v4 x :: Rws EI64I64p x r :: l) := by
 refine MeetsM.of (vs := [Value.agg #[Value.int .i64 (p0.1), v0, v1, v2, Value.bool (p0.2.2.2.2.1), Value.bool (p0.2.2.2.2.2)], Value.agg #[v3, v4], Value.int .i64 (p2), Value.int .i64 (p3), Value.int .i64 (p4)]) Tryz.func43 rfl Tryz.ntmps43 rfl fun c => ?_
 unfold m__world_Net__link at h
 refine J.seq <| J.region <| J.loud (Loud.box (cs := [Value.int .i64 (p0.1), v0, v1, v2, Value.bool (p0.2.2.2.2.1), Value.bool (p0.2.2.2.2.2)]) rfl rfl) rfl fun b1 => J.loud (Loud.box (cs := [v3, v4]) rfl rfl) rfl fun b2 => J.done <| J.thenN <| J.seq <| J.seq <| J.midI (A := Bool) (B := Unit) (fun a4 => _world_Net__link_k1 p0 p1 p2 p3 p4 a4 = some r) (fun a4 b5 => [(2, Value.int .i64 (p2)), (3, Value.int .i64 (p3)), (4, Value.int .i64 (p4)), (5, Value.pointer (some ⟨b1, 0, none⟩)), (6, Value.pointer (some ⟨b2, 0, none⟩)), (20, Value.bool (a4))]) (fun a4 b5 => [Blk b2 [v3, v4] 25, Blk b1 [Value.int .i64 (p0.1), v0, v1, v2, Value.bool (p0.2.2.2.2.1), Value.bool (p0.2.2.2.2.2)] 33, Ar Enc.raw v4 w5, Rws EI64I64p w5 p1.2]) (fun a4 b5 => [Sl RI64 v0 p0.2.1, Sl RI64 v1 p0.2.2.1, Sl RI64 v2 p0.2.2.2.1, Sl RI64 v3 p1.1]) ?_ ?_
 ·refine J.region <| J.quiet (Y.move rfl) rfl <| J.quiet (Y.move rfl) rfl <| J.quiet (Y.eql rfl rfl) rfl <| J.quiet (Y.move rfl) rfl ?_
  refine J.guardD (by exact rfl) (by exact rfl) (fun hp85 => ?_) (fun hp85 => ?_)
  ·have h := ifP hp85 h
   refine J.guardN rfl rfl rfl <| J.guardN rfl rfl rfl <| J.guardN rfl rfl rfl <| J.guardN rfl rfl rfl <| J.quiet (Y.pickT rfl rfl) rfl <| J.done <| J.thenN ?_
   exact J.meetI (true) (()) h SF (SubM.refl _) (LentAll.refl _ _)
  ·have h := ifN hp85 h
   refine J.guardY rfl (Y.loadBAll 0 rfl rfl rfl rfl) rfl <| J.guardY rfl (Y.move rfl) rfl <| J.guardY rfl (Y.move rfl) rfl ?_
   have h := bnd h; obtain ⟨r86, hr87, h⟩ := h
   refine J.loudG rfl (Loud.callL body55 (t_world_linked fuel v3 v4 (List.zip w5 p1.2) r86 hr87) rfl (LentAll.cons (Lent.fact 3 rfl) (LentAll.cons (Lent.rows (i := 2) (j := 3) rfl rfl FI64I64p) .nil)) (fun _ _ => rfl)) rfl fun x88 => J.quiet (Y.pickF rfl rfl) rfl <| J.done <| J.thenN ?_
   exact J.meetI (r86) (()) h SF (SubM.refl _) (LentAll.refl _ _)
 ·clear h
  intro a4 b5 h
  unfold _world_Net__link_k1 at h
  refine J.cond (by exact rfl) (fun hp6 => ?_) (fun hp6 => ?_)
  ·have h := ifP hp6 h
   refine J.ret <| J.thenR ?_
   obtain rfl := Option.some.inj h
   exact J.retG0 (w5) rfl rfl .ret (.inl rfl) (SubM.cons 2 rfl (SubM.cons 2 rfl (SubM.nil))) LentAll.nil
  ·have h := ifBN hp6 h
   refine J.skip <| J.thenN <| J.seq <| J.region <| J.quiet (Y.move rfl) rfl <| J.quiet (Y.move rfl) rfl ?_
   refine J.quiet (Y.bld2 (r := Value.agg #[Value.int .i64 (p3), Value.int .i64 (p4)]) rfl rfl (by intro w; simp [Instr.build, Instr.fill, cells_intV, cells_boolV, cells_sliceV, cells_ptrV, cells_strV, cells_funcV, cells_agg])) rfl ?_
   refine J.quiet (Y.move rfl) rfl <| J.quiet (Y.move rfl) rfl ?_
   refine J.quiet (Y.bld2 (r := Value.agg #[Value.int .i64 (p2), Value.int .i64 (p4)]) rfl rfl (by intro w; simp [Instr.build, Instr.fill, cells_intV, cells_boolV, cells_sliceV, cells_ptrV, cells_strV, cells_funcV, cells_agg])) rfl ?_
   refine J.loud (Loud.alloc (cs := [Value.int .i64 (0 : Int), Value.int .i64 (0 : Int)]) rfl rfl) rfl fun b7 => J.loud (Loud.alloc (cs := [Value.int .i64 (0 : Int), Value.int .i64 (0 : Int)]) rfl rfl) rfl fun b8 => J.storeAll 1 (vs := [Value.int .i64 (p3), Value.int .i64 (p4)]) rfl rfl rfl rfl rfl rfl <| J.storeAll 0 (vs := [Value.int .i64 (p2), Value.int .i64 (p4)]) rfl rfl rfl rfl rfl rfl <| J.done <| J.thenN <| J.seq <| J.seq <| J.region <| J.quiet (Y.fieldB rfl rfl rfl rfl rfl) rfl <| J.quiet (Y.loadB 3 rfl rfl rfl rfl rfl) rfl <| J.done <| J.thenN ?_
   refine J.cond (by exact rfl) (fun hp9 => ?_) (fun hp9 => ?_)
   ·have h := ifP hp9 h
    refine J.seq ?_
    refine JR.start [0, 1, 0, 0, 8, 0, 32, 0, 224, 480, 1016, 2047, 4095] 11 mixedOrders (by decide +kernel) ?_
    refine JR.open (by exact rfl) ?_
    refine JR.qt rfl (SubM.nil) (SubL.nil) (Y.fieldB rfl rfl rfl rfl rfl) HistOk.z <| JR.qt rfl (SubM.cons 2 rfl (SubM.nil)) (SubL.nil) (Y.loadB 0 rfl rfl rfl rfl rfl) HistOk.z <| JR.qt rfl (SubM.nil) (SubL.nil) (Y.move rfl) HistOk.z <| JR.qt rfl (SubM.cons 1 rfl (SubM.nil)) (SubL.nil) (Y.loadBAll 0 rfl rfl rfl rfl) HistOk.z <| JR.loud rfl rfl rfl (Loud.buildS (e := EI64I64p) ([((p3, p4))]) [(0, Value.agg #[Value.int .i64 (p3), Value.int .i64 (p4)])] rfl rfl rfl rfl (fill_1_2 (Value.int .i64 (p3)) (Value.int .i64 (p4))) rfl rfl rfl) rfl (fun u10 => (BsOk.b rfl (BsOk.h (SubM.nil) (SubL.nil) (BsOk.h (SubM.cons 3 rfl (SubM.nil)) (SubL.nil) (BsOk.h (SubM.nil) (SubL.nil) BsOk.z))))) fun u10 => JR.qt rfl (SubM.nil) (SubL.nil) (Y.fieldB rfl rfl rfl rfl rfl) (HistOk.h (SubM.nil) (SubL.nil) HistOk.z) <| JR.qt rfl (SubM.cons 3 rfl (SubM.nil)) (SubL.nil) (Y.loadB 0 rfl rfl rfl rfl rfl) (HistOk.h (SubM.cons 2 rfl (SubM.nil)) (SubL.nil) HistOk.z) <| JR.qt rfl (SubM.nil) (SubL.nil) (Y.move rfl) (HistOk.h (SubM.nil) (SubL.nil) HistOk.z) ?_
    have h := ck_some h; obtain ⟨hc11, h⟩ := h
    refine JR.know (Know.rws 6 rfl) fun hl12 => ?_
    refine JR.qt rfl (SubM.cons 5 rfl (SubM.nil)) (SubL.nil) (Y.indexA 0 rfl rfl rfl rfl rfl hc11.1 (by have q1 := hc11.2; have q2 := hl12; (try simp only [List.length_set] at q1); (try simp only [List.length_set] at q2); (try simp only [List.length_set]); omega)) (HistOk.h (SubM.cons 4 rfl (SubM.nil)) (SubL.nil) HistOk.z) ?_
    refine JR.know (Know.rws 6 rfl) fun hl13 => JR.qt rfl (SubM.cons 5 rfl (SubM.nil)) (SubL.nil) (Y.loadRaw 0 rfl rfl hl13 rfl rfl hc11) (HistOk.h (SubM.cons 4 rfl (SubM.nil)) (SubL.nil) HistOk.z) ?_
    have h := ck_some h; obtain ⟨hc15, h⟩ := h
    refine JR.loud rfl rfl rfl (Loud.appendL 0 FI64I64p rfl rfl rfl (Lent.row (j := 6) rfl FI64I64p hc11.1 hc11.2) rfl rfl rfl rfl hc15 rfl) rfl (fun u14 => (BsOk.b rfl (BsOk.b rfl (BsOk.b rfl (BsOk.b rfl (BsOk.b rfl (BsOk.b rfl (BsOk.h (SubM.nil) (SubL.nil) (BsOk.h (SubM.cons 3 rfl (SubM.nil)) (SubL.nil) (BsOk.h (SubM.nil) (SubL.nil) BsOk.z)))))))))) fun u14 => JR.tailD 11 rfl rfl ?_
    have h := ck_some h; obtain ⟨hc16, h⟩ := h
    refine J.quiet (Y.indexN rfl rfl (Lent.rows (i := 5) (j := 6) rfl rfl FI64I64p) rfl rfl hc16) rfl <| J.know (Know.one ((Lent.ar (Lent.res 0 rfl) FI64I64p))) fun ho17 => J.stp (Stp.putRow (k := p2) 6 0 rfl rfl rfl hc16) ?_
    refine J.storeRow 4 5 ⟨hc16.1, by first | exact hc16.2 | simpa using hc16.2⟩ rfl rfl rfl rfl rfl (by simp) ho17 rfl ?_
    refine J.done <| J.thenN <| J.seq ?_
    refine JR.start [0, 1, 0, 0, 8, 0, 32, 0, 224, 480, 1016, 2047, 4095] 11 mixedOrders (by decide +kernel) ?_
    refine JR.open (by exact rfl) ?_
    refine JR.qt rfl (SubM.nil) (SubL.nil) (Y.fieldB rfl rfl rfl rfl rfl) HistOk.z <| JR.qt rfl (SubM.cons 2 rfl (SubM.nil)) (SubL.nil) (Y.loadB 0 rfl rfl rfl rfl rfl) HistOk.z <| JR.qt rfl (SubM.nil) (SubL.nil) (Y.move rfl) HistOk.z <| JR.qt rfl (SubM.cons 0 rfl (SubM.nil)) (SubL.nil) (Y.loadBAll 0 rfl rfl rfl rfl) HistOk.z <| JR.loud rfl rfl rfl (Loud.buildS (e := EI64I64p) ([((p2, p4))]) [(0, Value.agg #[Value.int .i64 (p2), Value.int .i64 (p4)])] rfl rfl rfl rfl (fill_1_2 (Value.int .i64 (p2)) (Value.int .i64 (p4))) rfl rfl rfl) rfl (fun u18 => (BsOk.b rfl (BsOk.h (SubM.nil) (SubL.nil) (BsOk.h (SubM.cons 3 rfl (SubM.nil)) (SubL.nil) (BsOk.h (SubM.nil) (SubL.nil) BsOk.z))))) fun u18 => JR.qt rfl (SubM.nil) (SubL.nil) (Y.fieldB rfl rfl rfl rfl rfl) (HistOk.h (SubM.nil) (SubL.nil) HistOk.z) <| JR.qt rfl (SubM.cons 3 rfl (SubM.nil)) (SubL.nil) (Y.loadB 0 rfl rfl rfl rfl rfl) (HistOk.h (SubM.cons 2 rfl (SubM.nil)) (SubL.nil) HistOk.z) <| JR.qt rfl (SubM.nil) (SubL.nil) (Y.move rfl) (HistOk.h (SubM.nil) (SubL.nil) HistOk.z) ?_
    have h := ck_some h; obtain ⟨hc19, h⟩ := h
    refine JR.know (Know.rws 6 rfl) fun hl20 => ?_
    refine JR.qt rfl (SubM.cons 5 rfl (SubM.nil)) (SubL.nil) (Y.indexA 0 rfl rfl rfl rfl rfl hc19.1 (by have q1 := hc19.2; have q2 := hl20; (try simp only [List.length_set] at q1); (try simp only [List.length_set] at q2); (try simp only [List.length_set]); omega)) (HistOk.h (SubM.cons 4 rfl (SubM.nil)) (SubL.nil) HistOk.z) ?_
    refine JR.know (Know.rws 6 rfl) fun hl21 => JR.qt rfl (SubM.cons 5 rfl (SubM.nil)) (SubL.nil) (Y.loadRaw 0 rfl rfl hl21 rfl rfl hc19) (HistOk.h (SubM.cons 4 rfl (SubM.nil)) (SubL.nil) HistOk.z) ?_
    have h := ck_some h; obtain ⟨hc23, h⟩ := h
    refine JR.loud rfl rfl rfl (Loud.appendL 0 FI64I64p rfl rfl rfl (Lent.row (j := 6) rfl FI64I64p hc19.1 hc19.2) rfl rfl rfl rfl hc23 rfl) rfl (fun u22 => (BsOk.b rfl (BsOk.b rfl (BsOk.b rfl (BsOk.b rfl (BsOk.b rfl (BsOk.b rfl (BsOk.h (SubM.nil) (SubL.nil) (BsOk.h (SubM.cons 3 rfl (SubM.nil)) (SubL.nil) (BsOk.h (SubM.nil) (SubL.nil) BsOk.z)))))))))) fun u22 => JR.tailD 11 rfl rfl ?_
    have h := ck_some h; obtain ⟨hc24, h⟩ := h
    refine J.quiet (Y.indexN rfl rfl (Lent.rows (i := 5) (j := 6) rfl rfl FI64I64p) rfl rfl hc24) rfl <| J.know (Know.one ((Lent.ar (Lent.res 0 rfl) FI64I64p))) fun ho25 => J.stp (Stp.putRow (k := p3) 6 0 rfl rfl rfl hc24) ?_
    refine J.storeRow 4 5 ⟨hc24.1, by first | exact hc24.2 | simpa using hc24.2⟩ rfl rfl rfl rfl rfl (by simp) ho25 rfl ?_
    refine J.done <| J.thenN <| J.ret <| J.thenR ?_
    obtain rfl := Option.some.inj h
    exact J.retG0 (List.set (List.set w5 (Int.toNat p2) u14) (Int.toNat p3) u22) rfl rfl .ret (.inl rfl) (SubM.cons 4 rfl (SubM.cons 4 rfl (SubM.nil))) LentAll.nil
   ·have h := ifBN hp9 h
    refine J.skip <| J.thenN ?_
    have h := ck_some h; obtain ⟨hc26, h⟩ := h
    have h := ck_some h; obtain ⟨hc29, h⟩ := h
    have h := ck_some h; obtain ⟨hc34, h⟩ := h
    have h := ck_some h; obtain ⟨hc37, h⟩ := h
    have h := ck_some h; obtain ⟨hc38, h⟩ := h
    have h := ck_some h; obtain ⟨hc39, h⟩ := h
    have h := ck_some h; obtain ⟨hc43, h⟩ := h
    refine JR.orders [0, 1, 0, 0, 8, 0, 0, 64, 0, 448, 960, 0, 2048, 8128, 0, 16384, 0, 114688, 245760, 0, 524288, 2097088, 4194247, 8388551, 16777215, 33554431] 24 [[0, 1, 2, 3, 4, 5, 6, 7, 8, 9, 10, 11, 14, 15, 16, 17, 18, 19, 12, 13, 20, 21, 22, 23, 24, 25], [0, 1, 2, 3, 4, 5, 6, 7, 8, 9, 10, 11, 14, 15, 16, 17, 18, 19, 12, 20, 13, 21, 22, 23, 24, 25], [0, 1, 2, 3, 4, 5, 6, 7, 8, 9, 10, 11, 14, 15, 16, 17, 18, 19, 20, 12, 13, 21, 22, 23, 24, 25]] mixedOrders (by decide +kernel) (by decide +kernel) ?_
    intro o ho
    simp only [List.mem_cons, List.not_mem_nil, or_false] at ho
    rcases ho with rfl | rfl | rfl
    ·refine JR.qt rfl (SubM.nil) (SubL.nil) (Y.fieldB rfl rfl rfl rfl rfl) HistOk.z <| JR.qt rfl (SubM.cons 2 rfl (SubM.nil)) (SubL.nil) (Y.loadB 0 rfl rfl rfl rfl rfl) HistOk.z <| JR.qt rfl (SubM.nil) (SubL.nil) (Y.move rfl) HistOk.z <| JR.qt rfl (SubM.nil) (SubL.nil) (Y.fieldB rfl rfl rfl rfl rfl) HistOk.z <| JR.qt rfl (SubM.cons 2 rfl (SubM.nil)) (SubL.nil) (Y.loadB 0 rfl rfl rfl rfl rfl) HistOk.z <| JR.qt rfl (SubM.nil) (SubL.nil) (Y.move rfl) HistOk.z <| JR.qt rfl (SubM.nil) (SubL.nil) (Y.fieldB rfl rfl rfl rfl rfl) HistOk.z <| JR.qt rfl (SubM.cons 2 rfl (SubM.nil)) (SubL.nil) (Y.loadB 0 rfl rfl rfl rfl rfl) HistOk.z <| JR.qt rfl (SubM.nil) (SubL.nil) (Y.move rfl) HistOk.z <| JR.know (Know.rws 5 rfl) fun hl46 => ?_
     refine JR.qt rfl (SubM.cons 4 rfl (SubM.nil)) (SubL.nil) (Y.indexA 0 rfl rfl rfl rfl rfl hc26.1 (by have q1 := hc26.2; have q2 := hl46; (try simp only [List.length_set] at q1); (try simp only [List.length_set] at q2); (try simp only [List.length_set]); omega)) HistOk.z ?_
     refine JR.know (Know.rws 5 rfl) fun hl47 => JR.qt rfl (SubM.cons 4 rfl (SubM.nil)) (SubL.nil) (Y.loadRaw 0 rfl rfl hl47 rfl rfl hc26) HistOk.z <| JR.qt rfl (SubM.cons 1 rfl (SubM.nil)) (SubL.nil) (Y.loadBAll 0 rfl rfl rfl rfl) HistOk.z <| JR.qt rfl (SubM.nil) (SubL.nil) (Y.fieldB rfl rfl rfl rfl rfl) HistOk.z <| JR.qt rfl (SubM.cons 2 rfl (SubM.nil)) (SubL.nil) (Y.loadB 0 rfl rfl rfl rfl rfl) HistOk.z <| JR.qt rfl (SubM.nil) (SubL.nil) (Y.move rfl) HistOk.z <| JR.know (Know.rws 5 rfl) fun hl48 => ?_
     refine JR.qt rfl (SubM.cons 4 rfl (SubM.nil)) (SubL.nil) (Y.indexA 0 rfl rfl rfl rfl rfl hc29.1 (by have q1 := hc29.2; have q2 := hl48; (try simp only [List.length_set] at q1); (try simp only [List.length_set] at q2); (try simp only [List.length_set]); omega)) HistOk.z ?_
     refine JR.know (Know.rws 5 rfl) fun hl49 => JR.qt rfl (SubM.cons 4 rfl (SubM.nil)) (SubL.nil) (Y.loadRaw 0 rfl rfl hl49 rfl rfl hc29) HistOk.z <| JR.qt rfl (SubM.cons 0 rfl (SubM.nil)) (SubL.nil) (Y.loadBAll 0 rfl rfl rfl rfl) HistOk.z <| JR.loud rfl rfl rfl (Loud.buildS (e := EI64I64p) ([((p3, p4))]) [(0, Value.agg #[Value.int .i64 (p3), Value.int .i64 (p4)])] rfl rfl rfl rfl (fill_1_2 (Value.int .i64 (p3)) (Value.int .i64 (p4))) rfl rfl rfl) rfl (fun u50 => (BsOk.h (SubM.cons 1 rfl (SubM.nil)) (SubL.nil) (BsOk.h (SubM.cons 5 rfl (SubM.nil)) (SubL.nil) (BsOk.h (SubM.cons 5 rfl (SubM.nil)) (SubL.nil) (BsOk.h (SubM.nil) (SubL.nil) (BsOk.h (SubM.cons 3 rfl (SubM.nil)) (SubL.nil) (BsOk.h (SubM.nil) (SubL.nil) (BsOk.b rfl (BsOk.h (SubM.cons 5 rfl (SubM.nil)) (SubL.nil) (BsOk.h (SubM.cons 5 rfl (SubM.nil)) (SubL.nil) (BsOk.h (SubM.nil) (SubL.nil) (BsOk.h (SubM.cons 3 rfl (SubM.nil)) (SubL.nil) (BsOk.h (SubM.nil) (SubL.nil) (BsOk.h (SubM.nil) (SubL.nil) (BsOk.h (SubM.cons 3 rfl (SubM.nil)) (SubL.nil) (BsOk.h (SubM.nil) (SubL.nil) (BsOk.h (SubM.nil) (SubL.nil) (BsOk.h (SubM.cons 3 rfl (SubM.nil)) (SubL.nil) (BsOk.h (SubM.nil) (SubL.nil) BsOk.z))))))))))))))))))) fun u50 => JR.loud rfl rfl rfl (Loud.appendRowL 6 FI64I64p rfl rfl rfl (Lent.ar (Lent.res 0 rfl) FI64I64p) rfl rfl rfl rfl hc26 hc34 rfl) rfl (fun u51 => (BsOk.h (SubM.cons 1 rfl (SubM.nil)) (SubL.nil) (BsOk.h (SubM.cons 5 rfl (SubM.nil)) (SubL.nil) (BsOk.h (SubM.cons 5 rfl (SubM.nil)) (SubL.nil) (BsOk.h (SubM.nil) (SubL.nil) (BsOk.h (SubM.cons 3 rfl (SubM.nil)) (SubL.nil) (BsOk.h (SubM.nil) (SubL.nil) (BsOk.b rfl (BsOk.b rfl (BsOk.b rfl (BsOk.b rfl (BsOk.b rfl (BsOk.b rfl (BsOk.h (SubM.nil) (SubL.nil) (BsOk.h (SubM.cons 3 rfl (SubM.nil)) (SubL.nil) (BsOk.h (SubM.nil) (SubL.nil) (BsOk.h (SubM.nil) (SubL.nil) (BsOk.h (SubM.cons 3 rfl (SubM.nil)) (SubL.nil) (BsOk.h (SubM.nil) (SubL.nil) BsOk.z))))))))))))))))))) fun u51 => JR.loud rfl rfl rfl (Loud.buildS (e := EI64I64p) ([((p2, p4))]) [(0, Value.agg #[Value.int .i64 (p2), Value.int .i64 (p4)])] rfl rfl rfl rfl (fill_1_2 (Value.int .i64 (p2)) (Value.int .i64 (p4))) rfl rfl rfl) rfl (fun u52 => (BsOk.b rfl (BsOk.h (SubM.cons 6 rfl (SubM.nil)) (SubL.nil) (BsOk.h (SubM.cons 6 rfl (SubM.nil)) (SubL.nil) (BsOk.h (SubM.nil) (SubL.nil) (BsOk.h (SubM.cons 4 rfl (SubM.nil)) (SubL.nil) (BsOk.h (SubM.nil) (SubL.nil) (BsOk.h (SubM.cons 3 rfl (SubM.nil)) (SubL.nil) (BsOk.h (SubM.cons 6 rfl (SubM.nil)) (SubL.nil) (BsOk.h (SubM.cons 6 rfl (SubM.nil)) (SubL.nil) (BsOk.h (SubM.nil) (SubL.nil) (BsOk.h (SubM.cons 4 rfl (SubM.nil)) (SubL.nil) (BsOk.h (SubM.nil) (SubL.nil) (BsOk.h (SubM.nil) (SubL.nil) (BsOk.h (SubM.cons 4 rfl (SubM.nil)) (SubL.nil) (BsOk.h (SubM.nil) (SubL.nil) (BsOk.h (SubM.nil) (SubL.nil) (BsOk.h (SubM.cons 4 rfl (SubM.nil)) (SubL.nil) (BsOk.h (SubM.nil) (SubL.nil) BsOk.z))))))))))))))))))) fun u52 => JR.loud rfl rfl rfl (Loud.appendRow2 (j := p2) 7 FI64I64p rfl rfl rfl (Lent.ar (Lent.res 0 rfl) FI64I64p) rfl rfl rfl rfl hc29 hc37 rfl hc38) rfl (fun u53 => (BsOk.b rfl (BsOk.b rfl (BsOk.b rfl (BsOk.b rfl (BsOk.b rfl (BsOk.b rfl (BsOk.b rfl (BsOk.b rfl (BsOk.b rfl (BsOk.b rfl (BsOk.b rfl (BsOk.b rfl (BsOk.h (SubM.nil) (SubL.nil) (BsOk.h (SubM.cons 4 rfl (SubM.nil)) (SubL.nil) (BsOk.h (SubM.nil) (SubL.nil) (BsOk.h (SubM.nil) (SubL.nil) (BsOk.h (SubM.cons 4 rfl (SubM.nil)) (SubL.nil) (BsOk.h (SubM.nil) (SubL.nil) BsOk.z))))))))))))))))))) fun u53 => JR.know (Know.rws 7 rfl) fun hl54 => ?_
     refine JR.qt rfl (SubM.cons 6 rfl (SubM.nil)) (SubL.nil) (Y.indexA 0 rfl rfl rfl rfl rfl hc39.1 (by have q1 := hc39.2; have q2 := hl54; (try simp only [List.length_set] at q1); (try simp only [List.length_set] at q2); (try simp only [List.length_set]); omega)) (HistOk.b rfl (HistOk.b rfl (HistOk.b rfl (HistOk.b rfl HistOk.z)))) ?_
     refine JR.know (Know.oneRow2 (k := p2) (j := p3) 7 rfl (by omega) ⟨hc39.1, by first | exact hc39.2 | simpa using hc39.2⟩) fun ho55 => ?_
     refine JR.loud0 rfl rfl rfl (Loud.storeRow 6 7 ⟨hc39.1, by first | exact hc39.2 | simpa using hc39.2⟩ rfl rfl rfl rfl (by simp) ho55 rfl) (fun x56 => (BsOk.b rfl (BsOk.b rfl (BsOk.b rfl (BsOk.b rfl (BsOk.b rfl (BsOk.b rfl (BsOk.b rfl (BsOk.b rfl (BsOk.b rfl (BsOk.b rfl (BsOk.b rfl (BsOk.b rfl (BsOk.b rfl (BsOk.h (SubM.nil) (SubL.nil) (BsOk.h (SubM.cons 4 rfl (SubM.nil)) (SubL.nil) (BsOk.h (SubM.nil) (SubL.nil) (BsOk.b rfl (BsOk.b rfl (BsOk.b rfl BsOk.z)))))))))))))))))))) fun x56 => ?_
     refine JR.tailD 24 rfl rfl <| J.know (Know.rws 7 rfl) fun hl57 => ?_
     refine J.quiet (Y.indexA 6 rfl rfl rfl rfl rfl hc43.1 (by have q1 := hc43.2; have q2 := hl57; (try simp only [List.length_set] at q1); (try simp only [List.length_set] at q2); (try simp only [List.length_set]); omega)) rfl ?_
     refine J.know (Know.oneRow 7 (k := p3) rfl ⟨hc43.1, by first | exact hc43.2 | simpa using hc43.2⟩) fun ho58 => ?_
     refine J.storeRow 6 7 ⟨hc43.1, by first | exact hc43.2 | simpa using hc43.2⟩ rfl rfl rfl rfl rfl (by simp) ho58 rfl ?_
     refine J.done ?_
     obtain rfl := Option.some.inj h
     exact J.retG0 (List.set (List.set w5 (Int.toNat p2) u51) (Int.toNat p3) u53) rfl rfl .normal (.inr rfl) (SubM.cons 6 rfl (SubM.cons 6 rfl (SubM.nil))) LentAll.nil
    ·refine JR.qt rfl (SubM.nil) (SubL.nil) (Y.fieldB rfl rfl rfl rfl rfl) HistOk.z <| JR.qt rfl (SubM.cons 2 rfl (SubM.nil)) (SubL.nil) (Y.loadB 0 rfl rfl rfl rfl rfl) HistOk.z <| JR.qt rfl (SubM.nil) (SubL.nil) (Y.move rfl) HistOk.z <| JR.qt rfl (SubM.nil) (SubL.nil) (Y.fieldB rfl rfl rfl rfl rfl) HistOk.z <| JR.qt rfl (SubM.cons 2 rfl (SubM.nil)) (SubL.nil) (Y.loadB 0 rfl rfl rfl rfl rfl) HistOk.z <| JR.qt rfl (SubM.nil) (SubL.nil) (Y.move rfl) HistOk.z <| JR.qt rfl (SubM.nil) (SubL.nil) (Y.fieldB rfl rfl rfl rfl rfl) HistOk.z <| JR.qt rfl (SubM.cons 2 rfl (SubM.nil)) (SubL.nil) (Y.loadB 0 rfl rfl rfl rfl rfl) HistOk.z <| JR.qt rfl (SubM.nil) (SubL.nil) (Y.move rfl) HistOk.z <| JR.know (Know.rws 5 rfl) fun hl59 => ?_
     refine JR.qt rfl (SubM.cons 4 rfl (SubM.nil)) (SubL.nil) (Y.indexA 0 rfl rfl rfl rfl rfl hc26.1 (by have q1 := hc26.2; have q2 := hl59; (try simp only [List.length_set] at q1); (try simp only [List.length_set] at q2); (try simp only [List.length_set]); omega)) HistOk.z ?_
     refine JR.know (Know.rws 5 rfl) fun hl60 => JR.qt rfl (SubM.cons 4 rfl (SubM.nil)) (SubL.nil) (Y.loadRaw 0 rfl rfl hl60 rfl rfl hc26) HistOk.z <| JR.qt rfl (SubM.cons 1 rfl (SubM.nil)) (SubL.nil) (Y.loadBAll 0 rfl rfl rfl rfl) HistOk.z <| JR.qt rfl (SubM.nil) (SubL.nil) (Y.fieldB rfl rfl rfl rfl rfl) HistOk.z <| JR.qt rfl (SubM.cons 2 rfl (SubM.nil)) (SubL.nil) (Y.loadB 0 rfl rfl rfl rfl rfl) HistOk.z <| JR.qt rfl (SubM.nil) (SubL.nil) (Y.move rfl) HistOk.z <| JR.know (Know.rws 5 rfl) fun hl61 => ?_
     refine JR.qt rfl (SubM.cons 4 rfl (SubM.nil)) (SubL.nil) (Y.indexA 0 rfl rfl rfl rfl rfl hc29.1 (by have q1 := hc29.2; have q2 := hl61; (try simp only [List.length_set] at q1); (try simp only [List.length_set] at q2); (try simp only [List.length_set]); omega)) HistOk.z ?_
     refine JR.know (Know.rws 5 rfl) fun hl62 => JR.qt rfl (SubM.cons 4 rfl (SubM.nil)) (SubL.nil) (Y.loadRaw 0 rfl rfl hl62 rfl rfl hc29) HistOk.z <| JR.qt rfl (SubM.cons 0 rfl (SubM.nil)) (SubL.nil) (Y.loadBAll 0 rfl rfl rfl rfl) HistOk.z <| JR.loud rfl rfl rfl (Loud.buildS (e := EI64I64p) ([((p3, p4))]) [(0, Value.agg #[Value.int .i64 (p3), Value.int .i64 (p4)])] rfl rfl rfl rfl (fill_1_2 (Value.int .i64 (p3)) (Value.int .i64 (p4))) rfl rfl rfl) rfl (fun u63 => (BsOk.h (SubM.cons 1 rfl (SubM.nil)) (SubL.nil) (BsOk.h (SubM.cons 5 rfl (SubM.nil)) (SubL.nil) (BsOk.h (SubM.cons 5 rfl (SubM.nil)) (SubL.nil) (BsOk.h (SubM.nil) (SubL.nil) (BsOk.h (SubM.cons 3 rfl (SubM.nil)) (SubL.nil) (BsOk.h (SubM.nil) (SubL.nil) (BsOk.b rfl (BsOk.h (SubM.cons 5 rfl (SubM.nil)) (SubL.nil) (BsOk.h (SubM.cons 5 rfl (SubM.nil)) (SubL.nil) (BsOk.h (SubM.nil) (SubL.nil) (BsOk.h (SubM.cons 3 rfl (SubM.nil)) (SubL.nil) (BsOk.h (SubM.nil) (SubL.nil) (BsOk.h (SubM.nil) (SubL.nil) (BsOk.h (SubM.cons 3 rfl (SubM.nil)) (SubL.nil) (BsOk.h (SubM.nil) (SubL.nil) (BsOk.h (SubM.nil) (SubL.nil) (BsOk.h (SubM.cons 3 rfl (SubM.nil)) (SubL.nil) (BsOk.h (SubM.nil) (SubL.nil) BsOk.z))))))))))))))))))) fun u63 => JR.loud rfl rfl rfl (Loud.buildS (e := EI64I64p) ([((p2, p4))]) [(0, Value.agg #[Value.int .i64 (p2), Value.int .i64 (p4)])] rfl rfl rfl rfl (fill_1_2 (Value.int .i64 (p2)) (Value.int .i64 (p4))) rfl rfl rfl) rfl (fun u64 => (BsOk.b rfl (BsOk.h (SubM.cons 6 rfl (SubM.nil)) (SubL.nil) (BsOk.h (SubM.cons 6 rfl (SubM.nil)) (SubL.nil) (BsOk.h (SubM.nil) (SubL.nil) (BsOk.h (SubM.cons 4 rfl (SubM.nil)) (SubL.nil) (BsOk.h (SubM.nil) (SubL.nil) (BsOk.h (SubM.cons 3 rfl (SubM.nil)) (SubL.nil) (BsOk.h (SubM.cons 6 rfl (SubM.nil)) (SubL.nil) (BsOk.h (SubM.cons 6 rfl (SubM.nil)) (SubL.nil) (BsOk.h (SubM.nil) (SubL.nil) (BsOk.h (SubM.cons 4 rfl (SubM.nil)) (SubL.nil) (BsOk.h (SubM.nil) (SubL.nil) (BsOk.h (SubM.nil) (SubL.nil) (BsOk.h (SubM.cons 4 rfl (SubM.nil)) (SubL.nil) (BsOk.h (SubM.nil) (SubL.nil) (BsOk.h (SubM.nil) (SubL.nil) (BsOk.h (SubM.cons 4 rfl (SubM.nil)) (SubL.nil) (BsOk.h (SubM.nil) (SubL.nil) BsOk.z))))))))))))))))))) fun u64 => JR.loud rfl rfl rfl (Loud.appendRowL 7 FI64I64p rfl rfl rfl (Lent.ar (Lent.res 1 rfl) FI64I64p) rfl rfl rfl rfl hc26 hc34 rfl) rfl (fun u65 => (BsOk.h (SubM.cons 2 rfl (SubM.nil)) (SubL.nil) (BsOk.h (SubM.cons 6 rfl (SubM.nil)) (SubL.nil) (BsOk.h (SubM.cons 6 rfl (SubM.nil)) (SubL.nil) (BsOk.h (SubM.nil) (SubL.nil) (BsOk.h (SubM.cons 4 rfl (SubM.nil)) (SubL.nil) (BsOk.h (SubM.nil) (SubL.nil) (BsOk.b rfl (BsOk.b rfl (BsOk.b rfl (BsOk.b rfl (BsOk.b rfl (BsOk.b rfl (BsOk.h (SubM.nil) (SubL.nil) (BsOk.h (SubM.cons 4 rfl (SubM.nil)) (SubL.nil) (BsOk.h (SubM.nil) (SubL.nil) (BsOk.h (SubM.nil) (SubL.nil) (BsOk.h (SubM.cons 4 rfl (SubM.nil)) (SubL.nil) (BsOk.h (SubM.nil) (SubL.nil) BsOk.z))))))))))))))))))) fun u65 => JR.loud rfl rfl rfl (Loud.appendRow2 (j := p2) 7 FI64I64p rfl rfl rfl (Lent.ar (Lent.res 0 rfl) FI64I64p) rfl rfl rfl rfl hc29 hc37 rfl hc38) rfl (fun u66 => (BsOk.b rfl (BsOk.b rfl (BsOk.b rfl (BsOk.b rfl (BsOk.b rfl (BsOk.b rfl (BsOk.b rfl (BsOk.b rfl (BsOk.b rfl (BsOk.b rfl (BsOk.b rfl (BsOk.b rfl (BsOk.h (SubM.nil) (SubL.nil) (BsOk.h (SubM.cons 4 rfl (SubM.nil)) (SubL.nil) (BsOk.h (SubM.nil) (SubL.nil) (BsOk.h (SubM.nil) (SubL.nil) (BsOk.h (SubM.cons 4 rfl (SubM.nil)) (SubL.nil) (BsOk.h (SubM.nil) (SubL.nil) BsOk.z))))))))))))))))))) fun u66 => JR.know (Know.rws 7 rfl) fun hl67 => ?_
     refine JR.qt rfl (SubM.cons 6 rfl (SubM.nil)) (SubL.nil) (Y.indexA 0 rfl rfl rfl rfl rfl hc39.1 (by have q1 := hc39.2; have q2 := hl67; (try simp only [List.length_set] at q1); (try simp only [List.length_set] at q2); (try simp only [List.length_set]); omega)) (HistOk.b rfl (HistOk.b rfl (HistOk.b rfl (HistOk.b rfl HistOk.z)))) ?_
     refine JR.know (Know.oneRow2 (k := p2) (j := p3) 7 rfl (by omega) ⟨hc39.1, by first | exact hc39.2 | simpa using hc39.2⟩) fun ho68 => ?_
     refine JR.loud0 rfl rfl rfl (Loud.storeRow 6 7 ⟨hc39.1, by first | exact hc39.2 | simpa using hc39.2⟩ rfl rfl rfl rfl (by simp) ho68 rfl) (fun x69 => (BsOk.b rfl (BsOk.b rfl (BsOk.b rfl (BsOk.b rfl (BsOk.b rfl (BsOk.b rfl (BsOk.b rfl (BsOk.b rfl (BsOk.b rfl (BsOk.b rfl (BsOk.b rfl (BsOk.b rfl (BsOk.b rfl (BsOk.h (SubM.nil) (SubL.nil) (BsOk.h (SubM.cons 4 rfl (SubM.nil)) (SubL.nil) (BsOk.h (SubM.nil) (SubL.nil) (BsOk.b rfl (BsOk.b rfl (BsOk.b rfl BsOk.z)))))))))))))))))))) fun x69 => ?_
     refine JR.tailD 24 rfl rfl <| J.know (Know.rws 7 rfl) fun hl70 => ?_
     refine J.quiet (Y.indexA 6 rfl rfl rfl rfl rfl hc43.1 (by have q1 := hc43.2; have q2 := hl70; (try simp only [List.length_set] at q1); (try simp only [List.length_set] at q2); (try simp only [List.length_set]); omega)) rfl ?_
     refine J.know (Know.oneRow 7 (k := p3) rfl ⟨hc43.1, by first | exact hc43.2 | simpa using hc43.2⟩) fun ho71 => ?_
     refine J.storeRow 6 7 ⟨hc43.1, by first | exact hc43.2 | simpa using hc43.2⟩ rfl rfl rfl rfl rfl (by simp) ho71 rfl ?_
     refine J.done ?_
     obtain rfl := Option.some.inj h
     exact J.retG0 (List.set (List.set w5 (Int.toNat p2) u65) (Int.toNat p3) u66) rfl rfl .normal (.inr rfl) (SubM.cons 6 rfl (SubM.cons 6 rfl (SubM.nil))) LentAll.nil
    ·refine JR.qt rfl (SubM.nil) (SubL.nil) (Y.fieldB rfl rfl rfl rfl rfl) HistOk.z <| JR.qt rfl (SubM.cons 2 rfl (SubM.nil)) (SubL.nil) (Y.loadB 0 rfl rfl rfl rfl rfl) HistOk.z <| JR.qt rfl (SubM.nil) (SubL.nil) (Y.move rfl) HistOk.z <| JR.qt rfl (SubM.nil) (SubL.nil) (Y.fieldB rfl rfl rfl rfl rfl) HistOk.z <| JR.qt rfl (SubM.cons 2 rfl (SubM.nil)) (SubL.nil) (Y.loadB 0 rfl rfl rfl rfl rfl) HistOk.z <| JR.qt rfl (SubM.nil) (SubL.nil) (Y.move rfl) HistOk.z <| JR.qt rfl (SubM.nil) (SubL.nil) (Y.fieldB rfl rfl rfl rfl rfl) HistOk.z <| JR.qt rfl (SubM.cons 2 rfl (SubM.nil)) (SubL.nil) (Y.loadB 0 rfl rfl rfl rfl rfl) HistOk.z <| JR.qt rfl (SubM.nil) (SubL.nil) (Y.move rfl) HistOk.z <| JR.know (Know.rws 5 rfl) fun hl72 => ?_
     refine JR.qt rfl (SubM.cons 4 rfl (SubM.nil)) (SubL.nil) (Y.indexA 0 rfl rfl rfl rfl rfl hc26.1 (by have q1 := hc26.2; have q2 := hl72; (try simp only [List.length_set] at q1); (try simp only [List.length_set] at q2); (try simp only [List.length_set]); omega)) HistOk.z ?_
     refine JR.know (Know.rws 5 rfl) fun hl73 => JR.qt rfl (SubM.cons 4 rfl (SubM.nil)) (SubL.nil) (Y.loadRaw 0 rfl rfl hl73 rfl rfl hc26) HistOk.z <| JR.qt rfl (SubM.cons 1 rfl (SubM.nil)) (SubL.nil) (Y.loadBAll 0 rfl rfl rfl rfl) HistOk.z <| JR.qt rfl (SubM.nil) (SubL.nil) (Y.fieldB rfl rfl rfl rfl rfl) HistOk.z <| JR.qt rfl (SubM.cons 2 rfl (SubM.nil)) (SubL.nil) (Y.loadB 0 rfl rfl rfl rfl rfl) HistOk.z <| JR.qt rfl (SubM.nil) (SubL.nil) (Y.move rfl) HistOk.z <| JR.know (Know.rws 5 rfl) fun hl74 => ?_
     refine JR.qt rfl (SubM.cons 4 rfl (SubM.nil)) (SubL.nil) (Y.indexA 0 rfl rfl rfl rfl rfl hc29.1 (by have q1 := hc29.2; have q2 := hl74; (try simp only [List.length_set] at q1); (try simp only [List.length_set] at q2); (try simp only [List.length_set]); omega)) HistOk.z ?_
     refine JR.know (Know.rws 5 rfl) fun hl75 => JR.qt rfl (SubM.cons 4 rfl (SubM.nil)) (SubL.nil) (Y.loadRaw 0 rfl rfl hl75 rfl rfl hc29) HistOk.z <| JR.qt rfl (SubM.cons 0 rfl (SubM.nil)) (SubL.nil) (Y.loadBAll 0 rfl rfl rfl rfl) HistOk.z <| JR.loud rfl rfl rfl (Loud.buildS (e := EI64I64p) ([((p2, p4))]) [(0, Value.agg #[Value.int .i64 (p2), Value.int .i64 (p4)])] rfl rfl rfl rfl (fill_1_2 (Value.int .i64 (p2)) (Value.int .i64 (p4))) rfl rfl rfl) rfl (fun u76 => (BsOk.b rfl (BsOk.h (SubM.cons 5 rfl (SubM.nil)) (SubL.nil) (BsOk.h (SubM.cons 5 rfl (SubM.nil)) (SubL.nil) (BsOk.h (SubM.nil) (SubL.nil) (BsOk.h (SubM.cons 3 rfl (SubM.nil)) (SubL.nil) (BsOk.h (SubM.nil) (SubL.nil) (BsOk.h (SubM.cons 2 rfl (SubM.nil)) (SubL.nil) (BsOk.h (SubM.cons 5 rfl (SubM.nil)) (SubL.nil) (BsOk.h (SubM.cons 5 rfl (SubM.nil)) (SubL.nil) (BsOk.h (SubM.nil) (SubL.nil) (BsOk.h (SubM.cons 3 rfl (SubM.nil)) (SubL.nil) (BsOk.h (SubM.nil) (SubL.nil) (BsOk.h (SubM.nil) (SubL.nil) (BsOk.h (SubM.cons 3 rfl (SubM.nil)) (SubL.nil) (BsOk.h (SubM.nil) (SubL.nil) (BsOk.h (SubM.nil) (SubL.nil) (BsOk.h (SubM.cons 3 rfl (SubM.nil)) (SubL.nil) (BsOk.h (SubM.nil) (SubL.nil) BsOk.z))))))))))))))))))) fun u76 => JR.loud rfl rfl rfl (Loud.buildS (e := EI64I64p) ([((p3, p4))]) [(0, Value.agg #[Value.int .i64 (p3), Value.int .i64 (p4)])] rfl rfl rfl rfl (fill_1_2 (Value.int .i64 (p3)) (Value.int .i64 (p4))) rfl rfl rfl) rfl (fun u77 => (BsOk.h (SubM.cons 2 rfl (SubM.nil)) (SubL.nil) (BsOk.h (SubM.cons 6 rfl (SubM.nil)) (SubL.nil) (BsOk.h (SubM.cons 6 rfl (SubM.nil)) (SubL.nil) (BsOk.h (SubM.nil) (SubL.nil) (BsOk.h (SubM.cons 4 rfl (SubM.nil)) (SubL.nil) (BsOk.h (SubM.nil) (SubL.nil) (BsOk.b rfl (BsOk.h (SubM.cons 6 rfl (SubM.nil)) (SubL.nil) (BsOk.h (SubM.cons 6 rfl (SubM.nil)) (SubL.nil) (BsOk.h (SubM.nil) (SubL.nil) (BsOk.h (SubM.cons 4 rfl (SubM.nil)) (SubL.nil) (BsOk.h (SubM.nil) (SubL.nil) (BsOk.h (SubM.nil) (SubL.nil) (BsOk.h (SubM.cons 4 rfl (SubM.nil)) (SubL.nil) (BsOk.h (SubM.nil) (SubL.nil) (BsOk.h (SubM.nil) (SubL.nil) (BsOk.h (SubM.cons 4 rfl (SubM.nil)) (SubL.nil) (BsOk.h (SubM.nil) (SubL.nil) BsOk.z))))))))))))))))))) fun u77 => JR.loud rfl rfl rfl (Loud.appendRowL 7 FI64I64p rfl rfl rfl (Lent.ar (Lent.res 0 rfl) FI64I64p) rfl rfl rfl rfl hc26 hc34 rfl) rfl (fun u78 => (BsOk.h (SubM.cons 2 rfl (SubM.nil)) (SubL.nil) (BsOk.h (SubM.cons 6 rfl (SubM.nil)) (SubL.nil) (BsOk.h (SubM.cons 6 rfl (SubM.nil)) (SubL.nil) (BsOk.h (SubM.nil) (SubL.nil) (BsOk.h (SubM.cons 4 rfl (SubM.nil)) (SubL.nil) (BsOk.h (SubM.nil) (SubL.nil) (BsOk.b rfl (BsOk.b rfl (BsOk.b rfl (BsOk.b rfl (BsOk.b rfl (BsOk.b rfl (BsOk.h (SubM.nil) (SubL.nil) (BsOk.h (SubM.cons 4 rfl (SubM.nil)) (SubL.nil) (BsOk.h (SubM.nil) (SubL.nil) (BsOk.h (SubM.nil) (SubL.nil) (BsOk.h (SubM.cons 4 rfl (SubM.nil)) (SubL.nil) (BsOk.h (SubM.nil) (SubL.nil) BsOk.z))))))))))))))))))) fun u78 => JR.loud rfl rfl rfl (Loud.appendRow2 (j := p2) 7 FI64I64p rfl rfl rfl (Lent.ar (Lent.res 1 rfl) FI64I64p) rfl rfl rfl rfl hc29 hc37 rfl hc38) rfl (fun u79 => (BsOk.b rfl (BsOk.b rfl (BsOk.b rfl (BsOk.b rfl (BsOk.b rfl (BsOk.b rfl (BsOk.b rfl (BsOk.b rfl (BsOk.b rfl (BsOk.b rfl (BsOk.b rfl (BsOk.b rfl (BsOk.h (SubM.nil) (SubL.nil) (BsOk.h (SubM.cons 4 rfl (SubM.nil)) (SubL.nil) (BsOk.h (SubM.nil) (SubL.nil) (BsOk.h (SubM.nil) (SubL.nil) (BsOk.h (SubM.cons 4 rfl (SubM.nil)) (SubL.nil) (BsOk.h (SubM.nil) (SubL.nil) BsOk.z))))))))))))))))))) fun u79 => JR.know (Know.rws 7 rfl) fun hl80 => ?_
     refine JR.qt rfl (SubM.cons 6 rfl (SubM.nil)) (SubL.nil) (Y.indexA 0 rfl rfl rfl rfl rfl hc39.1 (by have q1 := hc39.2; have q2 := hl80; (try simp only [List.length_set] at q1); (try simp only [List.length_set] at q2); (try simp only [List.length_set]); omega)) (HistOk.b rfl (HistOk.b rfl (HistOk.b rfl (HistOk.b rfl HistOk.z)))) ?_
     refine JR.know (Know.oneRow2 (k := p2) (j := p3) 7 rfl (by omega) ⟨hc39.1, by first | exact hc39.2 | simpa using hc39.2⟩) fun ho81 => ?_
     refine JR.loud0 rfl rfl rfl (Loud.storeRow 6 7 ⟨hc39.1, by first | exact hc39.2 | simpa using hc39.2⟩ rfl rfl rfl rfl (by simp) ho81 rfl) (fun x82 => (BsOk.b rfl (BsOk.b rfl (BsOk.b rfl (BsOk.b rfl (BsOk.b rfl (BsOk.b rfl (BsOk.b rfl (BsOk.b rfl (BsOk.b rfl (BsOk.b rfl (BsOk.b rfl (BsOk.b rfl (BsOk.b rfl (BsOk.h (SubM.nil) (SubL.nil) (BsOk.h (SubM.cons 4 rfl (SubM.nil)) (SubL.nil) (BsOk.h (SubM.nil) (SubL.nil) (BsOk.b rfl (BsOk.b rfl (BsOk.b rfl BsOk.z)))))))))))))))))))) fun x82 => ?_
     refine JR.tailD 24 rfl rfl <| J.know (Know.rws 7 rfl) fun hl83 => ?_
     refine J.quiet (Y.indexA 6 rfl rfl rfl rfl rfl hc43.1 (by have q1 := hc43.2; have q2 := hl83; (try simp only [List.length_set] at q1); (try simp only [List.length_set] at q2); (try simp only [List.length_set]); omega)) rfl ?_
     refine J.know (Know.oneRow 7 (k := p3) rfl ⟨hc43.1, by first | exact hc43.2 | simpa using hc43.2⟩) fun ho84 => ?_
     refine J.storeRow 6 7 ⟨hc43.1, by first | exact hc43.2 | simpa using hc43.2⟩ rfl rfl rfl rfl rfl (by simp) ho84 rfl ?_
     refine J.done ?_
     obtain rfl := Option.some.inj h
     exact J.retG0 (List.set (List.set w5 (Int.toNat p2) u78) (Int.toNat p3) u79) rfl rfl .normal (.inr rfl) (SubM.cons 6 rfl (SubM.cons 6 rfl (SubM.nil))) LentAll.nil
end Go.Proofs.YtfimaabbclepbaaGreat
end
section
namespace Go.Proofs.YtfimaabbclepbaaGreat
open Go.Sx
def _world_Net__Tree_k1 (r3 : (List (Int) × (List (List (Int × Int))))) (a11 : (List (List (Int × Int)))) : Option ((List (Int) × (List (List (Int × Int))))) :=
 some ((r3.1, a11))
def _world_Net__Tree_s1 (fuel : Nat) (p0 : Int × List (Int) × List (Int) × List (Int) × Bool × Bool) (r3 : (List (Int) × (List (List (Int × Int))))) (a19 : Int × (List (List (Int × Int)))) (ag18 : (Int × (List (List (Int × Int)))) → Option ((List (Int) × (List (List (Int × Int)))))) : Option ((List (Int) × (List (List (Int × Int))))) :=
 if a19.1 < (List.length a19.2 : Int) then (Option.bind (m_world_at fuel p0.2.1 (wI .i64 (a19.1 - (1 : Int)))) fun r23 => (Option.bind (m_world_Within fuel r23 a19.1) fun r26 => (Option.bind (m_world_at fuel p0.2.2.1 (wI .i64 (a19.1 - (1 : Int)))) fun r29 => (Option.bind (m_world_Within fuel r29 (15 : Int)) fun r32 => (Option.bind (m__world_Net__link fuel ((p0.1, p0.2.1, p0.2.2.1, p0.2.2.2.1, p0.2.2.2.2.1, p0.2.2.2.2.2)) ((r3.1, a19.2)) r26 a19.1 (wI .i64 ((1 : Int) + r32))) fun r35 => (ag18 ((wI .i64 (a19.1 + (1 : Int))), r35))))))) else (_world_Net__Tree_k1 r3 (a19.2))
def m__world_Net__Tree (fuel : Nat) (p0 : Int × List (Int) × List (Int) × List (Int) × Bool × Bool) (p1 : Int) : Option ((List (Int) × (List (List (Int × Int))))) :=
 Option.bind (m__world_Net__nodes fuel ((p0.1, p0.2.1, p0.2.2.1, p0.2.2.2.1, p0.2.2.2.2.1, p0.2.2.2.2.2)) p1) fun r3 => (iter (_world_Net__Tree_s1 fuel p0 r3) fuel ((1 : Int), r3.2))
theorem body18 : HasBody Tryz.prog 18 := Tryz.call18
theorem t__world_Net__Tree (fuel : Nat) {p0 : Int × List (Int) × List (Int) × List (Int) × Bool × Bool} {p1 : Int} (v0 : Value)  (v1 : Value)  (v2 : Value) (r : (List (Int) × (List (List (Int × Int))))) (h : m__world_Net__Tree fuel p0 p1 = some r) :
  Meets Tryz.prog 18 #[Value.agg #[Value.int .i64 (p0.1), v0, v1, v2, Value.bool (p0.2.2.2.2.1), Value.bool (p0.2.2.2.2.2)], Value.int .i64 (p1)] [Sl RI64 v0 p0.2.1, Sl RI64 v1 p0.2.2.1, Sl RI64 v2 p0.2.2.2.1] (fun x : Value × Value × List Value => Value.agg #[x.1, x.2.1]) (fun x l => Ar EI64 x.1 r.1 :: Ar Enc.raw x.2.1 x.2.2 :: Rws EI64I64p x.2.2 r.2 :: l) (fun _ l => l) := by
 refine Meets.of (vs := [Value.agg #[Value.int .i64 (p0.1), v0, v1, v2, Value.bool (p0.2.2.2.2.1), Value.bool (p0.2.2.2.2.2)], Value.int .i64 (p1)]) Tryz.func18 rfl Tryz.ntmps18 rfl fun c => ?_
 unfold m__world_Net__Tree at h
 refine J.seq <| J.region <| J.loud (Loud.box (cs := [Value.int .i64 (p0.1), v0, v1, v2, Value.bool (p0.2.2.2.2.1), Value.bool (p0.2.2.2.2.2)]) rfl rfl) rfl fun b1 => J.loud (Loud.alloc (cs := [Value.slice none 0 0, Value.slice none 0 0]) rfl rfl) rfl fun b2 => J.done <| J.thenN <| J.seq <| J.region <| J.quiet (Y.loadBAll 1 rfl rfl rfl rfl) rfl <| J.quiet (Y.move rfl) rfl ?_
 have h := bnd h; obtain ⟨r3, hr4, h⟩ := h
 refine J.loud (Loud.callL body37 (t__world_Net__nodes fuel v0 v1 v2 r3 hr4) rfl (LentAll.cons (Lent.fact 0 rfl) (LentAll.cons (Lent.fact 1 rfl) (LentAll.cons (Lent.fact 2 rfl) .nil))) (fun _ _ => rfl)) rfl fun x5 => J.loud (Loud.alloc (cs := [Value.slice none 0 0, Value.slice none 0 0]) rfl rfl) rfl fun b6 => J.know (Know.one ((Lent.ar (Lent.res 1 rfl) FI64))) fun ho7 => J.know (Know.one (Lent.sl (Lent.rows (i := 2) (j := 3) rfl rfl FI64I64p))) fun ho8 => J.storeAll 0 (vs := [x5.1, x5.2.1]) rfl rfl (all1 ho7 (all1 ho8 rfl)) rfl rfl rfl <| J.done <| J.thenN <| J.seq <| J.midI (A := (List (List (Int × Int)))) (B := List Value) (fun a11 => _world_Net__Tree_k1 r3 a11 = some r) (fun a11 b12 => [(4, Value.pointer (some ⟨b2, 0, none⟩)), (5, Value.pointer (some ⟨b6, 0, none⟩))]) (fun a11 b12 => [Blk b6 [x5.1, x5.2.1] 25, Ar EI64 x5.1 r3.1, Ar Enc.raw x5.2.1 b12, Rws EI64I64p b12 a11, Blk b2 [Value.slice none 0 0, Value.slice none 0 0] 25]) (fun a11 b12 => [Sl RI64 v0 p0.2.1, Sl RI64 v1 p0.2.2.1, Sl RI64 v2 p0.2.2.2.1]) ?_ ?_
 ·refine J.seq <| J.region <| J.quiet (Y.assign rfl) rfl <| J.done <| J.thenN <| J.block <| J.loopI (A := Int × (List (List (Int × Int)))) (B := List Value) (_world_Net__Tree_s1 fuel p0 r3) (fun a19 b20 => [(2, Value.pointer (some ⟨b1, 0, none⟩)), (4, Value.pointer (some ⟨b2, 0, none⟩)), (5, Value.pointer (some ⟨b6, 0, none⟩)), (6, Value.int .i64 (a19.1))]) (fun a19 b20 => [Blk b6 [x5.1, x5.2.1] 25, Ar EI64 x5.1 r3.1, Ar Enc.raw x5.2.1 b20, Rws EI64I64p b20 a19.2, Blk b2 [Value.slice none 0 0, Value.slice none 0 0] 25, Blk b1 [Value.int .i64 (p0.1), v0, v1, v2, Value.bool (p0.2.2.2.2.1), Value.bool (p0.2.2.2.2.2)] 33]) (fun a19 b20 => [Sl RI64 v0 p0.2.1, Sl RI64 v1 p0.2.2.1, Sl RI64 v2 p0.2.2.2.1]) ((1 : Int), r3.2) (x5.2.2) h SF (SubM.refl _) (LentAll.refl _ _) ?_
  clear h
  intro k21 a19 b20 h
  unfold _world_Net__Tree_s1 at h
  refine J.seq <| J.seq <| J.region <| J.quiet (Y.move rfl) rfl <| J.quiet (Y.fieldB rfl rfl rfl rfl rfl) rfl <| J.quiet (Y.loadB 0 rfl rfl rfl rfl rfl) rfl <| J.quiet (Y.lenN rfl (Lent.rows (i := 2) (j := 3) rfl rfl FI64I64p) rfl) rfl <| J.quiet (Y.lss rfl rfl) rfl <| J.done <| J.thenN ?_
  refine J.condD (by exact rfl) (fun hp22 => ?_) (fun hp22 => ?_)
  ·have h := ifP hp22 h
   refine J.skip <| J.thenN <| J.seq <| J.block ?_
   refine JR.start [0, 0, 0, 4, 0, 16, 60, 0, 252, 0, 0, 1024, 0, 4096, 15868, 32252, 65020, 131071] 17 mixedOrders (by decide +kernel) ?_
   refine JR.open (by exact rfl) ?_
   refine JR.qt rfl (SubM.cons 5 rfl (SubM.nil)) (SubL.nil) (Y.loadBAll 0 rfl rfl rfl rfl) HistOk.z <| JR.qt rfl (SubM.cons 0 rfl (SubM.nil)) (SubL.nil) (Y.loadBAll 0 rfl rfl rfl rfl) HistOk.z <| JR.qt rfl (SubM.nil) (SubL.nil) (Y.fieldB rfl rfl rfl rfl rfl) HistOk.z <| JR.qt rfl (SubM.cons 5 rfl (SubM.nil)) (SubL.nil) (Y.loadB 0 rfl rfl rfl rfl rfl) HistOk.z <| JR.qt rfl (SubM.nil) (SubL.nil) (Y.move rfl) HistOk.z <| JR.qt rfl (SubM.nil) (SubL.nil) (Y.subW rfl rfl) HistOk.z ?_
   have h := bnd h; obtain ⟨r23, hr24, h⟩ := h
   refine JR.loud rfl rfl rfl (Loud.callL body39 (t_world_at fuel v0 r23 hr24) rfl (LentAll.cons (Lent.fact 0 rfl) .nil) (fun _ _ => rfl)) rfl (fun x25 => (BsOk.b rfl (BsOk.b rfl (BsOk.b rfl (BsOk.b rfl (BsOk.h (SubM.cons 0 rfl (SubM.nil)) (SubL.nil) (BsOk.h (SubM.cons 5 rfl (SubM.nil)) (SubL.nil) BsOk.z))))))) fun x25 => JR.qt rfl (SubM.nil) (SubL.nil) (Y.move rfl) (HistOk.h (SubM.nil) (SubL.nil) HistOk.z) ?_
   have h := bnd h; obtain ⟨r26, hr27, h⟩ := h
   refine JR.loud rfl rfl rfl (Loud.callL body38 (t_world_Within fuel  r26 hr27) rfl .nil (fun _ _ => rfl)) rfl (fun x28 => (BsOk.b rfl (BsOk.b rfl (BsOk.b rfl (BsOk.b rfl (BsOk.b rfl (BsOk.h (SubM.cons 0 rfl (SubM.nil)) (SubL.nil) (BsOk.h (SubM.cons 5 rfl (SubM.nil)) (SubL.nil) BsOk.z)))))))) fun x28 => JR.qt rfl (SubM.nil) (SubL.nil) (Y.move rfl) (HistOk.h (SubM.nil) (SubL.nil) (HistOk.h (SubM.nil) (SubL.nil) HistOk.z)) <| JR.qt rfl (SubM.nil) (SubL.nil) (Y.fieldB rfl rfl rfl rfl rfl) (HistOk.h (SubM.nil) (SubL.nil) (HistOk.h (SubM.nil) (SubL.nil) HistOk.z)) <| JR.qt rfl (SubM.cons 5 rfl (SubM.nil)) (SubL.nil) (Y.loadB 0 rfl rfl rfl rfl rfl) (HistOk.h (SubM.cons 5 rfl (SubM.nil)) (SubL.nil) (HistOk.h (SubM.cons 5 rfl (SubM.nil)) (SubL.nil) HistOk.z)) <| JR.qt rfl (SubM.nil) (SubL.nil) (Y.move rfl) (HistOk.h (SubM.nil) (SubL.nil) (HistOk.h (SubM.nil) (SubL.nil) HistOk.z)) <| JR.qt rfl (SubM.nil) (SubL.nil) (Y.subW rfl rfl) (HistOk.h (SubM.nil) (SubL.nil) (HistOk.h (SubM.nil) (SubL.nil) HistOk.z)) ?_
   have h := bnd h; obtain ⟨r29, hr30, h⟩ := h
   refine JR.loud rfl rfl rfl (Loud.callL body39 (t_world_at fuel v1 r29 hr30) rfl (LentAll.cons (Lent.fact 1 rfl) .nil) (fun _ _ => rfl)) rfl (fun x31 => (BsOk.b rfl (BsOk.b rfl (BsOk.b rfl (BsOk.b rfl (BsOk.h (SubM.nil) (SubL.nil) (BsOk.b rfl (BsOk.b rfl (BsOk.b rfl (BsOk.b rfl (BsOk.b rfl (BsOk.h (SubM.cons 0 rfl (SubM.nil)) (SubL.nil) (BsOk.h (SubM.cons 5 rfl (SubM.nil)) (SubL.nil) BsOk.z))))))))))))) fun x31 => ?_
   have h := bnd h; obtain ⟨r32, hr33, h⟩ := h
   refine JR.loud rfl rfl rfl (Loud.callL body38 (t_world_Within fuel  r32 hr33) rfl .nil (fun _ _ => rfl)) rfl (fun x34 => (BsOk.b rfl (BsOk.b rfl (BsOk.b rfl (BsOk.b rfl (BsOk.h (SubM.nil) (SubL.nil) (BsOk.b rfl (BsOk.b rfl (BsOk.b rfl (BsOk.b rfl (BsOk.b rfl (BsOk.h (SubM.cons 0 rfl (SubM.nil)) (SubL.nil) (BsOk.h (SubM.cons 5 rfl (SubM.nil)) (SubL.nil) BsOk.z))))))))))))) fun x34 => JR.qt rfl (SubM.nil) (SubL.nil) (Y.addW rfl rfl) (HistOk.b rfl (HistOk.b rfl (HistOk.b rfl (HistOk.b rfl HistOk.z)))) <| JR.tailD 17 rfl rfl ?_
   have h := bnd h; obtain ⟨r35, hr36, h⟩ := h
   refine J.loud (Loud.callM (Min := [Ar Enc.raw x5.2.1 b20, Rws EI64I64p b20 a19.2]) (Mr := [Blk b6 [x5.1, x5.2.1] 25, Ar EI64 x5.1 r3.1, Blk b2 [Value.slice none 0 0, Value.slice none 0 0] 25, Blk b1 [Value.int .i64 (p0.1), v0, v1, v2, Value.bool (p0.2.2.2.2.1), Value.bool (p0.2.2.2.2.2)] 33]) body43 (t__world_Net__link fuel v0 v1 v2 x5.1 x5.2.1 b20 r35 hr36) rfl (SubM.cons 2 rfl (SubM.cons 2 rfl (SubM.cons 0 rfl (SubM.cons 0 rfl (SubM.cons 0 rfl (SubM.cons 0 rfl (SubM.nil))))))) (LentAll.cons (Lent.fact 0 rfl) (LentAll.cons (Lent.fact 1 rfl) (LentAll.cons (Lent.fact 2 rfl) (LentAll.cons (Lent.ar (Lent.res 1 rfl) FI64) .nil)))) (fun _ _ => rfl)) rfl fun x37 => J.done <| J.inN <| J.thenN <| J.region <| J.quiet (Y.move rfl) rfl <| J.quiet (Y.addW rfl rfl) rfl <| J.quiet (Y.assign rfl) rfl <| J.done <| J.thenN ?_
   exact J.againI ((wI .i64 (a19.1 + (1 : Int))), r35) (x37) h SF (SubM.cons 2 rfl (SubM.cons 2 rfl (SubM.cons 0 rfl (SubM.cons 0 rfl (SubM.cons 0 rfl (SubM.cons 0 rfl (SubM.nil))))))) (LentAll.refl _ _)
  ·have h := ifN hp22 h
   refine J.exit <| J.thenX <| J.thenX <| J.inX <| J.thenN ?_
   exact J.meetI (a19.2) (b20) h SF (SubM.cons 0 rfl (SubM.cons 0 rfl (SubM.cons 0 rfl (SubM.cons 0 rfl (SubM.cons 0 rfl (SubM.nil)))))) (LentAll.refl _ _)
 ·clear h
  intro a11 b12 h
  unfold _world_Net__Tree_k1 at h
  refine J.seq <| J.region <| J.quiet (Y.loadBAll 0 rfl rfl rfl rfl) rfl <| J.know (Know.one ((Lent.ar (Lent.res 1 rfl) FI64))) fun ho13 => J.know (Know.one (Lent.sl (Lent.rows (i := 2) (j := 3) rfl rfl FI64I64p))) fun ho14 => J.storeAll 4 (vs := [x5.1, x5.2.1]) rfl rfl (all1 ho13 (all1 ho14 rfl)) rfl rfl rfl <| J.done <| J.thenN <| J.ret ?_
  obtain rfl := Option.some.inj h
  exact J.retG1 (x5.1, x5.2.1, b12) rfl rfl (RV.cell 4 rfl rfl rfl rfl) (SubM.cons 1 rfl (SubM.cons 1 rfl (SubM.cons 1 rfl (SubM.nil)))) LentAll.nil
end Go.Proofs.YtfimaabbclepbaaGreat
end
section
set_option maxRecDepth 100000
namespace Go.Gx
open Go Go.Sx Go.Proofs Go.Proofs.YtfimaabbclepbaaGreat
noncomputable section
def hk22 (us : List GV) (H : GH) : OR := a1 us fun x0 => ob (dGraph H x0) fun p0 => ob (m_graph_Valid 1000 p0) fun r => oBool r H
def hk18 (us : List GV) (H : GH) : OR := a2 us fun x0 x1 => ob (dNet H x0) fun p0 => ob (dSc .i64 x1) fun p1 => ob (m__world_Net__Tree 1000 p0 p1) fun r => oGraph r H
def hk6 (us : List GV) (H : GH) : OR := a3 us fun x0 x1 x2 => ob (dGraph H x0) fun p0 => ob (dConf H x1) fun p1 => ob (dSc .u32 x2) fun p2 => ob (m_crash_Coloured 1000 p0 p1 p2) fun r => oBool r H
def hk11 (us : List GV) (H : GH) : OR := a3 us fun x0 x1 x2 => ob (dGraph H x0) fun p0 => ob (dConf H x1) fun p1 => ob (dSc .u32 x2) fun p2 => ob (m_crash_Distances 1000 p0 p1 p2) fun r => oInts r H
def gext (f : Nat) (us : List GV) (H : GH) : Option (GV × GH) := bif Nat.beq f 22 then hk22 us H else bif Nat.beq f 18 then hk18 us H else bif Nat.beq f 6 then hk6 us H else bif Nat.beq f 11 then hk11 us H else none
def gp : GP := ⟨tyTab, 60, gext, gexn 153⟩
section
variable {w0 : Base} {w : World} {ρ : Rho} {H H' : GH} {g : GV} {us : List GV} {vs : List Value}
theorem hk22_ok (h : hk22 us H = some (g, H')) (R : Rel w0 ρ H w) (hr : RlL ρ us vs) : CallSem Tryz.prog w0 ρ 22 vs w g H' := by
 obtain ⟨x0, rfl, h⟩ := a1_some h
 obtain ⟨p0, hp0, h⟩ := ob_some.1 h
 obtain ⟨r, hm, h⟩ := ob_some.1 h
 obtain ⟨V0, rfl, hv0⟩ := hr.one
 obtain ⟨w0a, w0b, z0, rfl, f0a, f0b⟩ := dGraph_ok R hv0 hp0
 obtain ⟨rfl, rfl⟩ := oBool_some h
 exact hook_plain body22 (t_graph_Valid 1000 (p0 := p0) w0a w0b z0 r hm) R (List.forall_mem_cons.2 ⟨f0a, List.forall_mem_cons.2 ⟨f0b, fun f hf => absurd hf List.not_mem_nil⟩⟩) fun ρ => .bool _
theorem hk18_ok (h : hk18 us H = some (g, H')) (R : Rel w0 ρ H w) (hr : RlL ρ us vs) : CallSem Tryz.prog w0 ρ 18 vs w g H' := by
 obtain ⟨x0, x1, rfl, h⟩ := a2_some h
 obtain ⟨p0, hp0, h⟩ := ob_some.1 h
 obtain ⟨p1, hp1, h⟩ := ob_some.1 h
 obtain ⟨r, hm, h⟩ := ob_some.1 h
 obtain ⟨V0, vs, rfl, hv0, hr⟩ := hr.of_cons
 obtain ⟨V1, rfl, hv1⟩ := hr.one
 obtain ⟨w0a, w0b, w0c, rfl, f0a, f0b, f0c⟩ := dNet_ok R hv0 hp0
 obtain rfl := dSc_ok hv1 hp1
 obtain ⟨h1, h2, h3, rfl, rfl⟩ := oGraph_some h
 exact hook_graph gI_ok gP_ok h1 h2 h3 body18 (t__world_Net__Tree 1000 (p0 := p0) (p1 := p1) w0a w0b w0c r hm) R (List.forall_mem_cons.2 ⟨f0a, List.forall_mem_cons.2 ⟨f0b, List.forall_mem_cons.2 ⟨f0c, fun f hf => absurd hf List.not_mem_nil⟩⟩⟩)
theorem hk6_ok (h : hk6 us H = some (g, H')) (R : Rel w0 ρ H w) (hr : RlL ρ us vs) : CallSem Tryz.prog w0 ρ 6 vs w g H' := by
 obtain ⟨x0, x1, x2, rfl, h⟩ := a3_some h
 obtain ⟨p0, hp0, h⟩ := ob_some.1 h
 obtain ⟨p1, hp1, h⟩ := ob_some.1 h
 obtain ⟨p2, hp2, h⟩ := ob_some.1 h
 obtain ⟨r, hm, h⟩ := ob_some.1 h
 obtain ⟨V0, vs, rfl, hv0, hr⟩ := hr.of_cons
 obtain ⟨V1, vs, rfl, hv1, hr⟩ := hr.of_cons
 obtain ⟨V2, rfl, hv2⟩ := hr.one
 obtain ⟨w0a, w0b, z0, rfl, f0a, f0b⟩ := dGraph_ok R hv0 hp0
 obtain ⟨z1, f1⟩ := dConf_ok R hv1 hp1
 obtain rfl := dSc_ok hv2 hp2
 obtain ⟨rfl, rfl⟩ := oBool_some h
 exact hook_plain body6 (t_crash_Coloured 1000 (p0 := p0) (p1 := p1) (p2 := p2) w0a w0b z0 V1 z1 r hm) R (List.forall_mem_cons.2 ⟨f0a, List.forall_mem_cons.2 ⟨f0b, List.forall_mem_cons.2 ⟨f1, fun f hf => absurd hf List.not_mem_nil⟩⟩⟩) fun ρ => .bool _
theorem hk11_ok (h : hk11 us H = some (g, H')) (R : Rel w0 ρ H w) (hr : RlL ρ us vs) : CallSem Tryz.prog w0 ρ 11 vs w g H' := by
 obtain ⟨x0, x1, x2, rfl, h⟩ := a3_some h
 obtain ⟨p0, hp0, h⟩ := ob_some.1 h
 obtain ⟨p1, hp1, h⟩ := ob_some.1 h
 obtain ⟨p2, hp2, h⟩ := ob_some.1 h
 obtain ⟨r, hm, h⟩ := ob_some.1 h
 obtain ⟨V0, vs, rfl, hv0, hr⟩ := hr.of_cons
 obtain ⟨V1, vs, rfl, hv1, hr⟩ := hr.of_cons
 obtain ⟨V2, rfl, hv2⟩ := hr.one
 obtain ⟨w0a, w0b, z0, rfl, f0a, f0b⟩ := dGraph_ok R hv0 hp0
 obtain ⟨z1, f1⟩ := dConf_ok R hv1 hp1
 obtain rfl := dSc_ok hv2 hp2
 obtain ⟨h1, rfl, rfl⟩ := oInts_some h
 exact hook_sl gI_ok h1 body11 (t_crash_Distances 1000 (p0 := p0) (p1 := p1) (p2 := p2) w0a w0b z0 V1 z1 r hm) R (List.forall_mem_cons.2 ⟨f0a, List.forall_mem_cons.2 ⟨f0b, List.forall_mem_cons.2 ⟨f1, fun f hf => absurd hf List.not_mem_nil⟩⟩⟩)
theorem gext_ok {f : Nat} (h : gext f us H = some (g, H')) (R : Rel w0 ρ H w) (hr : RlL ρ us vs) : CallSem Tryz.prog w0 ρ f vs w g H' := by
 unfold gext at h
 cases e0 : Nat.beq f 22 with
 | true => rw [e0] at h; rw [Nat.eq_of_beq_eq_true e0]; exact hk22_ok h R hr
 | false =>
 rw [e0] at h
 cases e1 : Nat.beq f 18 with
 | true => rw [e1] at h; rw [Nat.eq_of_beq_eq_true e1]; exact hk18_ok h R hr
 | false =>
 rw [e1] at h
 cases e2 : Nat.beq f 6 with
 | true => rw [e2] at h; rw [Nat.eq_of_beq_eq_true e2]; exact hk6_ok h R hr
 | false =>
 rw [e2] at h
 cases e3 : Nat.beq f 11 with
 | true => rw [e3] at h; rw [Nat.eq_of_beq_eq_true e3]; exact hk11_ok h R hr
 | false =>
 rw [e3] at h
 cases h
end
theorem tabs_ok : TabOk Tryz.prog tyTab := ⟨tyTab_ok⟩
theorem rec_ok (w0 : Base) : CallOk Tryz.prog w0 (chOne tyTab 77 Tryz.f77) := chOne_ok tabs_ok mixedOrders Tryz.func77 Tryz.call77 (by kernel_rfl)
theorem def_ok (args : Array Value) (w : World) (hs : args.size = 2) : CallsDIn (FR none) 0 Tryz.prog 76 args .returning w fun e u' w' => ∃ v, e = .returned v ∧ u' = .returning ∧ Ext w w' := by
 obtain ⟨out, h, he⟩ := okN_spec (r := evOps tyTab (chOne tyTab 77 Tryz.f77) (bodyOps Tryz.f76) (evC tyTab (chOne tyTab 77 Tryz.f77) (fun _ _ _ _ => none) (bodyRest Tryz.f76) 0 ⟨[], 0, []⟩ (retN [])) (bodyOps Tryz.f76).tail ⟨[(bodyDst Tryz.f76, .inil)], H0⟩) (by kernel_rfl)
 exact caught_ok (ch := chOne tyTab 77 Tryz.f77) (lp := fun _ _ _ _ => none) tabs_ok mixedOrders rec_ok loopOk_none Tryz.func76 rfl rfl rfl (by decide +kernel) (fun ρ w => by simp [execOp, resolve, invoke, builtin]) (by kernel_rfl) (by kernel_rfl) rfl (by rw [hs]; decide +kernel) h he
theorem gok (w0 : Base) : GOk Tryz.prog gp rtab.fns w0 := by
 refine ⟨tabs_ok, mixedOrders, fun h => ?_, fun h ρ w vs R hr => gext_ok h R hr, fun h ρ w vs H R hr => gexn_ok Tryz.func153 rfl rfl rfl rfl h ρ w vs H R hr, fun R hc h1 h2 => ?_⟩
 ·obtain ⟨e, he, h⟩ := ob_some.1 (show ob (rtabF _) _ = some _ from h)
  cases h
  obtain ⟨q1, q2, q3⟩ := rtabF_fn he
  exact ⟨q1, q2, okF_spec q3⟩
 ·exact cat_ok (tb := tyTab) (T1 := 3) (T2 := 69) (cc := 76) tabs_ok Tryz.func60 Tryz.call60 Tryz.call76 rfl rfl rfl (alloc_z (by kernel_rfl)) (alloc_z (by kernel_rfl)) (store_z rfl rfl) (store_z rfl rfl) (load_z rfl rfl) (load_z rfl rfl) def_ok R hc h1 h2
end
end Go.Gx
end
section
namespace Go.Proofs.YtfimaabbclepbaaGreat
open Go Go.Sx Go.Gx
set_option maxRecDepth 100000
def m_law44_known (fuel : Nat) : Option (Bool) := some (true)
theorem body5 : HasBody Tryz.prog 5 := Tryz.call5
theorem closed5 : okT (callR rtab gp 4000 5 [] H0) = true := by kernel_rfl
theorem t_law44_known (fuel : Nat) (r : Bool) (h : m_law44_known fuel = some r) :
  Meets Tryz.prog 5 #[] [] (fun x : Unit => Value.bool (r)) (fun x l => l) (fun _ l => l) := by
 obtain rfl := Option.some.inj h
 obtain ⟨H', h1⟩ := okT_spec closed5
 rw [callR_eq rtab_ok] at h1
 exact meets_closed body5 (fun ρ V' h => h.bool_inv) fun w => callF_ok gok h1 (Rel.start w _) .nil
end Go.Proofs.YtfimaabbclepbaaGreat
end
section
namespace Go.Proofs.YtfimaabbclepbaaGreat
open Go.Sx
def law44_CrashJudges_k2  (a10 : Bool) : Option (Bool) :=
 some (a10)
def law44_CrashJudges_k1 (fuel : Nat) (p0 : List (Int) × (List (List (Int × Int)))) (p1 : List (List (Int))) (p2 : Int) (a3 : Bool) : Option (Bool) :=
 if a3 = true then (Option.bind (m_law44_known fuel ) fun r6 => (some (r6))) else (Option.bind (m_law44_known fuel ) fun r12 => (if r12 = true then (Option.bind (m_crash_Coloured fuel ((p0.1, p0.2)) p1 p2) fun r16 => (Option.bind (m_ref44_Coloured fuel ((p0.1, p0.2)) p1 p2) fun r19 => (if (r16 == r19) = true then (Option.bind (m_crash_Independent fuel ((p0.1, p0.2)) p1 p2) fun r23 => (Option.bind (m_ref44_Independent fuel ((p0.1, p0.2)) p1 p2) fun r26 => (if (r23 == r26) = true then (Option.bind (m_crash_Distances fuel ((p0.1, p0.2)) p1 p2) fun r30 => (Option.bind (m_ref44_Distances fuel ((p0.1, p0.2)) p1 p2) fun r33 => (Option.bind (m_ref01_SameInts fuel r30 r33) fun r36 => (law44_CrashJudges_k2  (r36))))) else (law44_CrashJudges_k2  (false))))) else (law44_CrashJudges_k2  (false))))) else (law44_CrashJudges_k2  (false))))
def m_law44_CrashJudges (fuel : Nat) (p0 : List (Int) × (List (List (Int × Int)))) (p1 : List (List (Int))) (p2 : Int) : Option (Bool) :=
 if (60 : Int) < (List.length p0.2 : Int) then (law44_CrashJudges_k1 fuel p0 p1 p2 (true)) else (if (60 : Int) < (List.length p0.1 : Int) then (law44_CrashJudges_k1 fuel p0 p1 p2 (true)) else (law44_CrashJudges_k1 fuel p0 p1 p2 (decide ((60 : Int) < (List.length p1 : Int)))))
theorem t_law44_CrashJudges (fuel : Nat) {p0 : List (Int) × (List (List (Int × Int)))} {p1 : List (List (Int))} {p2 : Int} (v0 : Value)  (v1 : Value)  (z2 : List (Value × List (Int × Int)))  (v3 : Value)  (z4 : List (Value × List (Int))) (r : Bool) (h : m_law44_CrashJudges fuel p0 p1 p2 = some r) :
  Meets Tryz.prog 3 #[Value.agg #[v0, v1], v3, Value.int .u32 (p2)] [Sl RI64 v0 p0.1, S2 RI64I64p v1 z2 p0.2, S2 RI64 v3 z4 p1] (fun x : Unit => Value.bool (r)) (fun x l => l) (fun _ l => l) := by
 refine Meets.of (vs := [Value.agg #[v0, v1], v3, Value.int .u32 (p2)]) Tryz.func3 rfl Tryz.ntmps3 rfl fun c => ?_
 unfold m_law44_CrashJudges at h
 refine J.seq <| J.region <| J.loud (Loud.box (cs := [v0, v1]) rfl rfl) rfl fun b1 => J.quiet (Y.assign rfl) rfl <| J.done <| J.thenN <| J.seq <| J.seq <| J.midI (A := Bool) (B := Unit) (fun a3 => law44_CrashJudges_k1 fuel p0 p1 p2 a3 = some r) (fun a3 b4 => [(1, v3), (2, Value.int .u32 (p2)), (3, Value.pointer (some ⟨b1, 0, none⟩)), (21, Value.bool (a3))]) (fun a3 b4 => [Blk b1 [v0, v1] 25]) (fun a3 b4 => [Sl RI64 v0 p0.1, S2 RI64I64p v1 z2 p0.2, S2 RI64 v3 z4 p1]) ?_ ?_
 ·refine J.region <| J.quiet (Y.fieldB rfl rfl rfl rfl rfl) rfl <| J.quiet (Y.loadB 0 rfl rfl rfl rfl rfl) rfl <| J.quiet (Y.lenN rfl (Lent.fact 1 rfl) rfl) rfl <| J.quiet (Y.gtr rfl rfl) rfl <| J.quiet (Y.move rfl) rfl ?_
  refine J.guardD (by exact rfl) (by exact rfl) (fun hp39 => ?_) (fun hp39 => ?_)
  ·have h := ifP hp39 h
   refine J.guardN rfl rfl rfl <| J.guardN rfl rfl rfl <| J.guardN rfl rfl rfl <| J.guardN rfl rfl rfl <| J.quiet (Y.pickT rfl rfl) rfl <| J.quiet (Y.move rfl) rfl <| J.guardN rfl rfl rfl <| J.guardN rfl rfl rfl <| J.guardN rfl rfl rfl <| J.quiet (Y.pickT rfl rfl) rfl <| J.done <| J.thenN ?_
   exact J.meetI (true) (()) h SF (SubM.refl _) (LentAll.refl _ _)
  ·have h := ifN hp39 h
   refine J.guardY rfl (Y.fieldB rfl rfl rfl rfl rfl) rfl <| J.guardY rfl (Y.loadB 0 rfl rfl rfl rfl rfl) rfl <| J.guardY rfl (Y.lenS rfl (Lent.fact 0 rfl) rfl) rfl <| J.guardY rfl (Y.gtr rfl rfl) rfl <| J.quiet (Y.pickF rfl rfl) rfl <| J.quiet (Y.move rfl) rfl ?_
   refine J.guardD (by exact rfl) (by exact rfl) (fun hp40 => ?_) (fun hp40 => ?_)
   ·have h := ifP hp40 h
    refine J.guardN rfl rfl rfl <| J.guardN rfl rfl rfl <| J.guardN rfl rfl rfl <| J.quiet (Y.pickT rfl rfl) rfl <| J.done <| J.thenN ?_
    exact J.meetI (true) (()) h SF (SubM.refl _) (LentAll.refl _ _)
   ·have h := ifN hp40 h
    refine J.guardY rfl (Y.move rfl) rfl <| J.guardY rfl (Y.lenN rfl (Lent.fact 2 rfl) rfl) rfl <| J.guardY rfl (Y.gtr rfl rfl) rfl <| J.quiet (Y.pickF rfl rfl) rfl <| J.done <| J.thenN ?_
    exact J.meetI (decide ((60 : Int) < (List.length p1 : Int))) (()) h SF (SubM.refl _) (LentAll.refl _ _)
 ·clear h
  intro a3 b4 h
  unfold law44_CrashJudges_k1 at h
  refine J.cond (by exact rfl) (fun hp5 => ?_) (fun hp5 => ?_)
  ·have h := ifP hp5 h
   refine J.seq <| J.region ?_
   have h := bnd h; obtain ⟨r6, hr7, h⟩ := h
   refine J.loud (Loud.callL body5 (t_law44_known fuel  r6 hr7) rfl .nil (fun _ _ => rfl)) rfl fun x8 => J.quiet (Y.assign rfl) rfl <| J.done <| J.thenN <| J.ret <| J.thenR ?_
   obtain rfl := Option.some.inj h
   exact J.retG1 (()) rfl rfl (RV.tmp rfl) (SubM.nil) LentAll.nil
  ·have h := ifBN hp5 h
   refine J.skip <| J.thenN <| J.seq <| J.midI (A := Bool) (B := Unit) (fun a10 => law44_CrashJudges_k2  a10 = some r) (fun a10 b11 => [(6, Value.bool (a10))]) (fun a10 b11 => []) (fun a10 b11 => [Sl RI64 v0 p0.1, S2 RI64I64p v1 z2 p0.2, S2 RI64 v3 z4 p1]) ?_ ?_
   ·refine JR.start [0, 1, 3, 3, 3, 31, 3, 3, 3, 511, 1023, 2047, 4095, 8191, 8191, 8191, 65535, 8191, 8191, 8191, 1048575, 2097151, 4194303, 8388607, 16777215, 16777215, 16777215, 134217727, 16777215, 16777215, 16777215, 2147483647, 4294967295, 8589934591, 17179869183] 31 mixedOrders (by decide +kernel) ?_
    refine JR.open (by exact rfl) ?_
    have h := bnd h; obtain ⟨r12, hr13, h⟩ := h
    refine JR.loud rfl rfl rfl (Loud.callL body5 (t_law44_known fuel  r12 hr13) rfl .nil (fun _ _ => rfl)) rfl (fun x14 => BsOk.z) fun x14 => JR.qt rfl (SubM.nil) (SubL.nil) (Y.move rfl) (HistOk.b rfl HistOk.z) ?_
    refine JR.guard (by exact rfl) (by exact rfl) (by exact rfl) (fun hp15 => ?_) (fun hp15 => ?_)
    ·have h := ifP hp15 h
     refine JR.qtG rfl (SubM.refl _) (SubL.nil) (Y.loadBAll 0 rfl rfl rfl rfl) (HistOk.b rfl HistOk.z) <| JR.qtG rfl (SubM.nil) (SubL.nil) (Y.move rfl) (HistOk.b rfl HistOk.z) <| JR.qtG rfl (SubM.nil) (SubL.nil) (Y.move rfl) (HistOk.b rfl HistOk.z) ?_
     have h := bnd h; obtain ⟨r16, hr17, h⟩ := h
     refine JR.loudG rfl rfl rfl rfl (Loud.callL body6 (t_crash_Coloured fuel v0 v1 z2 v3 z4 r16 hr17) rfl (LentAll.cons (Lent.fact 0 rfl) (LentAll.cons (Lent.fact 1 rfl) (LentAll.cons (Lent.fact 2 rfl) .nil))) (fun _ _ => rfl)) rfl (fun x18 => (BsOk.b rfl (BsOk.b rfl (BsOk.b rfl (BsOk.b rfl BsOk.z))))) fun x18 => JR.qtG rfl (SubM.refl _) (SubL.nil) (Y.loadBAll 0 rfl rfl rfl rfl) (HistOk.h (SubM.cons 0 rfl (SubM.nil)) (SubL.nil) (HistOk.b rfl HistOk.z)) <| JR.qtG rfl (SubM.nil) (SubL.nil) (Y.move rfl) (HistOk.h (SubM.nil) (SubL.nil) (HistOk.b rfl HistOk.z)) <| JR.qtG rfl (SubM.nil) (SubL.nil) (Y.move rfl) (HistOk.h (SubM.nil) (SubL.nil) (HistOk.b rfl HistOk.z)) ?_
     have h := bnd h; obtain ⟨r19, hr20, h⟩ := h
     refine JR.loudG rfl rfl rfl rfl (Loud.callL body7 (t_ref44_Coloured fuel v0 v1 z2 v3 z4 r19 hr20) rfl (LentAll.cons (Lent.fact 0 rfl) (LentAll.cons (Lent.fact 1 rfl) (LentAll.cons (Lent.fact 2 rfl) .nil))) (fun _ _ => rfl)) rfl (fun x21 => (BsOk.b rfl (BsOk.b rfl (BsOk.b rfl (BsOk.b rfl (BsOk.b rfl (BsOk.b rfl (BsOk.b rfl BsOk.z)))))))) fun x21 => JR.qtG rfl (SubM.nil) (SubL.nil) (Y.eqlB rfl rfl rfl) (HistOk.b rfl (HistOk.b rfl (HistOk.b rfl HistOk.z))) <| JR.qt rfl (SubM.nil) (SubL.nil) (Y.pickT rfl rfl) (HistOk.b rfl (HistOk.b rfl (HistOk.b rfl HistOk.z))) <| JR.qt rfl (SubM.nil) (SubL.nil) (Y.move rfl) (HistOk.b rfl (HistOk.b rfl (HistOk.b rfl HistOk.z))) ?_
     refine JR.guard (by exact rfl) (by exact rfl) (by exact rfl) (fun hp22 => ?_) (fun hp22 => ?_)
     ·have h := ifP hp22 h
      refine JR.qtG rfl (SubM.refl _) (SubL.nil) (Y.loadBAll 0 rfl rfl rfl rfl) (HistOk.b rfl (HistOk.b rfl (HistOk.b rfl HistOk.z))) <| JR.qtG rfl (SubM.nil) (SubL.nil) (Y.move rfl) (HistOk.b rfl (HistOk.b rfl (HistOk.b rfl HistOk.z))) <| JR.qtG rfl (SubM.nil) (SubL.nil) (Y.move rfl) (HistOk.b rfl (HistOk.b rfl (HistOk.b rfl HistOk.z))) ?_
      have h := bnd h; obtain ⟨r23, hr24, h⟩ := h
      refine JR.loudG rfl rfl rfl rfl (Loud.callL body8 (t_crash_Independent fuel v0 v1 z2 v3 z4 r23 hr24) rfl (LentAll.cons (Lent.fact 0 rfl) (LentAll.cons (Lent.fact 1 rfl) (LentAll.cons (Lent.fact 2 rfl) .nil))) (fun _ _ => rfl)) rfl (fun x25 => (BsOk.b rfl (BsOk.b rfl (BsOk.b rfl (BsOk.b rfl (BsOk.b rfl (BsOk.b rfl (BsOk.b rfl (BsOk.b rfl (BsOk.b rfl (BsOk.b rfl (BsOk.b rfl (BsOk.b rfl (BsOk.b rfl BsOk.z)))))))))))))) fun x25 => JR.qtG rfl (SubM.refl _) (SubL.nil) (Y.loadBAll 0 rfl rfl rfl rfl) (HistOk.h (SubM.cons 0 rfl (SubM.nil)) (SubL.nil) (HistOk.b rfl (HistOk.b rfl (HistOk.b rfl HistOk.z)))) <| JR.qtG rfl (SubM.nil) (SubL.nil) (Y.move rfl) (HistOk.h (SubM.nil) (SubL.nil) (HistOk.b rfl (HistOk.b rfl (HistOk.b rfl HistOk.z)))) <| JR.qtG rfl (SubM.nil) (SubL.nil) (Y.move rfl) (HistOk.h (SubM.nil) (SubL.nil) (HistOk.b rfl (HistOk.b rfl (HistOk.b rfl HistOk.z)))) ?_
      have h := bnd h; obtain ⟨r26, hr27, h⟩ := h
      refine JR.loudG rfl rfl rfl rfl (Loud.callL body9 (t_ref44_Independent fuel v0 v1 z2 v3 z4 r26 hr27) rfl (LentAll.cons (Lent.fact 0 rfl) (LentAll.cons (Lent.fact 1 rfl) (LentAll.cons (Lent.fact 2 rfl) .nil))) (fun _ _ => rfl)) rfl (fun x28 => (BsOk.b rfl (BsOk.b rfl (BsOk.b rfl (BsOk.b rfl (BsOk.b rfl (BsOk.b rfl (BsOk.b rfl (BsOk.b rfl (BsOk.b rfl (BsOk.b rfl (BsOk.b rfl (BsOk.b rfl (BsOk.b rfl (BsOk.b rfl (BsOk.b rfl (BsOk.b rfl BsOk.z))))))))))))))))) fun x28 => JR.qtG rfl (SubM.nil) (SubL.nil) (Y.eqlB rfl rfl rfl) (HistOk.b rfl (HistOk.b rfl (HistOk.b rfl (HistOk.b rfl (HistOk.b rfl HistOk.z))))) <| JR.qt rfl (SubM.nil) (SubL.nil) (Y.pickT rfl rfl) (HistOk.b rfl (HistOk.b rfl (HistOk.b rfl (HistOk.b rfl (HistOk.b rfl HistOk.z))))) <| JR.qt rfl (SubM.nil) (SubL.nil) (Y.move rfl) (HistOk.b rfl (HistOk.b rfl (HistOk.b rfl (HistOk.b rfl (HistOk.b rfl HistOk.z))))) ?_
      refine JR.guard (by exact rfl) (by exact rfl) (by exact rfl) (fun hp29 => ?_) (fun hp29 => ?_)
      ·have h := ifP hp29 h
       refine JR.qtG rfl (SubM.refl _) (SubL.nil) (Y.loadBAll 0 rfl rfl rfl rfl) (HistOk.b rfl (HistOk.b rfl (HistOk.b rfl (HistOk.b rfl (HistOk.b rfl HistOk.z))))) <| JR.qtG rfl (SubM.nil) (SubL.nil) (Y.move rfl) (HistOk.b rfl (HistOk.b rfl (HistOk.b rfl (HistOk.b rfl (HistOk.b rfl HistOk.z))))) <| JR.qtG rfl (SubM.nil) (SubL.nil) (Y.move rfl) (HistOk.b rfl (HistOk.b rfl (HistOk.b rfl (HistOk.b rfl (HistOk.b rfl HistOk.z))))) ?_
       have h := bnd h; obtain ⟨r30, hr31, h⟩ := h
       refine JR.loudG rfl rfl rfl rfl (Loud.callL body11 (t_crash_Distances fuel v0 v1 z2 v3 z4 r30 hr31) rfl (LentAll.cons (Lent.fact 0 rfl) (LentAll.cons (Lent.fact 1 rfl) (LentAll.cons (Lent.fact 2 rfl) .nil))) (fun _ _ => rfl)) rfl (fun x32 => (BsOk.b rfl (BsOk.b rfl (BsOk.b rfl (BsOk.b rfl (BsOk.b rfl (BsOk.b rfl (BsOk.b rfl (BsOk.b rfl (BsOk.b rfl (BsOk.b rfl (BsOk.b rfl (BsOk.b rfl (BsOk.b rfl (BsOk.b rfl (BsOk.b rfl (BsOk.b rfl (BsOk.b rfl (BsOk.b rfl (BsOk.b rfl (BsOk.b rfl (BsOk.b rfl (BsOk.b rfl BsOk.z))))))))))))))))))))))) fun x32 => JR.qtG rfl (SubM.cons 1 rfl (SubM.nil)) (SubL.nil) (Y.loadBAll 0 rfl rfl rfl rfl) (HistOk.h (SubM.cons 0 rfl (SubM.nil)) (SubL.nil) (HistOk.b rfl (HistOk.b rfl (HistOk.b rfl (HistOk.b rfl (HistOk.b rfl HistOk.z)))))) <| JR.qtG rfl (SubM.nil) (SubL.nil) (Y.move rfl) (HistOk.h (SubM.nil) (SubL.nil) (HistOk.b rfl (HistOk.b rfl (HistOk.b rfl (HistOk.b rfl (HistOk.b rfl HistOk.z)))))) <| JR.qtG rfl (SubM.nil) (SubL.nil) (Y.move rfl) (HistOk.h (SubM.nil) (SubL.nil) (HistOk.b rfl (HistOk.b rfl (HistOk.b rfl (HistOk.b rfl (HistOk.b rfl HistOk.z)))))) <| JR.tailD 31 rfl rfl ?_
       have h := bnd h; obtain ⟨r33, hr34, h⟩ := h
       refine J.loudG rfl (Loud.callL body12 (t_ref44_Distances fuel v0 v1 z2 v3 z4 r33 hr34) rfl (LentAll.cons (Lent.fact 0 rfl) (LentAll.cons (Lent.fact 1 rfl) (LentAll.cons (Lent.fact 2 rfl) .nil))) (fun _ _ => rfl)) rfl fun x35 => ?_
       have h := bnd h; obtain ⟨r36, hr37, h⟩ := h
       refine J.loudG rfl (Loud.callL body10 (t_ref01_SameInts fuel x32 x35 r36 hr37) rfl (LentAll.cons (Lent.ar (Lent.res 1 rfl) FI64) (LentAll.cons (Lent.ar (Lent.res 0 rfl) FI64) .nil)) (fun _ _ => rfl)) rfl fun x38 => J.quiet (Y.pickT rfl rfl) rfl <| J.quiet (Y.assign rfl) rfl <| J.done <| J.thenN ?_
       exact J.meetI (r36) (()) h SF (SubM.nil) (LentAll.refl _ _)
      ·have h := ifBN hp29 h
       refine JR.guardN rfl rfl rfl rfl <| JR.guardN rfl rfl rfl rfl <| JR.guardN rfl rfl rfl rfl <| JR.guardN rfl rfl rfl rfl <| JR.guardN rfl rfl rfl rfl <| JR.guardN rfl rfl rfl rfl <| JR.guardN rfl rfl rfl rfl <| JR.tailD 31 rfl rfl <| J.guardN rfl rfl rfl <| J.guardN rfl rfl rfl <| J.quiet (Y.pickF rfl rfl) rfl <| J.quiet (Y.assign rfl) rfl <| J.done <| J.thenN ?_
       exact J.meetI (false) (()) h SF (SubM.nil) (LentAll.refl _ _)
     ·have h := ifBN hp22 h
      refine JR.guardN rfl rfl rfl rfl <| JR.guardN rfl rfl rfl rfl <| JR.guardN rfl rfl rfl rfl <| JR.guardN rfl rfl rfl rfl <| JR.guardN rfl rfl rfl rfl <| JR.guardN rfl rfl rfl rfl <| JR.guardN rfl rfl rfl rfl <| JR.guardN rfl rfl rfl rfl <| JR.guardN rfl rfl rfl rfl <| JR.qt rfl (SubM.nil) (SubL.nil) (Y.pickF rfl rfl) (HistOk.b rfl (HistOk.b rfl (HistOk.b rfl HistOk.z))) <| JR.qt rfl (SubM.nil) (SubL.nil) (Y.move rfl) (HistOk.b rfl (HistOk.b rfl (HistOk.b rfl HistOk.z))) <| JR.guardN rfl rfl rfl rfl <| JR.guardN rfl rfl rfl rfl <| JR.guardN rfl rfl rfl rfl <| JR.guardN rfl rfl rfl rfl <| JR.guardN rfl rfl rfl rfl <| JR.guardN rfl rfl rfl rfl <| JR.guardN rfl rfl rfl rfl <| JR.tailD 31 rfl rfl <| J.guardN rfl rfl rfl <| J.guardN rfl rfl rfl <| J.quiet (Y.pickF rfl rfl) rfl <| J.quiet (Y.assign rfl) rfl <| J.done <| J.thenN ?_
      exact J.meetI (false) (()) h SF (SubM.nil) (LentAll.refl _ _)
    ·have h := ifBN hp15 h
     refine JR.guardN rfl rfl rfl rfl <| JR.guardN rfl rfl rfl rfl <| JR.guardN rfl rfl rfl rfl <| JR.guardN rfl rfl rfl rfl <| JR.guardN rfl rfl rfl rfl <| JR.guardN rfl rfl rfl rfl <| JR.guardN rfl rfl rfl rfl <| JR.guardN rfl rfl rfl rfl <| JR.guardN rfl rfl rfl rfl <| JR.qt rfl (SubM.nil) (SubL.nil) (Y.pickF rfl rfl) (HistOk.b rfl HistOk.z) <| JR.qt rfl (SubM.nil) (SubL.nil) (Y.move rfl) (HistOk.b rfl HistOk.z) <| JR.guardN rfl rfl rfl rfl <| JR.guardN rfl rfl rfl rfl <| JR.guardN rfl rfl rfl rfl <| JR.guardN rfl rfl rfl rfl <| JR.guardN rfl rfl rfl rfl <| JR.guardN rfl rfl rfl rfl <| JR.guardN rfl rfl rfl rfl <| JR.guardN rfl rfl rfl rfl <| JR.guardN rfl rfl rfl rfl <| JR.qt rfl (SubM.nil) (SubL.nil) (Y.pickF rfl rfl) (HistOk.b rfl HistOk.z) <| JR.qt rfl (SubM.nil) (SubL.nil) (Y.move rfl) (HistOk.b rfl HistOk.z) <| JR.guardN rfl rfl rfl rfl <| JR.guardN rfl rfl rfl rfl <| JR.guardN rfl rfl rfl rfl <| JR.guardN rfl rfl rfl rfl <| JR.guardN rfl rfl rfl rfl <| JR.guardN rfl rfl rfl rfl <| JR.guardN rfl rfl rfl rfl <| JR.tailD 31 rfl rfl <| J.guardN rfl rfl rfl <| J.guardN rfl rfl rfl <| J.quiet (Y.pickF rfl rfl) rfl <| J.quiet (Y.assign rfl) rfl <| J.done <| J.thenN ?_
     exact J.meetI (false) (()) h SF (SubM.nil) (LentAll.refl _ _)
   ·clear h
    intro a10 b11 h
    unfold law44_CrashJudges_k2 at h
    refine J.ret ?_
    obtain rfl := Option.some.inj h
    exact J.retG1 (()) rfl rfl (RV.tmp rfl) (SubM.refl _) LentAll.nil
end Go.Proofs.YtfimaabbclepbaaGreat
end
section
namespace Go.Proofs.YtfimaabbclepbaaGreat
open Go Go.Sx
theorem same2 {P : Prop} {a b : Option Bool} (ha : (P → a = some true) ∧ (¬ P → a = some false)) (hb : (P → b = some true) ∧ (¬ P → b = some false)) : ∃ x, a = some x ∧ b = some x := by
 by_cases h : P
 ·exact ⟨true, ha.1 h, hb.1 h⟩
 ·exact ⟨false, ha.2 h, hb.2 h⟩
theorem judges_pure (g : GR) (c : List (List Int)) (p2 : Int) (h0 : 0 ≤ p2) (h1 : p2 < 4294967296) : m_law44_CrashJudges 1000 g c p2 = some true := by
 obtain ⟨d, rfl⟩ : ∃ d : Nat, p2 = d := ⟨p2.toNat, by omega⟩
 have hd : d < 4294967296 := by omega
 obtain ⟨x, hx, hx'⟩ := same2 (coloured_eq g c hd) (refColoured_eq g c hd)
 obtain ⟨y, hy, hy'⟩ := same2 (independent_eq g c hd) (refIndependent_eq g c hd)
 obtain ⟨l, hl, hl', hl3⟩ := distances_same (g := g) (c := c) hd
 have key : ∀ b, law44_CrashJudges_k1 1000 g c (d : Int) b = some true := fun b => by
  unfold law44_CrashJudges_k1
  cases b with
  | true => rfl
  | false =>
   rw [if_neg (by simp), show m_law44_known 1000 = some true from rfl, bindS rfl, if_pos rfl, hx, bindS rfl, hx', bindS rfl, if_pos (by simp), hy, bindS rfl, hy', bindS rfl, if_pos (by simp), hl, bindS rfl, hl', bindS rfl, sameInts_refl l hl3, bindS rfl]
   rfl
 unfold m_law44_CrashJudges
 split
 ·exact key _
 ·split
  ·exact key _
  ·exact key _
end Go.Proofs.YtfimaabbclepbaaGreat
end
section
namespace Go.Sx
open Go.RowKit Go.ChangeShapes Go.WideShapes Go.ChangeAt Go.Proofs Go.Joins Go.Deep
section
variable {H : Type} {enc : TypeId × Value → H} {P : Program} {w : World} {base : Nat} {spare : Nat → Bool} {held : Bool}
theorem wf_u32 {n : Int} (h : (Lit.int .u32 n).wf = true) : 0 ≤ n ∧ n < 4294967296 := by
 simp only [Lit.wf, Bool.and_eq_true, decide_eq_true_eq] at h
 have e1 : IntKind.u32.min = 0 := by decide
 have e2 : IntKind.u32.max = 4294967295 := by decide
 omega
end
end Go.Sx
end
