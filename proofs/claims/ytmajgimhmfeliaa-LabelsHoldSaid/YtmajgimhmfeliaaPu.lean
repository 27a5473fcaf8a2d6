/- Plain tools for models: loops by an invariant, checks, numbers that fit. Conditions: none. -/
import Derived.Test.YtmajgimhmfeliaaSxr
namespace Go.Sx

theorem iter_eq {X R : Type} {step : X → (X → Option R) → Option R} {r : R} (I : X → Prop) (μ : X → Nat)
    (h : ∀ x ag, I x → (∀ x', I x' → μ x' < μ x → ag x' = some r) → step x ag = some r) : ∀ (fuel : Nat) (x : X), I x → μ x < fuel → iter step fuel x = some r := by
  intro fuel
  induction fuel with
  | zero => intro x _ hx; omega
  | succ k ih =>
    intro x hI hx
    exact h x _ hI fun x' hI' hlt => ih x' hI' (by omega)

/-- the result has a property -/
def OK {R : Type} (Q : R → Prop) (o : Option R) : Prop := ∃ r, o = some r ∧ Q r

theorem iter_ok {X R : Type} {step : X → (X → Option R) → Option R} {Q : R → Prop} (I : X → Prop) (μ : X → Nat)
    (h : ∀ x ag, I x → (∀ x', I x' → μ x' < μ x → OK Q (ag x')) → OK Q (step x ag)) : ∀ (fuel : Nat) (x : X), I x → μ x < fuel → OK Q (iter step fuel x) := by
  intro fuel
  induction fuel with
  | zero => intro x _ hx; omega
  | succ k ih =>
    intro x hI hx
    exact h x _ hI fun x' hI' hlt => ih x' hI' (by omega)

theorem ckT {β : Type} {p : Prop} [Decidable p] (hp : p) (x : Option β) : ck p x = x := if_pos hp

theorem wr {x : Int} (h1 : -9223372036854775808 ≤ x) (h2 : x ≤ 9223372036854775807) : wI .i64 x = x := if_pos ⟨h1, h2⟩

theorem bindS {β γ : Type} {x : Option β} {y : β} {f : β → Option γ} (h : x = some y) : x.bind f = f y := by rw [h]; rfl

theorem set_at {α : Type} (l r : List α) (x y : α) (i : Nat) (h : l.length = i) : (l ++ x :: r).set i y = l ++ y :: r := by
  rw [List.set_append_right _ _ (by omega)]; simp [← h]

theorem at_append {α : Type} [Inhabited α] (l r : List α) (x : α) (i : Nat) (h : l.length = i) : at' (l ++ x :: r) (i : Int) = x := by
  rw [at'_nat, List.getD_eq_getElem?_getD, List.getElem?_append_right (by omega)]; simp [← h]
end Go.Sx
