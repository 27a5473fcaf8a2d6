/- The layer Sx, part 13: ways that meet again, after the sequence was opened. Conditions: none of its own. -/
import Derived.Test.YtmajgimhmfeliaaSxl
set_option linter.unusedVariables false
set_option linter.unusedSimpArgs false
namespace Go.Sx
variable {P : Program} {rd : Option Nat} {c : Ctx} {n : Sz} {σ σ' : Fr} {M M' L L' : List Fact} {G G' : Act → World → Prop} {Q : Exit → Act → World → Prop} {K : Act → World → Prop}

theorem J.midT {X : Type} {x : Code} (C : X → Prop) (σI : X → Fr) (MI LI : X → List Fact) (h1 : J c n σ M L (x.wpr rd P (Exit.then (Mid c n C σI MI LI) Q))) (h2 : ∀ z, C z → J c n (σI z) (MI z) (LI z) K) :
    J c n σ M L (x.wpr rd P (Exit.then K Q)) := fun a w s t => wpr_mono (fun e a' w' q => by
  cases e with
  | normal => obtain ⟨z, hC, hs, ht⟩ := q; exact h2 z hC a' w' hs ht
  | exit id => exact q
  | goto l => exact q
  | ret => exact q
  | panic ch => exact q
  | outgrown => exact q) (h1 a w s t)

theorem oper_mono {o : Oper} {a : Act} {w : World} {K K' : Act → World → Prop} {Q Q' : Exit → Act → World → Prop} (h : ∀ a w, K a w → K' a w) (hq : ∀ e a w, Q e a w → Q' e a w)
    (hh : o.wp P a w K Q) : o.wp P a w K' Q' := by
  unfold Oper.wp at *
  generalize (execOp a.eval o).run P w = r at *
  cases r with
  | ok n w' =>
    cases n <;> simp only [Oper.upon] at hh ⊢ <;>
      first
        | exact h _ _ hh
        | exact Calls.mono hh (fun e w'' he => by cases e <;> first | exact h _ _ he | exact hq _ _ _ he | (obtain ⟨a1, w1, h1⟩ := he; exact ⟨a1, w1, hq _ _ _ h1⟩))
        | exact Rows.mono hh (fun _ _ he => h _ _ he)
  | halt x w' => cases x <;> simp only [Oper.upon] at hh ⊢ <;> first | exact hh | exact hq _ _ _ hh

theorem wpList_mono {ops : Array Oper} {Q Q' : Exit → Act → World → Prop} (hq : ∀ e a w, Q e a w → Q' e a w) : ∀ (l : List Oper) (a : Act) (w : World), wpList P ops Q l a w → wpList P ops Q' l a w
  | [], a, w, h => hq _ _ _ h
  | o :: rest, a, w, h => by
    unfold wpList at h ⊢
    split
    · rename_i hw
      rw [if_pos hw] at h
      rcases h with h | h
      · exact .inl (oper_mono (fun a w => wpList_mono hq rest a w) (fun e a w => hq e a w) h)
      · exact .inr (Oper.rnd_mono (fun a w => wpList_mono hq rest a w) h)
    · rename_i hw
      rw [if_neg hw] at h
      exact wpList_mono hq rest _ _ h

theorem J.midL {X : Type} {ops : Array Oper} {l : List Oper} (C : X → Prop) (σI : X → Fr) (MI LI : X → List Fact) (h1 : J c n σ M L (wpList P ops (Exit.then (Mid c n C σI MI LI) Q) l)) (h2 : ∀ z, C z → J c n (σI z) (MI z) (LI z) K) :
    J c n σ M L (wpList P ops (Exit.then K Q) l) := fun a w s t => wpList_mono (fun e a' w' q => by
  cases e with
  | normal => obtain ⟨z, hC, hs, ht⟩ := q; exact h2 z hC a' w' hs ht
  | exit id => exact q
  | goto l => exact q
  | ret => exact q
  | panic ch => exact q
  | outgrown => exact q) _ _ _ (h1 a w s t)
end Go.Sx
