/- The layer Sx, part 5: rules that find their own side conditions. Conditions: a table of types that is right for the program. -/
import Derived.Test.YtmajgimhmfeliaaTab
set_option linter.unusedVariables false
set_option linter.unusedSimpArgs false
namespace Go.Sx
open Go.RowKit

def linkRep : Rep (Int × Int) := (Rep.int .i64).pair (Rep.int .i64)
theorem linkRep_to : linkRep.Cell 0 (fun x => .int .i64 x.1) := Rep.pair_cell1 (Rep.int_cell .i64)
theorem linkRep_weight : linkRep.Cell 1 (fun x => .int .i64 x.2) := Rep.pair_cell2 (Rep.int_cell .i64)

section
variable {P : Program} {rd : Option Nat} {c : Ctx} {n : Sz} {σ : Fr} {M L : List Fact}
variable {d : Option Tmp} {ty : TypeId} {pos : String} {aft : Array Edge} {g : Option (Nat × Bool)}
theorem Y.loadInt [Tab P] {T : TypeId} {k : IntKind} {s2 : Nat} {z : Value} {dT : TypeDesc} {x : Operand} {v : Value} {i : Int} {xs : List Int} (hx : ev σ x = some (elq v (i.toNat * 1))) (hf : Sl (Rep.int k) v xs ∈ L)
    (hT : Tab.tab P T = some ⟨dT, 1, s2, z⟩) (hd : aggD dT = false) (h0 : 0 ≤ i) (h1 : i < xs.length) : Y P c n σ M L ⟨d, .load T x, ty, pos, aft, g⟩ (.int k (at' xs i)) :=
  Y.loadEl (f := fun x => .int k x) hx hf hT hd rfl (Rep.int_cell k) h0 h1
theorem Y.loadSl [Tab P] {α : Type} {r : Rep α} {T : TypeId} {s2 : Nat} {z : Value} {dT : TypeDesc} {x : Operand} {v : Value} {i : Int} {xs : List (Value × List α)} (hx : ev σ x = some (elq v (i.toNat * 1))) (hf : Sl (Rep.sl r) v xs ∈ L)
    (hT : Tab.tab P T = some ⟨dT, 1, s2, z⟩) (hd : aggD dT = false) (h0 : 0 ≤ i) (h1 : i < xs.length) : Y P c n σ M L ⟨d, .load T x, ty, pos, aft, g⟩ (at' xs i).1 :=
  Y.loadEl (f := fun x => x.1) hx hf hT hd rfl (Rep.sl_cell r) h0 h1
theorem Y.loadTo [Tab P] {T : TypeId} {s1 s2 : Nat} {z : Value} {dT : TypeDesc} {x : Operand} {v : Value} {i : Int} {xs : List (Int × Int)} (hx : ev σ x = some (elq v (i.toNat * 2 + 0))) (hf : Sl linkRep v xs ∈ L)
    (hT : Tab.tab P T = some ⟨dT, s1, s2, z⟩) (hd : aggD dT = false) (h0 : 0 ≤ i) (h1 : i < xs.length) : Y P c n σ M L ⟨d, .load T x, ty, pos, aft, g⟩ (.int .i64 (at' xs i).1) :=
  Y.loadFd (f := fun x => .int .i64 x.1) hx hf hT hd rfl linkRep_to h0 h1
theorem Y.loadWeight [Tab P] {T : TypeId} {s1 s2 : Nat} {z : Value} {dT : TypeDesc} {x : Operand} {v : Value} {i : Int} {xs : List (Int × Int)} (hx : ev σ x = some (elq v (i.toNat * 2 + 1))) (hf : Sl linkRep v xs ∈ L)
    (hT : Tab.tab P T = some ⟨dT, s1, s2, z⟩) (hd : aggD dT = false) (h0 : 0 ≤ i) (h1 : i < xs.length) : Y P c n σ M L ⟨d, .load T x, ty, pos, aft, g⟩ (.int .i64 (at' xs i).2) :=
  Y.loadFd (f := fun x => .int .i64 x.2) hx hf hT hd rfl linkRep_weight h0 h1
theorem Y.loadLink [Tab P] {T : TypeId} {s2 : Nat} {z : Value} {dT : TypeDesc} {x : Operand} {v : Value} {i : Int} {xs : List (Int × Int)} (hx : ev σ x = some (elq v (i.toNat * 2))) (hf : Sl linkRep v xs ∈ L)
    (hT : Tab.tab P T = some ⟨dT, 2, s2, z⟩) (hd : aggD dT = true) (h0 : 0 ≤ i) (h1 : i < xs.length) : Y P c n σ M L ⟨d, .load T x, ty, pos, aft, g⟩ (.agg #[.int .i64 (at' xs i).1, .int .i64 (at' xs i).2]) := fun a w s t => by
  obtain ⟨S, h⟩ := t.fact hf
  obtain ⟨es, hr, hes⟩ := sl_cell h (at'_some h0 h1)
  obtain ⟨c1, c2, rfl, h1, h2⟩ := hr
  have e1 : c1 = [.int .i64 (at' xs i).1] := h1
  have e2 : c2 = [.int .i64 (at' xs i).2] := h2
  subst e1 e2
  have := run_loadAll (w := w) (A := elA v (i.toNat * 2)) (cs := [.int .i64 (at' xs i).1, .int .i64 (at' xs i).2]) (Tab.ok hT) hd rfl (fun j e he => by rw [elA_add]; exact hes j e he)
  simp [execOp, s.eval hx, elq, this]
end

/-- membership, by looking -/
theorem mem1 {α : Type} {a : α} {l : List α} (h : a ∈ l := by
    first
      | with_reducible exact List.mem_cons_self
      | with_reducible exact List.mem_cons_of_mem _ (List.mem_cons_self)
      | with_reducible exact List.mem_cons_of_mem _ (List.mem_cons_of_mem _ (List.mem_cons_self))
      | with_reducible exact List.mem_cons_of_mem _ (List.mem_cons_of_mem _ (List.mem_cons_of_mem _ (List.mem_cons_self)))
      | with_reducible exact List.mem_cons_of_mem _ (List.mem_cons_of_mem _ (List.mem_cons_of_mem _ (List.mem_cons_of_mem _ (List.mem_cons_self))))
      | with_reducible exact List.mem_cons_of_mem _ (List.mem_cons_of_mem _ (List.mem_cons_of_mem _ (List.mem_cons_of_mem _ (List.mem_cons_of_mem _ (List.mem_cons_self)))))
      | with_reducible exact List.mem_cons_of_mem _ (List.mem_cons_of_mem _ (List.mem_cons_of_mem _ (List.mem_cons_of_mem _ (List.mem_cons_of_mem _ (List.mem_cons_of_mem _ (List.mem_cons_self))))))
      | with_reducible exact List.mem_cons_of_mem _ (List.mem_cons_of_mem _ (List.mem_cons_of_mem _ (List.mem_cons_of_mem _ (List.mem_cons_of_mem _ (List.mem_cons_of_mem _ (List.mem_cons_of_mem _ (List.mem_cons_self)))))))
      | with_reducible exact List.mem_cons_of_mem _ (List.mem_cons_of_mem _ (List.mem_cons_of_mem _ (List.mem_cons_of_mem _ (List.mem_cons_of_mem _ (List.mem_cons_of_mem _ (List.mem_cons_of_mem _ (List.mem_cons_of_mem _ (List.mem_cons_self))))))))
      | exact List.mem_cons_self
      | exact List.mem_cons_of_mem _ (List.mem_cons_self)
      | exact List.mem_cons_of_mem _ (List.mem_cons_of_mem _ (List.mem_cons_self))
      | exact List.mem_cons_of_mem _ (List.mem_cons_of_mem _ (List.mem_cons_of_mem _ (List.mem_cons_self)))
      | exact List.mem_cons_of_mem _ (List.mem_cons_of_mem _ (List.mem_cons_of_mem _ (List.mem_cons_of_mem _ (List.mem_cons_self))))
      | exact List.mem_cons_of_mem _ (List.mem_cons_of_mem _ (List.mem_cons_of_mem _ (List.mem_cons_of_mem _ (List.mem_cons_of_mem _ (List.mem_cons_self)))))
      | exact List.mem_cons_of_mem _ (List.mem_cons_of_mem _ (List.mem_cons_of_mem _ (List.mem_cons_of_mem _ (List.mem_cons_of_mem _ (List.mem_cons_of_mem _ (List.mem_cons_self))))))
      | exact List.mem_cons_of_mem _ (List.mem_cons_of_mem _ (List.mem_cons_of_mem _ (List.mem_cons_of_mem _ (List.mem_cons_of_mem _ (List.mem_cons_of_mem _ (List.mem_cons_of_mem _ (List.mem_cons_self)))))))
      | exact List.mem_cons_of_mem _ (List.mem_cons_of_mem _ (List.mem_cons_of_mem _ (List.mem_cons_of_mem _ (List.mem_cons_of_mem _ (List.mem_cons_of_mem _ (List.mem_cons_of_mem _ (List.mem_cons_of_mem _ (List.mem_cons_self))))))))) : a ∈ l := h

section
variable {P : Program} {rd : Option Nat} {c : Ctx} {n : Sz} {σ : Fr} {M L : List Fact} {Q : Exit → Act → World → Prop} {ops : Array Oper} {rest : List Oper}

/-! rules whose side conditions are found -/
theorem J.loopq {X : Type} {body : Code} (C : X → Prop) (σI : X → Fr) (MI LI : X → List Fact) (μ : X → Nat) (x0 : X) (h0 : C x0)
    (round : ∀ x, C x → J c n (σI x) (MI x) (LI x) (body.wpr rd P (Exit.then (Inv c n C σI MI LI μ (μ x)) Q)))
    (hs : SubF σ (σI x0) := by repeat (first | exact Go.Sx.SubF.nil | refine Go.Sx.SubF.cons (by first | rfl | exact congrArg (fun z => some (Go.Value.int .i64 z)) (by first | omega | (simp; done) | (simp; omega))) ?_))
    (hM : SubM M (MI x0) := by first | exact Go.Sx.SubM.refl _ | repeat (first | exact Go.Sx.SubM.nil | refine Go.Sx.SubM.cons 0 rfl ?_ | refine Go.Sx.SubM.cons 1 rfl ?_ | refine Go.Sx.SubM.cons 2 rfl ?_ | refine Go.Sx.SubM.cons 3 rfl ?_ | refine Go.Sx.SubM.cons 4 rfl ?_ | refine Go.Sx.SubM.cons 5 rfl ?_))
    (hL : SubL L (LI x0) := by first | exact Go.Sx.SubL.refl _ | repeat (first | exact Go.Sx.SubL.nil | refine Go.Sx.SubL.cons Go.Sx.mem1 ?_)) : J c n σ M L ((Code.loop body).wpr rd P Q) :=
  J.loop C σI MI LI μ x0 h0 hs hM hL round

theorem J.againq {X : Type} {C : X → Prop} {σI : X → Fr} {MI LI : X → List Fact} {μ : X → Nat} {m : Nat} (x : X) (hC : C x) (hμ : μ x < m)
    (hs : SubF σ (σI x) := by repeat (first | exact Go.Sx.SubF.nil | refine Go.Sx.SubF.cons (by first | rfl | exact congrArg (fun z => some (Go.Value.int .i64 z)) (by first | omega | (simp; done) | (simp; omega))) ?_))
    (hM : SubM M (MI x) := by first | exact Go.Sx.SubM.refl _ | repeat (first | exact Go.Sx.SubM.nil | refine Go.Sx.SubM.cons 0 rfl ?_ | refine Go.Sx.SubM.cons 1 rfl ?_ | refine Go.Sx.SubM.cons 2 rfl ?_ | refine Go.Sx.SubM.cons 3 rfl ?_ | refine Go.Sx.SubM.cons 4 rfl ?_ | refine Go.Sx.SubM.cons 5 rfl ?_))
    (hL : SubL L (LI x) := by first | exact Go.Sx.SubL.refl _ | repeat (first | exact Go.Sx.SubL.nil | refine Go.Sx.SubL.cons Go.Sx.mem1 ?_)) : J c n σ M L (Inv c n C σI MI LI μ m) :=
  J.again x hC hμ hs hM hL

theorem J.meetq {X : Type} {C : X → Prop} {σI : X → Fr} {MI LI : X → List Fact} (x : X) (hC : C x)
    (hs : SubF σ (σI x) := by repeat (first | exact Go.Sx.SubF.nil | refine Go.Sx.SubF.cons (by first | rfl | exact congrArg (fun z => some (Go.Value.int .i64 z)) (by first | omega | (simp; done) | (simp; omega))) ?_))
    (hM : SubM M (MI x) := by first | exact Go.Sx.SubM.refl _ | repeat (first | exact Go.Sx.SubM.nil | refine Go.Sx.SubM.cons 0 rfl ?_ | refine Go.Sx.SubM.cons 1 rfl ?_ | refine Go.Sx.SubM.cons 2 rfl ?_ | refine Go.Sx.SubM.cons 3 rfl ?_ | refine Go.Sx.SubM.cons 4 rfl ?_ | refine Go.Sx.SubM.cons 5 rfl ?_))
    (hL : SubL L (LI x) := by first | exact Go.Sx.SubL.refl _ | repeat (first | exact Go.Sx.SubL.nil | refine Go.Sx.SubL.cons Go.Sx.mem1 ?_)) : J c n σ M L (Mid c n C σI MI LI) :=
  J.meet x hC hs hM hL

end
end Go.Sx
