/- Models of functions with their proofs, by program (gen/xt.py), and plain laws, in one text. Conditions: none. -/
import Derived.Test.YtmajgimhmfeliaaZLWh1
import Derived.Test.YtmajgimhmfeliaaRows
import Derived.ProofKit
import Derived.Deep.Slices
import Derived.Lib.SmallJoins
import Derived.Maps.RangeRun
section
set_option linter.unusedVariables false
set_option linter.unusedSimpArgs false
set_option linter.unusedVariables false
set_option linter.unusedSimpArgs false
namespace Go.Sx
open Go.RowKit
theorem mixedOrders : Go.Proofs.Try.prog.follows .mixedOrders = true := by kernel_rfl

section
variable {P : Program} {rd : Option Nat} {c : Ctx} {n : Sz} {σ : Fr} {M L : List Fact} {Q : Exit → Act → World → Prop} {ops : Array Oper} {rest : List Oper}
theorem Y.buildOf {d : Option Tmp} {ty : TypeId} {pos : String} {aft : Array Edge} {g : Option (Nat × Bool)} {T : TypeId} {ps : List (Nat × Operand)} {vs : List (Nat × Value)} {r : Value} (hv : ps.map (fun p => (p.1, ev σ p.2)) = vs.map (fun p => (p.1, some p.2)))
    (hr : ∀ w, (Instr.build T vs.toArray).run P w = .ok r w) : Y P c n σ M L ⟨d, .build T ps.toArray, ty, pos, aft, g⟩ r := fun a w s _ => by
  have hps : ps.map (fun p => (p.1, a.eval p.2)) = vs := by
    clear hr
    induction ps generalizing vs with
    | nil => cases vs <;> simp_all
    | cons p ps ih =>
      cases vs with
      | nil => simp at hv
      | cons q vs =>
        simp only [List.map_cons, List.cons.injEq, Prod.mk.injEq] at hv
        simp only [List.map_cons, s.eval hv.1.2, hv.1.1, ih hv.2]
  simp only [execOp, List.map_toArray, hps]
  simp [hr w]

theorem Y.bld0 {d : Option Tmp} {ty : TypeId} {pos : String} {aft : Array Edge} {g : Option (Nat × Bool)} {T : TypeId} {r : Value} (hr : ∀ w, (Instr.build T ([] : List (Nat × Value)).toArray).run P w = .ok r w) : Y P c n σ M L ⟨d, .build T #[], ty, pos, aft, g⟩ r :=
  Y.buildOf (ps := []) (vs := []) (by simp) hr
theorem Y.bld1 {d : Option Tmp} {ty : TypeId} {pos : String} {aft : Array Edge} {g : Option (Nat × Bool)} {T : TypeId} {i0 : Nat} {x0 : Operand} {v0 : Value} {r : Value} (h0 : ev σ x0 = some v0) (hr : ∀ w, (Instr.build T ([(i0, v0)] : List (Nat × Value)).toArray).run P w = .ok r w) : Y P c n σ M L ⟨d, .build T #[(i0, x0)], ty, pos, aft, g⟩ r :=
  Y.buildOf (ps := [(i0, x0)]) (vs := [(i0, v0)]) (by simp [h0]) hr
theorem Y.bld2 {d : Option Tmp} {ty : TypeId} {pos : String} {aft : Array Edge} {g : Option (Nat × Bool)} {T : TypeId} {i0 i1 : Nat} {x0 x1 : Operand} {v0 v1 : Value} {r : Value} (h0 : ev σ x0 = some v0) (h1 : ev σ x1 = some v1) (hr : ∀ w, (Instr.build T ([(i0, v0), (i1, v1)] : List (Nat × Value)).toArray).run P w = .ok r w) : Y P c n σ M L ⟨d, .build T #[(i0, x0), (i1, x1)], ty, pos, aft, g⟩ r :=
  Y.buildOf (ps := [(i0, x0), (i1, x1)]) (vs := [(i0, v0), (i1, v1)]) (by simp [h0, h1]) hr
theorem Y.bld3 {d : Option Tmp} {ty : TypeId} {pos : String} {aft : Array Edge} {g : Option (Nat × Bool)} {T : TypeId} {i0 i1 i2 : Nat} {x0 x1 x2 : Operand} {v0 v1 v2 : Value} {r : Value} (h0 : ev σ x0 = some v0) (h1 : ev σ x1 = some v1) (h2 : ev σ x2 = some v2) (hr : ∀ w, (Instr.build T ([(i0, v0), (i1, v1), (i2, v2)] : List (Nat × Value)).toArray).run P w = .ok r w) : Y P c n σ M L ⟨d, .build T #[(i0, x0), (i1, x1), (i2, x2)], ty, pos, aft, g⟩ r :=
  Y.buildOf (ps := [(i0, x0), (i1, x1), (i2, x2)]) (vs := [(i0, v0), (i1, v1), (i2, v2)]) (by simp [h0, h1, h2]) hr
theorem Y.bld4 {d : Option Tmp} {ty : TypeId} {pos : String} {aft : Array Edge} {g : Option (Nat × Bool)} {T : TypeId} {i0 i1 i2 i3 : Nat} {x0 x1 x2 x3 : Operand} {v0 v1 v2 v3 : Value} {r : Value} (h0 : ev σ x0 = some v0) (h1 : ev σ x1 = some v1) (h2 : ev σ x2 = some v2) (h3 : ev σ x3 = some v3) (hr : ∀ w, (Instr.build T ([(i0, v0), (i1, v1), (i2, v2), (i3, v3)] : List (Nat × Value)).toArray).run P w = .ok r w) : Y P c n σ M L ⟨d, .build T #[(i0, x0), (i1, x1), (i2, x2), (i3, x3)], ty, pos, aft, g⟩ r :=
  Y.buildOf (ps := [(i0, x0), (i1, x1), (i2, x2), (i3, x3)]) (vs := [(i0, v0), (i1, v1), (i2, v2), (i3, v3)]) (by simp [h0, h1, h2, h3]) hr
theorem Y.makeFunc1 {d : Option Tmp} {ty : TypeId} {pos : String} {aft : Array Edge} {g : Option (Nat × Bool)} {fn : Fn} {x : Operand} {v : Value} (hx : ev σ x = some v) : Y P c n σ M L ⟨d, .makeFunc fn #[] #[x], ty, pos, aft, g⟩ (.func fn #[] #[v]) := fun a w s _ => by
  simp [execOp, Instr.makeFunc, s.eval hx]
theorem tdiv_bd {x y : Int} (h0 : 0 ≤ x) (h1 : 1 ≤ y) : 0 ≤ x.tdiv y ∧ x.tdiv y ≤ x := by
  rw [Int.tdiv_eq_ediv_of_nonneg h0]
  exact ⟨Int.ediv_nonneg h0 (by omega), Int.ediv_le_self y h0⟩
theorem tdiv_lo {x y : Int} (h0 : 0 ≤ x ∧ x ≤ 9223372036854775807) (h1 : 1 ≤ y) : -9223372036854775808 ≤ x.tdiv y := by have := tdiv_bd h0.1 h1; omega
theorem tdiv_hi {x y : Int} (h0 : 0 ≤ x ∧ x ≤ 9223372036854775807) (h1 : 1 ≤ y) : x.tdiv y ≤ 9223372036854775807 := by have := tdiv_bd h0.1 h1; omega
theorem cells_agg (cs : Array Value) : (Value.agg cs).cells = cs := rfl
theorem build_link (a b : Int) (w : World) : (Instr.build 40 [(0, Value.int .i64 a), (1, Value.int .i64 b)].toArray).run Go.Proofs.Try.prog w = .ok (.agg #[.int .i64 a, .int .i64 b]) w := by
  simp [Instr.build, Instr.fill, Value.cells]
theorem build_graph0 (w : World) : (Instr.build 29 ([] : List (Nat × Value)).toArray).run Go.Proofs.Try.prog w = .ok (.agg #[.slice none 0 0, .slice none 0 0]) w := by
  simp [Instr.build, Instr.fill, Value.cells]
theorem build_graph1 {v : Value} (hv : one v = true) (w : World) : (Instr.build 29 [(1, v)].toArray).run Go.Proofs.Try.prog w = .ok (.agg #[.slice none 0 0, v]) w := by
  simp [Instr.build, Instr.fill, cells_agg, one_cells hv]
theorem build_graph2 {u v : Value} (hu : one u = true) (hv : one v = true) (w : World) : (Instr.build 29 [(0, u), (1, v)].toArray).run Go.Proofs.Try.prog w = .ok (.agg #[u, v]) w := by
  simp [Instr.build, Instr.fill, cells_agg, one_cells hu, one_cells hv]

/-- an operation that only computes; its value by looking -/
theorem J.q [Tab P] {d : Nat} {op : Op} {ty : TypeId} {pos : String} {aft : Array Edge} {v : Value}
    (hy : Y P c n σ M L ⟨some d, op, ty, pos, aft, none⟩ v := by
    first
      | ((with_reducible apply Go.Sx.Y.move); exact rfl)
      | ((with_reducible apply Go.Sx.Y.assign); exact rfl)
      | ((with_reducible apply Go.Sx.Y.lss); exact rfl; exact rfl)
      | ((with_reducible apply Go.Sx.Y.add); exact rfl; exact rfl; omega; omega)
      | ((with_reducible apply Go.Sx.Y.sub); exact rfl; exact rfl; omega; omega)
      | ((with_reducible apply Go.Sx.Y.fieldB); exact rfl; exact rfl; exact rfl; exact rfl; exact rfl)
      | ((with_reducible apply Go.Sx.Y.fieldEl); exact rfl; exact rfl; exact rfl; exact rfl; exact rfl)
      | ((with_reducible apply Go.Sx.Y.loadB 0); exact rfl; exact rfl; exact rfl; exact rfl; exact rfl)
      | ((with_reducible apply Go.Sx.Y.loadB 1); exact rfl; exact rfl; exact rfl; exact rfl; exact rfl)
      | ((with_reducible apply Go.Sx.Y.loadB 2); exact rfl; exact rfl; exact rfl; exact rfl; exact rfl)
      | ((with_reducible apply Go.Sx.Y.loadB 3); exact rfl; exact rfl; exact rfl; exact rfl; exact rfl)
      | ((with_reducible apply Go.Sx.Y.len); exact rfl; exact Go.Sx.mem1; exact rfl)
      | ((with_reducible apply Go.Sx.Y.index); exact rfl; exact rfl; exact Go.Sx.mem1; exact rfl; exact rfl; omega; omega)
      | ((with_reducible apply Go.Sx.Y.loadInt); exact rfl; exact Go.Sx.mem1; exact rfl; exact rfl; omega; omega)
      | ((with_reducible apply Go.Sx.Y.loadSl); exact rfl; exact Go.Sx.mem1; exact rfl; exact rfl; omega; omega)
      | ((with_reducible apply Go.Sx.Y.loadTo); exact rfl; exact Go.Sx.mem1; exact rfl; exact rfl; omega; omega)
      | ((with_reducible apply Go.Sx.Y.loadWeight); exact rfl; exact Go.Sx.mem1; exact rfl; exact rfl; omega; omega)
      | ((with_reducible apply Go.Sx.Y.loadLink); exact rfl; exact Go.Sx.mem1; exact rfl; exact rfl; omega; omega)
      | ((with_reducible apply Go.Sx.Y.loadBAll 0); exact rfl; exact rfl; exact rfl; exact rfl)
      | ((with_reducible apply Go.Sx.Y.loadBAll 1); exact rfl; exact rfl; exact rfl; exact rfl)
      | ((with_reducible apply Go.Sx.Y.loadBAll 2); exact rfl; exact rfl; exact rfl; exact rfl)
      | ((with_reducible apply Go.Sx.Y.loadBAll 3); exact rfl; exact rfl; exact rfl; exact rfl)
      | ((with_reducible apply Go.Sx.Y.eql); exact rfl; exact rfl)
      | ((with_reducible apply Go.Sx.Y.neq); exact rfl; exact rfl)
      | ((with_reducible apply Go.Sx.Y.leq); exact rfl; exact rfl)
      | ((with_reducible apply Go.Sx.Y.gtr); exact rfl; exact rfl)
      | ((with_reducible apply Go.Sx.Y.geq); exact rfl; exact rfl)
      | ((with_reducible apply Go.Sx.Y.notD); exact rfl)
      | ((with_reducible apply Go.Sx.Y.not); exact rfl)
      | ((with_reducible apply Go.Sx.Y.pickT); exact rfl; exact rfl)
      | ((with_reducible apply Go.Sx.Y.pickF); exact rfl; exact rfl)
      | ((with_reducible apply Go.Sx.Y.max); exact rfl; exact rfl)
      | ((with_reducible apply Go.Sx.Y.min); exact rfl; exact rfl)
      | ((with_reducible apply Go.Sx.Y.extract); exact rfl; exact rfl)
      | ((with_reducible apply Go.Sx.Y.mul); exact rfl; exact rfl; omega; omega)
      | ((with_reducible apply Go.Sx.Y.rem); exact rfl; exact rfl; omega)
      | ((with_reducible apply Go.Sx.Y.lenA 0); exact rfl; exact rfl; exact rfl)
      | ((with_reducible apply Go.Sx.Y.indexA 0); exact rfl; exact rfl; exact rfl; exact rfl; exact rfl; omega; omega)
      | ((with_reducible apply Go.Sx.Y.loadA0 (α := Int) 0); exact rfl; exact rfl; exact rfl; exact rfl; exact rfl; exact rfl; omega; omega)
      | ((with_reducible apply Go.Sx.Y.loadA0 (α := Bool) 0); exact rfl; exact rfl; exact rfl; exact rfl; exact rfl; exact rfl; omega; omega)
      | ((with_reducible apply Go.Sx.Y.loadA0 (α := Value) 0); exact rfl; exact rfl; exact rfl; exact rfl; exact rfl; exact rfl; omega; omega)
      | ((with_reducible apply Go.Sx.Y.loadA (α := Int × Int) 0); exact rfl; exact rfl; exact rfl; exact rfl; exact rfl; exact rfl; omega; omega)
      | ((with_reducible apply Go.Sx.Y.lenA 1); exact rfl; exact rfl; exact rfl)
      | ((with_reducible apply Go.Sx.Y.indexA 1); exact rfl; exact rfl; exact rfl; exact rfl; exact rfl; omega; omega)
      | ((with_reducible apply Go.Sx.Y.loadA0 (α := Int) 1); exact rfl; exact rfl; exact rfl; exact rfl; exact rfl; exact rfl; omega; omega)
      | ((with_reducible apply Go.Sx.Y.loadA0 (α := Bool) 1); exact rfl; exact rfl; exact rfl; exact rfl; exact rfl; exact rfl; omega; omega)
      | ((with_reducible apply Go.Sx.Y.loadA0 (α := Value) 1); exact rfl; exact rfl; exact rfl; exact rfl; exact rfl; exact rfl; omega; omega)
      | ((with_reducible apply Go.Sx.Y.loadA (α := Int × Int) 1); exact rfl; exact rfl; exact rfl; exact rfl; exact rfl; exact rfl; omega; omega)
      | ((with_reducible apply Go.Sx.Y.lenA 2); exact rfl; exact rfl; exact rfl)
      | ((with_reducible apply Go.Sx.Y.indexA 2); exact rfl; exact rfl; exact rfl; exact rfl; exact rfl; omega; omega)
      | ((with_reducible apply Go.Sx.Y.loadA0 (α := Int) 2); exact rfl; exact rfl; exact rfl; exact rfl; exact rfl; exact rfl; omega; omega)
      | ((with_reducible apply Go.Sx.Y.loadA0 (α := Bool) 2); exact rfl; exact rfl; exact rfl; exact rfl; exact rfl; exact rfl; omega; omega)
      | ((with_reducible apply Go.Sx.Y.loadA0 (α := Value) 2); exact rfl; exact rfl; exact rfl; exact rfl; exact rfl; exact rfl; omega; omega)
      | ((with_reducible apply Go.Sx.Y.loadA (α := Int × Int) 2); exact rfl; exact rfl; exact rfl; exact rfl; exact rfl; exact rfl; omega; omega)
      | ((with_reducible apply Go.Sx.Y.lenA 3); exact rfl; exact rfl; exact rfl)
      | ((with_reducible apply Go.Sx.Y.indexA 3); exact rfl; exact rfl; exact rfl; exact rfl; exact rfl; omega; omega)
      | ((with_reducible apply Go.Sx.Y.loadA0 (α := Int) 3); exact rfl; exact rfl; exact rfl; exact rfl; exact rfl; exact rfl; omega; omega)
      | ((with_reducible apply Go.Sx.Y.loadA0 (α := Bool) 3); exact rfl; exact rfl; exact rfl; exact rfl; exact rfl; exact rfl; omega; omega)
      | ((with_reducible apply Go.Sx.Y.loadA0 (α := Value) 3); exact rfl; exact rfl; exact rfl; exact rfl; exact rfl; exact rfl; omega; omega)
      | ((with_reducible apply Go.Sx.Y.loadA (α := Int × Int) 3); exact rfl; exact rfl; exact rfl; exact rfl; exact rfl; exact rfl; omega; omega)
      | ((with_reducible apply Go.Sx.Y.lenA 4); exact rfl; exact rfl; exact rfl)
      | ((with_reducible apply Go.Sx.Y.indexA 4); exact rfl; exact rfl; exact rfl; exact rfl; exact rfl; omega; omega)
      | ((with_reducible apply Go.Sx.Y.loadA0 (α := Int) 4); exact rfl; exact rfl; exact rfl; exact rfl; exact rfl; exact rfl; omega; omega)
      | ((with_reducible apply Go.Sx.Y.loadA0 (α := Bool) 4); exact rfl; exact rfl; exact rfl; exact rfl; exact rfl; exact rfl; omega; omega)
      | ((with_reducible apply Go.Sx.Y.loadA0 (α := Value) 4); exact rfl; exact rfl; exact rfl; exact rfl; exact rfl; exact rfl; omega; omega)
      | ((with_reducible apply Go.Sx.Y.loadA (α := Int × Int) 4); exact rfl; exact rfl; exact rfl; exact rfl; exact rfl; exact rfl; omega; omega)
      | ((with_reducible apply Go.Sx.Y.lenA 5); exact rfl; exact rfl; exact rfl)
      | ((with_reducible apply Go.Sx.Y.indexA 5); exact rfl; exact rfl; exact rfl; exact rfl; exact rfl; omega; omega)
      | ((with_reducible apply Go.Sx.Y.loadA0 (α := Int) 5); exact rfl; exact rfl; exact rfl; exact rfl; exact rfl; exact rfl; omega; omega)
      | ((with_reducible apply Go.Sx.Y.loadA0 (α := Bool) 5); exact rfl; exact rfl; exact rfl; exact rfl; exact rfl; exact rfl; omega; omega)
      | ((with_reducible apply Go.Sx.Y.loadA0 (α := Value) 5); exact rfl; exact rfl; exact rfl; exact rfl; exact rfl; exact rfl; omega; omega)
      | ((with_reducible apply Go.Sx.Y.loadA (α := Int × Int) 5); exact rfl; exact rfl; exact rfl; exact rfl; exact rfl; exact rfl; omega; omega)
      | ((with_reducible apply Go.Sx.Y.bld2); exact rfl; exact rfl; (first | exact Go.Sx.build_link _ _ | exact Go.Sx.build_graph2 (by first | rfl | assumption) (by first | rfl | assumption)))
      | ((with_reducible apply Go.Sx.Y.bld0); exact Go.Sx.build_graph0)
      | ((with_reducible apply Go.Sx.Y.bld1); exact rfl; exact Go.Sx.build_graph1 (by first | rfl | assumption))
      | ((with_reducible apply Go.Sx.Y.makeFunc1); exact rfl)
      | ((with_reducible apply Go.Sx.Y.loadBL); exact rfl; exact Go.Sx.mem1; exact rfl; exact rfl; exact rfl)
      | ((with_reducible apply Go.Sx.Y.quo); exact rfl; exact rfl; omega; (first | omega | exact Go.Sx.tdiv_lo (by omega) (by omega)); (first | omega | exact Go.Sx.tdiv_hi (by omega) (by omega)))
      | ((with_reducible apply Go.Sx.Y.loadB 4); exact rfl; exact rfl; exact rfl; exact rfl; exact rfl)
      | ((with_reducible apply Go.Sx.Y.loadB 5); exact rfl; exact rfl; exact rfl; exact rfl; exact rfl)
      | ((with_reducible apply Go.Sx.Y.loadBAll 4); exact rfl; exact rfl; exact rfl; exact rfl)
      | ((with_reducible apply Go.Sx.Y.loadBAll 5); exact rfl; exact rfl; exact rfl; exact rfl))
    (hd : Nat.blt d n.sz = true := by exact rfl) (h : J c n ((d, v) :: σ) M L (wpList P ops Q rest)) :
    J c n σ M L (wpList P ops Q (⟨some d, op, ty, pos, aft, none⟩ :: rest)) := J.quiet hy hd h

end
section
variable {P : Program} {rd : Option Nat} {c : Ctx} {n : Sz} {σ : Fr} {M L : List Fact} {Q : Exit → Act → World → Prop} {l : List Oper} {m : List Nat} {k0 : Nat} {H Bs : List (Nat × List Fact × List Fact)} {rest : List Nat}
theorem JR.q0 [Tab P] {i d : Nat} {op : Op} {ty : TypeId} {pos : String} {aft : Array Edge} {v : Value}
    (hi : l[i]? = some ⟨some d, op, ty, pos, aft, none⟩ := by exact rfl) (hy : Y P c n σ [] [] ⟨some d, op, ty, pos, aft, none⟩ v := by
    first
      | ((with_reducible apply Go.Sx.Y.move); exact rfl)
      | ((with_reducible apply Go.Sx.Y.assign); exact rfl)
      | ((with_reducible apply Go.Sx.Y.lss); exact rfl; exact rfl)
      | ((with_reducible apply Go.Sx.Y.add); exact rfl; exact rfl; omega; omega)
      | ((with_reducible apply Go.Sx.Y.sub); exact rfl; exact rfl; omega; omega)
      | ((with_reducible apply Go.Sx.Y.fieldB); exact rfl; exact rfl; exact rfl; exact rfl; exact rfl)
      | ((with_reducible apply Go.Sx.Y.fieldEl); exact rfl; exact rfl; exact rfl; exact rfl; exact rfl)
      | ((with_reducible apply Go.Sx.Y.loadB 0); exact rfl; exact rfl; exact rfl; exact rfl; exact rfl)
      | ((with_reducible apply Go.Sx.Y.loadB 1); exact rfl; exact rfl; exact rfl; exact rfl; exact rfl)
      | ((with_reducible apply Go.Sx.Y.loadB 2); exact rfl; exact rfl; exact rfl; exact rfl; exact rfl)
      | ((with_reducible apply Go.Sx.Y.loadB 3); exact rfl; exact rfl; exact rfl; exact rfl; exact rfl)
      | ((with_reducible apply Go.Sx.Y.len); exact rfl; exact Go.Sx.mem1; exact rfl)
      | ((with_reducible apply Go.Sx.Y.index); exact rfl; exact rfl; exact Go.Sx.mem1; exact rfl; exact rfl; omega; omega)
      | ((with_reducible apply Go.Sx.Y.loadInt); exact rfl; exact Go.Sx.mem1; exact rfl; exact rfl; omega; omega)
      | ((with_reducible apply Go.Sx.Y.loadSl); exact rfl; exact Go.Sx.mem1; exact rfl; exact rfl; omega; omega)
      | ((with_reducible apply Go.Sx.Y.loadTo); exact rfl; exact Go.Sx.mem1; exact rfl; exact rfl; omega; omega)
      | ((with_reducible apply Go.Sx.Y.loadWeight); exact rfl; exact Go.Sx.mem1; exact rfl; exact rfl; omega; omega)
      | ((with_reducible apply Go.Sx.Y.loadLink); exact rfl; exact Go.Sx.mem1; exact rfl; exact rfl; omega; omega)
      | ((with_reducible apply Go.Sx.Y.loadBAll 0); exact rfl; exact rfl; exact rfl; exact rfl)
      | ((with_reducible apply Go.Sx.Y.loadBAll 1); exact rfl; exact rfl; exact rfl; exact rfl)
      | ((with_reducible apply Go.Sx.Y.loadBAll 2); exact rfl; exact rfl; exact rfl; exact rfl)
      | ((with_reducible apply Go.Sx.Y.loadBAll 3); exact rfl; exact rfl; exact rfl; exact rfl)
      | ((with_reducible apply Go.Sx.Y.eql); exact rfl; exact rfl)
      | ((with_reducible apply Go.Sx.Y.neq); exact rfl; exact rfl)
      | ((with_reducible apply Go.Sx.Y.leq); exact rfl; exact rfl)
      | ((with_reducible apply Go.Sx.Y.gtr); exact rfl; exact rfl)
      | ((with_reducible apply Go.Sx.Y.geq); exact rfl; exact rfl)
      | ((with_reducible apply Go.Sx.Y.notD); exact rfl)
      | ((with_reducible apply Go.Sx.Y.not); exact rfl)
      | ((with_reducible apply Go.Sx.Y.pickT); exact rfl; exact rfl)
      | ((with_reducible apply Go.Sx.Y.pickF); exact rfl; exact rfl)
      | ((with_reducible apply Go.Sx.Y.max); exact rfl; exact rfl)
      | ((with_reducible apply Go.Sx.Y.min); exact rfl; exact rfl)
      | ((with_reducible apply Go.Sx.Y.extract); exact rfl; exact rfl)
      | ((with_reducible apply Go.Sx.Y.mul); exact rfl; exact rfl; omega; omega)
      | ((with_reducible apply Go.Sx.Y.rem); exact rfl; exact rfl; omega)
      | ((with_reducible apply Go.Sx.Y.lenA 0); exact rfl; exact rfl; exact rfl)
      | ((with_reducible apply Go.Sx.Y.indexA 0); exact rfl; exact rfl; exact rfl; exact rfl; exact rfl; omega; omega)
      | ((with_reducible apply Go.Sx.Y.loadA0 (α := Int) 0); exact rfl; exact rfl; exact rfl; exact rfl; exact rfl; exact rfl; omega; omega)
      | ((with_reducible apply Go.Sx.Y.loadA0 (α := Bool) 0); exact rfl; exact rfl; exact rfl; exact rfl; exact rfl; exact rfl; omega; omega)
      | ((with_reducible apply Go.Sx.Y.loadA0 (α := Value) 0); exact rfl; exact rfl; exact rfl; exact rfl; exact rfl; exact rfl; omega; omega)
      | ((with_reducible apply Go.Sx.Y.loadA (α := Int × Int) 0); exact rfl; exact rfl; exact rfl; exact rfl; exact rfl; exact rfl; omega; omega)
      | ((with_reducible apply Go.Sx.Y.lenA 1); exact rfl; exact rfl; exact rfl)
      | ((with_reducible apply Go.Sx.Y.indexA 1); exact rfl; exact rfl; exact rfl; exact rfl; exact rfl; omega; omega)
      | ((with_reducible apply Go.Sx.Y.loadA0 (α := Int) 1); exact rfl; exact rfl; exact rfl; exact rfl; exact rfl; exact rfl; omega; omega)
      | ((with_reducible apply Go.Sx.Y.loadA0 (α := Bool) 1); exact rfl; exact rfl; exact rfl; exact rfl; exact rfl; exact rfl; omega; omega)
      | ((with_reducible apply Go.Sx.Y.loadA0 (α := Value) 1); exact rfl; exact rfl; exact rfl; exact rfl; exact rfl; exact rfl; omega; omega)
      | ((with_reducible apply Go.Sx.Y.loadA (α := Int × Int) 1); exact rfl; exact rfl; exact rfl; exact rfl; exact rfl; exact rfl; omega; omega)
      | ((with_reducible apply Go.Sx.Y.lenA 2); exact rfl; exact rfl; exact rfl)
      | ((with_reducible apply Go.Sx.Y.indexA 2); exact rfl; exact rfl; exact rfl; exact rfl; exact rfl; omega; omega)
      | ((with_reducible apply Go.Sx.Y.loadA0 (α := Int) 2); exact rfl; exact rfl; exact rfl; exact rfl; exact rfl; exact rfl; omega; omega)
      | ((with_reducible apply Go.Sx.Y.loadA0 (α := Bool) 2); exact rfl; exact rfl; exact rfl; exact rfl; exact rfl; exact rfl; omega; omega)
      | ((with_reducible apply Go.Sx.Y.loadA0 (α := Value) 2); exact rfl; exact rfl; exact rfl; exact rfl; exact rfl; exact rfl; omega; omega)
      | ((with_reducible apply Go.Sx.Y.loadA (α := Int × Int) 2); exact rfl; exact rfl; exact rfl; exact rfl; exact rfl; exact rfl; omega; omega)
      | ((with_reducible apply Go.Sx.Y.lenA 3); exact rfl; exact rfl; exact rfl)
      | ((with_reducible apply Go.Sx.Y.indexA 3); exact rfl; exact rfl; exact rfl; exact rfl; exact rfl; omega; omega)
      | ((with_reducible apply Go.Sx.Y.loadA0 (α := Int) 3); exact rfl; exact rfl; exact rfl; exact rfl; exact rfl; exact rfl; omega; omega)
      | ((with_reducible apply Go.Sx.Y.loadA0 (α := Bool) 3); exact rfl; exact rfl; exact rfl; exact rfl; exact rfl; exact rfl; omega; omega)
      | ((with_reducible apply Go.Sx.Y.loadA0 (α := Value) 3); exact rfl; exact rfl; exact rfl; exact rfl; exact rfl; exact rfl; omega; omega)
      | ((with_reducible apply Go.Sx.Y.loadA (α := Int × Int) 3); exact rfl; exact rfl; exact rfl; exact rfl; exact rfl; exact rfl; omega; omega)
      | ((with_reducible apply Go.Sx.Y.lenA 4); exact rfl; exact rfl; exact rfl)
      | ((with_reducible apply Go.Sx.Y.indexA 4); exact rfl; exact rfl; exact rfl; exact rfl; exact rfl; omega; omega)
      | ((with_reducible apply Go.Sx.Y.loadA0 (α := Int) 4); exact rfl; exact rfl; exact rfl; exact rfl; exact rfl; exact rfl; omega; omega)
      | ((with_reducible apply Go.Sx.Y.loadA0 (α := Bool) 4); exact rfl; exact rfl; exact rfl; exact rfl; exact rfl; exact rfl; omega; omega)
      | ((with_reducible apply Go.Sx.Y.loadA0 (α := Value) 4); exact rfl; exact rfl; exact rfl; exact rfl; exact rfl; exact rfl; omega; omega)
      | ((with_reducible apply Go.Sx.Y.loadA (α := Int × Int) 4); exact rfl; exact rfl; exact rfl; exact rfl; exact rfl; exact rfl; omega; omega)
      | ((with_reducible apply Go.Sx.Y.lenA 5); exact rfl; exact rfl; exact rfl)
      | ((with_reducible apply Go.Sx.Y.indexA 5); exact rfl; exact rfl; exact rfl; exact rfl; exact rfl; omega; omega)
      | ((with_reducible apply Go.Sx.Y.loadA0 (α := Int) 5); exact rfl; exact rfl; exact rfl; exact rfl; exact rfl; exact rfl; omega; omega)
      | ((with_reducible apply Go.Sx.Y.loadA0 (α := Bool) 5); exact rfl; exact rfl; exact rfl; exact rfl; exact rfl; exact rfl; omega; omega)
      | ((with_reducible apply Go.Sx.Y.loadA0 (α := Value) 5); exact rfl; exact rfl; exact rfl; exact rfl; exact rfl; exact rfl; omega; omega)
      | ((with_reducible apply Go.Sx.Y.loadA (α := Int × Int) 5); exact rfl; exact rfl; exact rfl; exact rfl; exact rfl; exact rfl; omega; omega)
      | ((with_reducible apply Go.Sx.Y.bld2); exact rfl; exact rfl; (first | exact Go.Sx.build_link _ _ | exact Go.Sx.build_graph2 (by first | rfl | assumption) (by first | rfl | assumption)))
      | ((with_reducible apply Go.Sx.Y.bld0); exact Go.Sx.build_graph0)
      | ((with_reducible apply Go.Sx.Y.bld1); exact rfl; exact Go.Sx.build_graph1 (by first | rfl | assumption))
      | ((with_reducible apply Go.Sx.Y.makeFunc1); exact rfl)
      | ((with_reducible apply Go.Sx.Y.loadBL); exact rfl; exact Go.Sx.mem1; exact rfl; exact rfl; exact rfl)
      | ((with_reducible apply Go.Sx.Y.quo); exact rfl; exact rfl; omega; (first | omega | exact Go.Sx.tdiv_lo (by omega) (by omega)); (first | omega | exact Go.Sx.tdiv_hi (by omega) (by omega)))
      | ((with_reducible apply Go.Sx.Y.loadB 4); exact rfl; exact rfl; exact rfl; exact rfl; exact rfl)
      | ((with_reducible apply Go.Sx.Y.loadB 5); exact rfl; exact rfl; exact rfl; exact rfl; exact rfl)
      | ((with_reducible apply Go.Sx.Y.loadBAll 4); exact rfl; exact rfl; exact rfl; exact rfl)
      | ((with_reducible apply Go.Sx.Y.loadBAll 5); exact rfl; exact rfl; exact rfl; exact rfl))
    (hk : Nat.blt i k0 = true := by exact rfl) (hl : loudOp op = false := by exact rfl) (hH : HistOk (before m i) [] [] H := by repeat (first | exact True.intro | refine And.intro (Or.inl rfl) ?_ | refine And.intro (Or.inr (Go.Sx.Holds2.mk (by first | exact Go.Sx.SubM.nil | exact Go.Sx.SubM.refl _ | repeat (first | exact Go.Sx.SubM.nil | refine Go.Sx.SubM.cons 0 rfl ?_ | refine Go.Sx.SubM.cons 1 rfl ?_ | refine Go.Sx.SubM.cons 2 rfl ?_ | refine Go.Sx.SubM.cons 3 rfl ?_ | refine Go.Sx.SubM.cons 4 rfl ?_ | refine Go.Sx.SubM.cons 5 rfl ?_)) (by first | exact Go.Sx.SubL.nil | exact Go.Sx.SubL.refl _ | repeat (first | exact Go.Sx.SubL.nil | refine Go.Sx.SubL.cons Go.Sx.mem1 ?_)))) ?_)) (hd : Nat.blt d n.sz = true := by exact rfl)
    (h : JR c n ((d, v) :: σ) M L H ((i, [], []) :: Bs) (RW P l.toArray Q (before m) (louds l) k0 rest)) : JR c n σ M L H Bs (RW P l.toArray Q (before m) (louds l) k0 (i :: rest)) :=
  JR.quiet [] [] hi hk hl hy ⟨SubM.nil, SubL.nil⟩ hH hd h

/-- a guarded operation whose guard was itself passed over -/
theorem JR.qu {i d dj : Nat} {op : Op} {ty : TypeId} {pos : String} {aft : Array Edge} {j : Nat} {b : Bool}
    (hi : l[i]? = some ⟨some d, op, ty, pos, aft, some (j, b)⟩ := by exact rfl) (hj : (l[j]?).bind (·.dst) = some dj := by exact rfl) (hg : lk σ dj = some undef := by exact rfl) (hd : Nat.blt d n.sz = true := by exact rfl)
    (h : JR c n ((d, undef) :: σ) M L H Bs (RW P l.toArray Q (before m) (louds l) k0 rest)) : JR c n σ M L H Bs (RW P l.toArray Q (before m) (louds l) k0 (i :: rest)) := fun a w X Y s t hX hY => by
  have hi' : l.toArray[i]? = some ⟨some d, op, ty, pos, aft, some (j, b)⟩ := by simpa using hi
  have hy : yielded l.toArray a.tmps j = none := by
    unfold yielded
    have : (l.toArray[j]?).bind (·.dst) = some dj := by simpa using hj
    rw [this, Option.bind_some, s.slot dj _ hg]
    rfl
  simp only [RW, hi']
  rw [if_neg (by simp [Region.wanted, hy])]
  exact h _ w X Y (s.put d undef hd) t hX hY

theorem J.qu {ops : Array Oper} {rest : List Oper} {d dj : Nat} {op : Op} {ty : TypeId} {pos : String} {aft : Array Edge} {j : Nat} {b : Bool}
    (hj : (ops[j]?).bind (·.dst) = some dj := by exact rfl) (hg : lk σ dj = some undef := by exact rfl) (hd : Nat.blt d n.sz = true := by exact rfl) (h : J c n ((d, undef) :: σ) M L (wpList P ops Q rest)) :
    J c n σ M L (wpList P ops Q (⟨some d, op, ty, pos, aft, some (j, b)⟩ :: rest)) := fun a w s t => by
  have hy : yielded ops a.tmps j = none := by
    unfold yielded
    rw [hj, Option.bind_some, s.slot dj _ hg]
    rfl
  unfold wpList
  rw [if_neg (by simp [Region.wanted, hy])]
  exact h _ w (s.put d undef hd) t

/-- the range of a region's operations, written out -/
theorem JR.open {r : List Nat} (e : List.range l.length = r) (h : JR c n σ M L H Bs (RW P l.toArray Q (before m) (louds l) k0 r)) : JR c n σ M L H Bs (RW P l.toArray Q (before m) (louds l) k0 (List.range l.length)) := by rw [e]; exact h

end
end Go.Sx
end
section
set_option linter.unusedVariables false
set_option linter.unusedSimpArgs false
set_option linter.unusedVariables false
set_option linter.unusedSimpArgs false
namespace Go.Sx
open Go.RowKit
theorem apart_symm {ops : Array Oper} {x y : Oper} (h : x.apart ops y = true) : y.apart ops x = true := by
  obtain ⟨h1, h2, h3⟩ := Oper.apart_spec h
  unfold Oper.apart
  rw [Bool.and_eq_true]
  constructor
  · cases hy : y.dst with
    | none => rfl
    | some d =>
      have a := h3 d hy
      have b : x.dst ≠ some d := fun e => h2 d e (by rw [hy])
      simp [a, b]
  · cases hx : x.dst with
    | none => rfl
    | some d => simp [h1 d hx]

def chkA (l : List Oper) (m : List Nat) (k0 : Nat) : Bool :=
  (List.range l.length).all fun i => match l[i]? with
    | none => false
    | some o =>
      (edges o).all (fun e => Nat.blt e i && before m i e) &&
      (List.range l.length).all (fun k => !before m i k || (Nat.blt k i && (edges o).any (fun e => Nat.beq e k || before m e k))) &&
      !isSelect o.op &&
      (if Nat.ble k0 i then (List.range i).all (fun x => before m i x)
       else (List.range i).all (fun x => before m i x || (match l[x]? with | none => false | some ox => ox.apart l.toArray o)))

structure ChkA (l : List Oper) (m : List Nat) (k0 : Nat) : Prop where
  edge : ∀ (i : Nat) (o : Oper), l[i]? = some o → ∀ e ∈ edges o, e < i ∧ before m i e = true
  trans : ∀ (i : Nat) (o : Oper), l[i]? = some o → ∀ k, before m i k = true → k < l.length → k < i ∧ ∃ e ∈ edges o, e = k ∨ before m e k = true
  sel : ∀ (i : Nat) (o : Oper), l[i]? = some o → ∀ cs b, o.op ≠ .select cs b
  tail : ∀ i x, i < l.length → k0 ≤ i → x < i → before m i x = true
  ind : ∀ (i x : Nat) (oi ox : Oper), l[i]? = some oi → l[x]? = some ox → i < k0 → x < i → before m i x = false → ox.apart l.toArray oi = true

theorem chkA_spec {l : List Oper} {m : List Nat} {k0 : Nat} (h : chkA l m k0 = true) : ChkA l m k0 := by
  have key : ∀ (i : Nat) (o : Oper), l[i]? = some o →
      ((edges o).all (fun e => Nat.blt e i && before m i e) = true) ∧
      ((List.range l.length).all (fun k => !before m i k || (Nat.blt k i && (edges o).any (fun e => Nat.beq e k || before m e k))) = true) ∧ isSelect o.op = false ∧
      ((if Nat.ble k0 i then (List.range i).all (fun x => before m i x)
       else (List.range i).all (fun x => before m i x || (match l[x]? with | none => false | some ox => ox.apart l.toArray o))) = true) := by
    intro i o ho
    have := List.all_eq_true.1 h i (List.mem_range.2 (getElem?_lt ho))
    simp only [ho, Bool.and_eq_true, Bool.not_eq_true'] at this
    exact ⟨this.1.1.1, this.1.1.2, this.1.2, this.2⟩
  refine ⟨?_, ?_, ?_, ?_, ?_⟩
  · intro i o ho e he
    have := List.all_eq_true.1 (key i o ho).1 e he
    simp only [Bool.and_eq_true, Nat.blt_eq] at this
    exact this
  · intro i o ho k hk hlt
    have := List.all_eq_true.1 (key i o ho).2.1 k (List.mem_range.2 hlt)
    simp only [hk, Bool.not_true, Bool.false_or, Bool.and_eq_true, Nat.blt_eq, List.any_eq_true, Bool.or_eq_true] at this
    obtain ⟨h1, e, he, h2⟩ := this
    refine ⟨h1, e, he, ?_⟩
    rcases h2 with h2 | h2
    · exact .inl (Nat.eq_of_beq_eq_true h2)
    · exact .inr h2
  · intro i o ho cs b e
    have := (key i o ho).2.2.1
    rw [e] at this
    cases this
  · intro i x hi hk hx
    obtain ⟨o, ho⟩ : ∃ o, l[i]? = some o := ⟨_, List.getElem?_eq_getElem hi⟩
    have := (key i o ho).2.2.2
    rw [if_pos (by simpa using hk)] at this
    exact List.all_eq_true.1 this x (List.mem_range.2 hx)
  · intro i x oi ox hi hx hk hlt hb
    have := (key i oi hi).2.2.2
    rw [if_neg (by simpa using hk)] at this
    have := List.all_eq_true.1 this x (List.mem_range.2 hlt)
    simp only [hb, Bool.false_or, hx] at this
    exact this

/-- s is an order that the edges allow -/
def Lin (l : List Oper) : Array Bool → List Nat → Prop
  | listed, [] => ∀ i, i < l.length → listed.getD i true = true
  | listed, i :: s => i ∈ Region.ready .any l.toArray listed ∧ Lin l (listed.setIfInBounds i true) s

def left (l : List Oper) (listed : Array Bool) : List Nat := (List.range l.length).filter fun i => !listed.getD i true

theorem mem_left {l : List Oper} {listed : Array Bool} {i : Nat} : i ∈ left l listed ↔ i < l.length ∧ listed.getD i true = false := by
  unfold left
  rw [List.mem_filter, List.mem_range]
  constructor
  · rintro ⟨h1, h2⟩
    exact ⟨h1, by simpa using h2⟩
  · rintro ⟨h1, h2⟩
    exact ⟨h1, by rw [h2]; rfl⟩

theorem left_set {l : List Oper} {listed : Array Bool} (hsz : listed.size = l.length) {i : Nat} (hi : i ∈ left l listed) : (left l (listed.setIfInBounds i true)).length < (left l listed).length := by
  have hlt := (mem_left.1 hi).1
  have : left l (listed.setIfInBounds i true) = (left l listed).filter (fun j => !(j == i)) := by
    unfold left
    rw [List.filter_filter]
    apply List.filter_congr
    intro j hj
    by_cases e : i = j
    · subst e; simp [hsz, hlt]
    · rw [getD_set_ne true e]
      have : (j == i) = false := by simpa using fun h => e h.symm
      simp [this]
  rw [this]
  apply List.length_filter_lt_length_iff_exists.2
  exact ⟨i, hi, by simp⟩

theorem lin_go {l : List Oper} {m : List Nat} {k0 : Nat} (hc : ChkA l m k0) : ∀ (fuel t : Nat) (listed : Array Bool), (left l listed).length ≤ fuel → listed.size = l.length → Lin l listed (Region.linearise.go .any l.toArray fuel t listed []) := by
  intro fuel
  induction fuel with
  | zero =>
    intro t listed hlen hsz
    simp only [Region.linearise.go, List.reverse_nil, Lin]
    intro i hi
    cases h : listed.getD i true with
    | true => rfl
    | false =>
      have := mem_left.2 ⟨hi, h⟩
      have hnil : left l listed = [] := List.eq_nil_of_length_eq_zero (by omega)
      rw [hnil] at this; simp at this
  | succ fuel ih =>
    intro t listed hlen hsz
    simp only [Region.linearise.go]
    change Lin l listed (match (Region.ready .any l.toArray listed)[t % (Region.ready .any l.toArray listed).length]? with
      | some i => Region.linearise.go .any l.toArray fuel (t / (Region.ready .any l.toArray listed).length) (listed.setIfInBounds i true) [i]
      | none => [].reverse)
    cases hi : (Region.ready .any l.toArray listed)[t % (Region.ready .any l.toArray listed).length]? with
    | none =>
      have hnil : Region.ready .any l.toArray listed = [] := by
        cases hr : Region.ready .any l.toArray listed with
        | nil => rfl
        | cons x xs =>
          rw [hr] at hi
          have hlt : t % (x :: xs).length < (x :: xs).length := Nat.mod_lt _ (by simp)
          simp at hi
          simp at hlt
          omega
      simp only [List.reverse_nil, Lin]
      intro i
      induction i using Nat.strongRecOn with
      | _ i ihi =>
        intro hlt
        cases h : listed.getD i true with
        | true => rfl
        | false =>
          exfalso
          obtain ⟨o, ho⟩ : ∃ o, l[i]? = some o := ⟨_, List.getElem?_eq_getElem hlt⟩
          have : i ∈ Region.ready .any l.toArray listed := by
            refine mem_ready.2 ⟨h, o, by simpa using ho, fun e he hb => ?_⟩
            have hee : e.on ∈ edges o := List.mem_map.2 ⟨e, List.mem_filter.2 ⟨by simpa using he, hb⟩, rfl⟩
            have hei := (hc.edge i o ho e.on hee).1
            have h1 := ihi e.on hei (by omega)
            have : e.on < listed.size := by omega
            simp [this] at h1 ⊢
            exact h1
          rw [hnil] at this; simp at this
    | some i =>
      simp only []
      rw [linearise_go_acc, List.reverse_singleton, List.singleton_append]
      have hir := List.mem_of_getElem? hi
      refine ⟨hir, ih _ _ ?_ (by simp [hsz])⟩
      obtain ⟨h0, o, ho, _⟩ := mem_ready.1 hir
      have hil : i ∈ left l listed := mem_left.2 ⟨by have := (Array.getElem?_eq_some_iff.1 ho).1; simpa using this, h0⟩
      have := left_set hsz hil
      omega

section
variable {P : Program} {Q : Exit → Act → World → Prop} {l : List Oper} {m : List Nat} {k0 : Nat}
theorem RW.sched (hc : ChkA l m k0) : ∀ (s : List Nat) (L : List Nat) (listed : Array Bool) (a : Act) (w : World) (H : List (Nat × World)) (Bs : List (Nat × (World → Prop))),
    Lin l listed s → listed.size = l.length → L.Nodup → L.Pairwise (fun x i => before m x i = false) → (∀ i, i ∈ L ↔ i < l.length ∧ listed.getD i true = false) →
    (∀ j k, listed.getD j false = true → before m j k = true → k < l.length → listed.getD k false = true) → L.filter (louds l) = s.filter (louds l) →
    RW P l.toArray Q (before m) (louds l) k0 L a w H Bs → wpOps P l.toArray Q s a w := by
  intro s
  induction s with
  | nil =>
    intro L listed a w H Bs hlin hsz hnd hpw hmem hcl hf h
    have hL : L = [] := by
      cases L with
      | nil => rfl
      | cons i L =>
        have := (hmem i).1 List.mem_cons_self
        rw [hlin i this.1] at this
        cases this.2
    subst hL
    exact h
  | cons i s ih =>
    intro L listed a w H Bs hlin hsz hnd hpw hmem hcl hf h
    obtain ⟨hi, hlin'⟩ := hlin
    obtain ⟨h0, o, ho', hedge⟩ := mem_ready.1 hi
    have ho : l[i]? = some o := by simpa using ho'
    have hlt : i < l.length := getElem?_lt ho
    have hiL : i ∈ L := (hmem i).2 ⟨hlt, h0⟩
    obtain ⟨L1, L2, rfl⟩ := List.append_of_mem hiL
    have hnd' := List.nodup_append.1 hnd
    have hi1 : i ∉ L1 := fun hx => (hnd'.2.2 i hx i List.mem_cons_self) rfl
    have hi2 : i ∉ L2 := (List.nodup_cons.1 hnd'.2.1).1
    have hpw' := List.pairwise_append.1 hpw
    have hL1 : ∀ x ∈ L1, before m x i = false := fun x hx => hpw'.2.2 x hx i List.mem_cons_self
    have hanc : ∀ k, before m i k = true → k < l.length → listed.getD k false = true := by
      intro k hk hkl
      obtain ⟨_, e, he, hek⟩ := hc.trans i o ho k hk hkl
      obtain ⟨ed, hed, rfl⟩ := List.mem_map.1 he
      obtain ⟨hed1, hed2⟩ := List.mem_filter.1 hed
      have hl := hedge ed (by simpa using hed1) hed2
      rcases hek with rfl | hek
      · exact hl
      · exact hcl _ _ hl hek hkl
    have hno : ∀ x ∈ L1, before m i x = false := by
      intro x hx
      cases hb : before m i x with
      | false => rfl
      | true =>
        have hxl := ((hmem x).1 (by simp [hx]))
        have := hanc x hb hxl.1
        have hxs : x < listed.size := by omega
        simp [hxs] at this hxl
        rw [this] at hxl
        simp at hxl
    have hloud : louds l i = true → ∀ x ∈ L1, louds l x = false := by
      intro hli x hx
      rw [List.filter_append, List.filter_cons_of_pos hli, List.filter_cons_of_pos hli] at hf
      cases hlx : louds l x with
      | false => rfl
      | true =>
        exfalso
        have hm : x ∈ L1.filter (louds l) := List.mem_filter.2 ⟨hx, hlx⟩
        cases hL : L1.filter (louds l) with
        | nil => rw [hL] at hm; simp at hm
        | cons y ys =>
          rw [hL, List.cons_append] at hf
          have : y = i := (List.cons.inj hf).1
          have hy : y ∈ L1.filter (louds l) := by rw [hL]; exact List.mem_cons_self
          rw [this] at hy
          exact hi1 (List.mem_filter.1 hy).1
    have hf' : (L1 ++ L2).filter (louds l) = s.filter (louds l) := by
      rw [List.filter_append] at hf ⊢
      cases hli : louds l i with
      | false => rw [List.filter_cons_of_neg (by rw [hli]; simp), List.filter_cons_of_neg (by rw [hli]; simp)] at hf; exact hf
      | true =>
        have hn : L1.filter (louds l) = [] := List.filter_eq_nil_iff.2 (fun x hx => by rw [hloud hli x hx]; simp)
        rw [List.filter_cons_of_pos hli, List.filter_cons_of_pos hli, hn] at hf
        rw [hn]
        exact (List.cons.inj hf).2
    have next : ∀ a' w' H' Bs', RW P l.toArray Q (before m) (louds l) k0 (L1 ++ L2) a' w' H' Bs' → wpOps P l.toArray Q s a' w' := by
      intro a' w' H' Bs' hr
      refine ih (L1 ++ L2) _ a' w' H' Bs' hlin' (by simp [hsz]) ?_ ?_ ?_ ?_ hf' hr
      · exact List.nodup_append.2 ⟨hnd'.1, (List.nodup_cons.1 hnd'.2.1).2, fun x hx y hy => hnd'.2.2 x hx y (List.mem_cons_of_mem _ hy)⟩
      · exact List.pairwise_append.2 ⟨hpw'.1, (List.pairwise_cons.1 hpw'.2.1).2, fun x hx y hy => hpw'.2.2 x hx y (List.mem_cons_of_mem _ hy)⟩
      · intro j
        by_cases e : i = j
        · subst e
          constructor
          · intro hj
            rcases List.mem_append.1 hj with hj | hj
            · exact absurd hj hi1
            · exact absurd hj hi2
          · rintro ⟨_, hj⟩
            simp [hsz, hlt] at hj
        · rw [getD_set_ne true e]
          have := hmem j
          simp only [List.mem_append, List.mem_cons] at this ⊢
          constructor
          · intro hj; exact this.1 (by rcases hj with hj | hj; exact .inl hj; exact .inr (.inr hj))
          · intro hj
            rcases this.2 hj with hj | rfl | hj
            · exact .inl hj
            · exact absurd rfl e
            · exact .inr hj
      · intro j k hj hjk hk
        by_cases e : i = j
        · subst e; exact getD_set_true (hanc k hjk hk)
        · rw [getD_set_ne false e] at hj
          exact getD_set_true (hcl j k hj hjk hk)
    have hoa : l.toArray[i]? = some o := ho'
    rw [wpOps_cons]
    have hxlen : ∀ x ∈ L1, x < l.length := fun x hx => ((hmem x).1 (by simp [hx])).1
    by_cases hk : k0 ≤ i
    · have hL1e : L1 = [] := by
        cases L1 with
        | nil => rfl
        | cons x L1 =>
          exfalso
          have h1 := hno x List.mem_cons_self
          have h2 := hL1 x List.mem_cons_self
          have hx := hxlen x List.mem_cons_self
          rcases Nat.lt_trichotomy x i with h' | h' | h'
          · rw [hc.tail i x hlt hk h'] at h1; cases h1
          · exact hi1 (by rw [← h']; exact List.mem_cons_self)
          · rw [hc.tail x i hx (by omega) h'] at h2; cases h2
      subst hL1e
      simp only [List.nil_append, RW, hoa] at h
      unfold wpOp
      simp only [hoa]
      split
      · rename_i hw
        rw [if_pos hw] at h
        rcases h with ⟨_, h | h⟩ | ⟨h, _⟩ | ⟨h, _⟩
        · exact .inl (Oper.wp_mono (fun a' w' hr => next a' w' _ _ hr) h)
        · exact .inr (Oper.rnd_mono (fun a' w' hr => next a' w' _ _ hr) h)
        · omega
        · omega
      · rename_i hw
        rw [if_neg hw] at h
        exact next _ _ _ _ h
    · have hik : i < k0 := by omega
      have hind : ∀ x ∈ L1, Indep l.toArray (before m) (louds l) x i ∧ x < k0 := by
        intro x hx
        have hxl := hxlen x hx
        obtain ⟨ox, hox⟩ : ∃ ox, l[x]? = some ox := ⟨_, List.getElem?_eq_getElem hxl⟩
        have hxk : x < k0 := by
          rcases Nat.lt_or_ge x k0 with h' | h'
          · exact h'
          · have := hL1 x hx
            rw [hc.tail x i hxl h' (by omega)] at this; cases this
        have hap : ox.apart l.toArray o = true := by
          rcases Nat.lt_trichotomy x i with h' | h' | h'
          · exact hc.ind i x o ox ho hox hik h' (hno x hx)
          · exact absurd (by rw [← h']; exact hx) hi1
          · exact apart_symm (hc.ind x i ox o hox ho hxk h' (hL1 x hx))
        refine ⟨⟨hno x hx, hL1 x hx, ?_, ?_⟩, hxk⟩
        · intro ox' oi' h1 h2
          have e1 : ox = ox' := by simpa [hox] using h1
          have e2 : o = oi' := by simpa [ho] using h2
          rw [← e1, ← e2]; exact hap
        · cases hli : louds l i with
          | false => exact .inr rfl
          | true => exact .inl (hloud hli x hx)
      have hsel : ∀ (i : Nat) (o : Oper), l.toArray[i]? = some o → ∀ cs b, o.op ≠ .select cs b := fun i o h => hc.sel i o (by simpa using h)
      unfold wpOp
      simp only [hoa]
      cases hl : louds l i with
      | false =>
        rcases RW.pull_quiet hsel hoa hik hl L1 a w H Bs hind h with ⟨h1, h2⟩ | ⟨h1, v, B, ⟨hb, _, hr⟩, h2⟩
        · rw [h1]; exact next _ _ _ _ h2
        · rw [h1]
          exact .inl (by simp only [Oper.wp, hr w hb, Oper.upon]; exact next _ _ _ _ h2)
      | true =>
        rcases RW.pull_loud hsel hoa hik hl L1 a w H Bs hind h with ⟨h1, h2⟩ | ⟨h1, h2⟩
        · rw [h1]; exact next _ _ _ _ h2
        · rw [h1]
          exact .inl (nwp_Q (nwp_mono (fun a' w' hh => next a' w' _ _ hh.2) h2))

/-! all orders of a list -/
def insAll (x : Nat) : List Nat → List (List Nat)
  | [] => [[x]]
  | y :: ys => (x :: y :: ys) :: (insAll x ys).map (y :: ·)

def allOrders : List Nat → List (List Nat)
  | [] => [[]]
  | x :: xs => (allOrders xs).flatMap (insAll x)

theorem mem_insAll (x : Nat) (b : List Nat) : ∀ a : List Nat, a ++ x :: b ∈ insAll x (a ++ b)
  | [] => by cases b <;> simp [insAll]
  | y :: a => by
    simp only [List.cons_append, insAll, List.mem_cons, List.mem_map]
    exact .inr ⟨_, mem_insAll x b a, rfl⟩

theorem mem_allOrders : ∀ (l s : List Nat), s.Perm l → s ∈ allOrders l
  | [], s, h => by simp [allOrders, h.eq_nil]
  | x :: l, s, h => by
    have hx : x ∈ s := h.symm.subset List.mem_cons_self
    obtain ⟨a, b, rfl⟩ := List.append_of_mem hx
    have h2 : (a ++ b).Perm l := by
      have : (x :: (a ++ b)).Perm (x :: l) := (List.perm_middle.symm).trans h
      exact (List.perm_cons x).1 this
    simp only [allOrders, List.mem_flatMap]
    exact ⟨a ++ b, mem_allOrders l _ h2, mem_insAll x b a⟩

def pw (m : List Nat) : List Nat → Bool
  | [] => true
  | x :: L => L.all (fun i => !before m x i && !Nat.beq x i) && pw m L

theorem pw_spec (m : List Nat) : ∀ L : List Nat, pw m L = true → L.Nodup ∧ L.Pairwise (fun x i => before m x i = false)
  | [], _ => ⟨List.nodup_nil, List.Pairwise.nil⟩
  | x :: L, h => by
    simp only [pw, Bool.and_eq_true] at h
    obtain ⟨h1, h2⟩ := pw_spec m L h.2
    have h3 := List.all_eq_true.1 h.1
    refine ⟨List.nodup_cons.2 ⟨fun hx => ?_, h1⟩, List.pairwise_cons.2 ⟨fun i hi => ?_, h2⟩⟩
    · have := h3 x hx; simp at this
    · have := h3 i hi; simp only [Bool.and_eq_true, Bool.not_eq_true'] at this; exact this.1

/-- the orders LL have one for each order of the loud operations that the edges allow -/
def cover (l : List Oper) (m : List Nat) (LL : List (List Nat)) : Bool :=
  (LL.all fun L => pw m L && L.all (fun i => Nat.blt i l.length) && (List.range l.length).all (fun i => L.contains i)) &&
  ((allOrders ((List.range l.length).filter (louds l))).all fun s => !pw m s || LL.any fun L => L.filter (louds l) == s)

theorem Lin.nodup {hc : ChkA l m k0} : ∀ (s : List Nat) (listed : Array Bool), listed.size = l.length → Lin l listed s →
    (∀ j k, listed.getD j false = true → before m j k = true → k < l.length → listed.getD k false = true) →
    s.Nodup ∧ (∀ i, i ∈ s ↔ i < l.length ∧ listed.getD i true = false) ∧ s.Pairwise (fun x i => before m x i = false)
  | [], listed, _, h, _ => ⟨List.nodup_nil, fun i => ⟨fun hi => by simp at hi, fun ⟨h1, h2⟩ => by rw [h i h1] at h2; cases h2⟩, List.Pairwise.nil⟩
  | i :: s, listed, hsz, h, hcl => by
    obtain ⟨hr, hl⟩ := h
    obtain ⟨h0, o, ho', hedge⟩ := mem_ready.1 hr
    have ho : l[i]? = some o := by simpa using ho'
    have hlt := getElem?_lt ho
    have hanc : ∀ k, before m i k = true → k < l.length → listed.getD k false = true := by
      intro k hk hkl
      obtain ⟨_, e, he, hek⟩ := hc.trans i o ho k hk hkl
      obtain ⟨ed, hed, rfl⟩ := List.mem_map.1 he
      obtain ⟨hed1, hed2⟩ := List.mem_filter.1 hed
      have hl := hedge ed (by simpa using hed1) hed2
      rcases hek with rfl | hek
      · exact hl
      · exact hcl _ _ hl hek hkl
    obtain ⟨h1, h2, h3⟩ := Lin.nodup (hc := hc) s (listed.setIfInBounds i true) (by simp [hsz]) hl (fun j k hj hjk hk => by
      by_cases e : i = j
      · subst e; exact getD_set_true (hanc k hjk hk)
      · rw [getD_set_ne false e] at hj
        exact getD_set_true (hcl j k hj hjk hk))
    have hni : i ∉ s := fun hi => by
      have := ((h2 i).1 hi).2
      simp [hsz, hlt] at this
    refine ⟨List.nodup_cons.2 ⟨hni, h1⟩, fun j => ?_, List.pairwise_cons.2 ⟨fun x hx => ?_, h3⟩⟩
    · by_cases e : i = j
      · subst e; simp [hlt, h0]
      · rw [List.mem_cons, h2 j, getD_set_ne true e]
        constructor
        · rintro (h | h)
          · exact absurd h.symm e
          · exact h
        · exact fun h => .inr h
    · cases hb : before m i x with
      | false => rfl
      | true =>
        have hxs := (h2 x).1 hx
        have hxi : i ≠ x := fun e => hni (e ▸ hx)
        rw [getD_set_ne true hxi] at hxs
        have := hanc x hb hxs.1
        have hlt' : x < listed.size := by omega
        simp [hlt'] at this hxs
        rw [this] at hxs
        simp at hxs

theorem wp_region_orders {rd : Option Nat} {id : Nat} {a : Act} {w : World} (LL : List (List Nat)) (hd : l.all noDefer = true) (hm : P.follows .mixedOrders = true) (hc : chkA l m k0 = true) (hv : cover l m LL = true)
    (h : ∀ L ∈ LL, RW P l.toArray Q (before m) (louds l) k0 L a w.drew [] []) : (Code.region id l.toArray true).wpr rd P Q a w := by
  refine wpr_region_draw hd fun t => ?_
  have hcc := chkA_spec hc
  simp only [Region.schedule, hm, Bool.true_or, if_true, Region.linearise]
  have h0 : ∀ i, i < l.length → (Array.replicate l.toArray.size false).getD i true = false := fun i hi => by simp [hi]
  have hcl : ∀ j k, (Array.replicate l.toArray.size false).getD j false = true → before m j k = true → k < l.length → (Array.replicate l.toArray.size false).getD k false = true := by
    intro j k hj
    simp [Array.getElem?_replicate] at hj
    split at hj <;> simp at hj
  have hlin := lin_go hcc l.toArray.size t (Array.replicate l.toArray.size false) (by unfold left; exact Nat.le_trans (List.length_filter_le _ _) (by simp)) (by simp)
  generalize Region.linearise.go .any l.toArray l.toArray.size t (Array.replicate l.toArray.size false) [] = s at hlin
  obtain ⟨hn, hmem, hp⟩ := Lin.nodup (hc := hcc) s _ (by simp) hlin hcl
  simp only [cover, Bool.and_eq_true] at hv
  have hperm : s.Perm (List.range l.length) := by
    refine (List.perm_ext_iff_of_nodup hn List.nodup_range).2 fun i => ?_
    rw [hmem i, List.mem_range]
    exact ⟨fun h => h.1, fun h => ⟨h, h0 i h⟩⟩
  have hso := mem_allOrders _ _ (hperm.filter (louds l))
  have h2 := List.all_eq_true.1 hv.2 _ hso
  have hpws : pw m (s.filter (louds l)) = true := by
    have hn' : (s.filter (louds l)).Nodup := List.Pairwise.filter _ hn
    have hp' : (s.filter (louds l)).Pairwise (fun x i => before m x i = false) := List.Pairwise.filter _ hp
    generalize s.filter (louds l) = q at hn' hp'
    induction q with
    | nil => rfl
    | cons x q ihq =>
      have a1 := List.nodup_cons.1 hn'
      have a2 := List.pairwise_cons.1 hp'
      simp only [pw, Bool.and_eq_true, List.all_eq_true, Bool.not_eq_true']
      refine ⟨fun i hi => ⟨a2.1 i hi, beq_ne (fun e => a1.1 (e ▸ hi))⟩, ihq a1.2 a2.2⟩
  rw [hpws] at h2
  simp only [Bool.not_true, Bool.false_or, List.any_eq_true] at h2
  obtain ⟨L, hL, he⟩ := h2
  have hLv := List.all_eq_true.1 hv.1 L hL
  simp only [Bool.and_eq_true, List.all_eq_true, Nat.blt_eq, List.mem_range, List.contains_iff_mem] at hLv
  obtain ⟨hLn, hLp⟩ := pw_spec m L hLv.1.1
  exact RW.sched hcc s L _ a _ [] [] hlin (by simp) hLn hLp (fun i => ⟨fun hi => ⟨hLv.1.2 i hi, h0 i (hLv.1.2 i hi)⟩, fun hi => hLv.2 i hi.1⟩) hcl (by simpa using he) (h L hL)

theorem JR.orders {rd : Option Nat} {c : Ctx} {n : Sz} {σ : Fr} {M L : List Fact} {id : Nat} (m : List Nat) (k0 : Nat) (LL : List (List Nat)) (hm : P.follows .mixedOrders = true) (hc : chkA l m k0 = true) (hv : cover l m LL = true)
    (h : ∀ o ∈ LL, JR c n σ M L [] [] (RW P l.toArray Q (before m) (louds l) k0 o)) (hd : l.all noDefer = true := by rfl) : J c n σ M L ((Code.region id l.toArray true).wpr rd P Q) := fun a w s t =>
  wp_region_orders LL hd hm hc hv fun o ho => h o ho a w.drew [] [] s (t.ext ((Below.refl _ _).drew)) trivial trivial
end
end Go.Sx
end
section
set_option linter.unusedVariables false
set_option linter.unusedSimpArgs false
set_option linter.unusedVariables false
set_option linter.unusedSimpArgs false
namespace Go.Sx
open Go.RowKit Go.ChangeShapes Go.WideShapes Go.ChangeAt Go.Proofs Go.Joins
theorem own0 : ownKnob Try.prog.godebug = none := by kernel_rfl
theorem laid0 : laidOutB Try.prog = true := by kernel_rfl

section
variable {H : Type} {enc : TypeId × Value → H} {P : Program}
theorem trodAll_below (hl : laidOutB P = true) {W W' : World} (hb : Ext W W') : ∀ (ts : List TypeId) (vs : List Value) (ds : List (DataW H)) (p : List MemPlace), (ts.all fun t => P.readableRec t && decide (t < P.types.size)) = true →
    DataW.TrodAll enc P W 0 (fun _ => true) true ts vs ds p → (∀ x ∈ p, x.block < W.heap.size) → DataW.TrodAll enc P W' 0 (fun b => decide (b < W.heap.size)) true ts vs ds p
  | [], [], [], _, _, h, _ => h
  | t :: ts, v :: vs, d :: ds, ps, hr, h, hlt => by
    obtain ⟨p, q, h1, h2, rfl⟩ := h
    simp only [List.all_cons, Bool.and_eq_true, decide_eq_true_eq] at hr
    exact ⟨p, q, Below.trod hl hr.1.1 hr.1.2 h1 hb (fun x hx => hlt x (List.mem_append_left _ hx)), trodAll_below hl hb ts vs ds q (by simpa using hr.2) h2 (fun x hx => hlt x (List.mem_append_right _ hx)), rfl⟩
  | [], [], _ :: _, _, _, h, _ => h.elim
  | [], _ :: _, _, _, _, h, _ => h.elim
  | _ :: _, [], _, _, _, h, _ => h.elim
  | _ :: _, _ :: _, [], _, _, h, _ => h.elim

/-- a law: it returns true, and its arguments read as they did -/
theorem law_lifted {os : Os} (started : os.Started) {f : FuncId} {fn : Func} {s : ChangeSpec} {r : Bool} (hfn : Try.prog.funcs[f]? = some fn) (noInit : Try.prog.inits.idxOf? f = none)
    (hread : (fn.params.toList.all fun t => Try.prog.readableRec t && decide (t < Try.prog.types.size)) = true) (hres : fn.resultTypes = #[4]) (hvars : s.vars = [])
    (hspec : ∀ ds : List (DataW H), ds.length = fn.params.toList.length → s.fn H ds = { results := [.lit (.bool true)], args := ds })
    (witness : ∃ (w : World) (tape : Tape) (i : Input), w.os = os ∧ (w.forCall tape i).Shaped Try.prog ∧ i.vars = [] ∧ Input.okWide Try.prog (w.forCall tape i) .any w.heap.size f i ∧
      s.pre6 enc Try.prog fn [] false (w.forCall tape i).memory i.args ∧ ({} : Assume).holds Try.prog (lone (Frame.enter Try.prog f i.args .normal) [] (w.forCall tape i)))
    (main : ∀ (W : World) (base : Nat) (args : Array Value) (ds : List (DataW H)) (p : List MemPlace), (∀ (j : Nat) t v, fn.params[j]? = some t → args[j]? = some v → Value.okWide Try.prog W .any base t v) →
      DataW.TrodAll enc Try.prog W 0 (fun _ => true) true fn.params.toList args.toList ds p → Calls Try.prog f args W fun e W' => e = .returned (.bool true) ∧ Ext W W') :
    ReturnsInHanded {} Go.Proofs.Ytmajgimhmfeliaa.Try.pinned.checked os f .any (s.pre6 enc Try.prog fn [] false) (s.post enc Try.prog fn false r false false) := by
  refine returnsInHanded_of_change (C := Go.Proofs.Ytmajgimhmfeliaa.Try.pinned.checked) own0 started noInit hfn witness ?_
  intro W base args ds gs before hval hW _ _
  have hlt := hW.lt
  have hW' := hW
  obtain ⟨p, q, hA, hV, rfl, _, _⟩ := hW
  rw [hvars] at hV
  obtain ⟨rfl, rfl⟩ := trodVars_none hV
  refine (main W base args ds p hval hA).mono ?_
  rintro e W' ⟨rfl, hb⟩
  refine ⟨_, rfl, ?_⟩
  have hlen : ds.length = fn.params.toList.length := by
    have : ∀ (ts : List TypeId) (vs : List Value) (ds : List (DataW H)) (p : List MemPlace), DataW.TrodAll enc Try.prog W 0 (fun _ => true) true ts vs ds p → ds.length = ts.length := by
      intro ts
      induction ts with
      | nil => intro vs ds p h; cases vs <;> cases ds <;> first | rfl | exact h.elim
      | cons t ts ih =>
        intro vs ds p h
        cases vs with
        | nil => exact h.elim
        | cons v vs =>
          cases ds with
          | nil => exact h.elim
          | cons d ds => obtain ⟨_, _, _, h2, _⟩ := h; simp [ih vs ds _ h2]
    exact this _ _ _ _ hA
  have hs : s.fn H (ds ++ []) = { results := [.lit (.bool true)], args := ds } := by rw [List.append_nil]; exact hspec ds hlen
  refine ⟨ds, [], p ++ [], [], p, [], hW', ?_, ?_, ?_, hb.frame _, fun h => by cases h⟩
  · rw [hs, hres]
    exact trodAll_mk1 (shut_bool Try.underlying4 true)
  · rw [hs]
    exact trodAll_below laid0 hb _ _ _ _ hread hA (fun x hx => hlt x (List.mem_append_left _ hx))
  · rw [hs, hvars]; exact rfl

/-- out of a contract -/
theorem calls_of_meets {f : FuncId} {args : Array Value} {L : List Fact} {W : World} (h : Meets Try.prog f args L (fun _ : Unit => .bool true) (fun _ l => l) (fun _ l => l)) (hL : ∀ g ∈ L, g.p W (fun _ => True)) :
    Calls Try.prog f args W fun e W' => e = .returned (.bool true) ∧ Ext W W' :=
  (h W (fun _ => True) hL).mono fun _ _ ⟨_, he, ht⟩ => ⟨he, ht.old.ext⟩

/-! ## The arguments -/
variable {w : World} {base : Nat} {spare : Nat → Bool} {held : Bool}
theorem cells_get {A : Addr} {k : Nat} {cs : List Value} (h : w.cells? base A k = some cs) : cs.length = k ∧ ∀ (j : Nat) (u : Value), cs[j]? = some u → w.cell? (A.add j) = some u := by
  obtain ⟨_, h1, h2⟩ := World.cells?_some h
  refine ⟨h1, fun j u hu => ?_⟩
  have hj := getElem?_lt hu
  rw [h2 j (by omega)]; exact hu

theorem sl_of_trod {α : Type} (r : Rep α) {t e : TypeId} (ht : P.underlying t = some (.slice e)) (hc : P.cellsOf e = r.sz)
    (hel : ∀ (n : Nat) (cs : List Value) (x : DataW H × List MemPlace), DataW.trod enc P w base spare held n e cs = some x → ∃ y : α, r.R w (fun _ => True) cs y)
    {fuel : Nat} {v : Value} {x : DataW H × List MemPlace} (h : DataW.trod enc P w base spare held fuel t [v] = some x) : ∃ xs : List α, SlR r w (fun _ => True) v xs := by
  rcases Deep.open_slice ht h with ⟨hv, _⟩ | ⟨a, len, cap, m, n, D, Pl, hv, hb, hl, hm, hmm, _, hx⟩
  · cases hv
    exact ⟨[], none, 0, rfl, by simp, .inl rfl⟩
  · cases hv
    have hle : len ≤ m := by rw [hmm]; split <;> omega
    by_cases h0 : len = 0
    · subst h0
      exact ⟨[], some a, cap, rfl, by simp, .inl rfl⟩
    · -- the elements, chosen one by one
      have key : ∀ k, k ≤ len → ∃ xs : List α, xs.length = k ∧ ∀ i y, xs[i]? = some y → ∃ es, (∀ (j : Nat) (u : Value), es[j]? = some u → w.cell? ((a.add (i * P.cellsOf e)).add j) = some u) ∧ r.R w (fun _ => True) es y := by
        intro k
        induction k with
        | zero => exact fun _ => ⟨[], rfl, fun i y hy => by simp at hy⟩
        | succ k ih =>
          intro hk
          obtain ⟨xs, h1, h2⟩ := ih (by omega)
          obtain ⟨cs', hcs, htr⟩ := hx k (by omega)
          obtain ⟨y, hy⟩ := hel n cs' _ htr
          refine ⟨xs ++ [y], by simp [h1], fun i y' hi => ?_⟩
          by_cases e' : i < xs.length
          · rw [List.getElem?_append_left e'] at hi; exact h2 i y' hi
          · have hik : i = k := by
              have := getElem?_lt hi
              simp at this; omega
            subst hik
            rw [List.getElem?_append_right (by omega), h1, Nat.sub_self] at hi
            simp at hi; subst hi
            exact ⟨cs', (cells_get hcs).2, hy⟩
      obtain ⟨xs, h1, h2⟩ := key len (Nat.le_refl _)
      have hspot : a.spot = none := by
        obtain ⟨es, he, hr⟩ := h2 0 (xs[0]'(by omega)) (List.getElem?_eq_getElem _)
        have hlen := r.len hr
        have hpos := r.pos
        have := he 0 (es[0]'(by omega)) (List.getElem?_eq_getElem _)
        rw [Nat.zero_mul] at this
        have e0 : (a.add 0).add 0 = a := rfl
        rw [e0] at this
        unfold World.cell? at this
        split at this
        · split at this
          · cases this
          · rename_i h'; simpa using h'
        · cases this
      obtain ⟨b, off, sp⟩ := a
      simp only at hspot
      subst hspot
      refine ⟨xs, some ⟨b, off, none⟩, cap, by rw [h1], ?_, .inr ⟨b, off, rfl, trivial, fun i y hy => ?_⟩⟩
      · have : maxLen = 9223372036854775807 := rfl
        exact ⟨by omega, by omega⟩
      · obtain ⟨es, he, hr⟩ := h2 i y hy
        refine ⟨es, fun j u hu => ?_, hr⟩
        have := he j u hu
        rw [add_none, add_none, hc] at this
        rwa [Nat.add_assoc] at this

theorem el_int {k : IntKind} {e : TypeId} (he : P.underlying e = some (.int k)) (n : Nat) (cs : List Value) (x : DataW H × List MemPlace) (h : DataW.trod enc P w base spare held n e cs = some x) : ∃ y : Int, (Rep.int k).R w (fun _ => True) cs y := by
  obtain ⟨y, hy, _, _⟩ := DataW.trod_int he h
  exact ⟨y, hy⟩

end
end Go.Sx
end
section
set_option linter.unusedVariables false
set_option linter.unusedSimpArgs false
set_option linter.unusedVariables false
set_option linter.unusedSimpArgs false
namespace Go.Sx
open Go.RowKit
/-! ## Models -/
def ck {β : Type} (p : Prop) [Decidable p] (x : Option β) : Option β := if p then x else none
theorem ck_some {β : Type} {p : Prop} [Decidable p] {x : Option β} {r : β} (h : ck p x = some r) : p ∧ x = some r := by
  unfold ck at h
  by_cases hp : p
  · rw [if_pos hp] at h; exact ⟨hp, h⟩
  · rw [if_neg hp] at h; cases h
theorem ifP {β : Type} {p : Prop} [Decidable p] {x y : Option β} {r : β} (hp : p) (h : (if p then x else y) = some r) : x = some r := by rwa [if_pos hp] at h
theorem ifN {β : Type} {p : Prop} [Decidable p] {x y : Option β} {r : β} (hp : ¬ p) (h : (if p then x else y) = some r) : y = some r := by rwa [if_neg hp] at h
theorem ifBN {β : Type} {b : Bool} {x y : Option β} {r : β} (hp : b = false) (h : (if b = true then x else y) = some r) : y = some r := by
  rwa [if_neg (by simp [hp])] at h
theorem bnd {β γ : Type} {x : Option β} {f : β → Option γ} {r : γ} (h : x.bind f = some r) : ∃ y, x = some y ∧ f y = some r := Option.bind_eq_some_iff.1 h

def iter {X R : Type} (step : X → (X → Option R) → Option R) : Nat → X → Option R
  | 0, _ => none
  | k + 1, x => step x (iter step k)

/-! ## What is lent -/
def Lent (M L : List Fact) (g : Fact) : Prop := ∀ (w : World) (S : Nat → Prop) (T : Nat → Nat → Prop) (U : Nat → Prop), (∀ f ∈ L, f.p w S) → (∀ (i : Nat) (m : Fact), M[i]? = some m → m.p w (T i)) → (∀ k, S k → U k) → (∀ i k, T i k → U k) → g.p w U

section
variable {M L : List Fact} {α β : Type} {e : Enc α} {r : Rep α} {v : Value}
theorem Fact.wide {f : Fact} {w : World} {S U : Nat → Prop} (h : f.p w S) (hS : ∀ k, S k → U k) : f.p w U := f.mono h fun k hk _ => ⟨hS k hk, rfl⟩

theorem Lent.fact {g : Fact} (j : Nat) (h : L[j]? = some g) : Lent M L g := fun _ _ _ _ hL _ hS _ => Fact.wide (hL g (List.mem_of_getElem? h)) hS
theorem Lent.res {m : Fact} (i : Nat) (h : M[i]? = some m) : Lent M L m := fun _ _ _ _ _ hM _ hT => Fact.wide (hM i m h) (hT i)
theorem Lent.mono {f g : Fact} (h : Lent M L f) (hfg : ∀ {w U}, f.p w U → g.p w U) : Lent M L g := fun w S T U hL hM hS hT => hfg (h w S T U hL hM hS hT)
theorem Lent.ar {xs : List α} (h : Lent M L (Ar e v xs)) (hfit : e.Fits r) : Lent M L (Sl r v xs) := h.mono fun h => ArR.sl hfit h
theorem Lent.nil : Lent M L (Sl r (.slice none 0 0) []) := fun _ _ _ _ _ _ _ _ => ⟨none, 0, rfl, by simp, .inl rfl⟩

/-- a slice of data that hold slices: zs has the raw values beside the data xs -/
def Sn {β : Type} (r : Rep α) (er : α → β) (v : Value) (zs : List α) (xs : List β) : Fact where
  p w S := SlR r w S v zs ∧ zs.map er = xs
  mono := fun h e => ⟨h.1.mono e, h.2⟩

abbrev S2 (r : Rep α) (v : Value) (zs : List (Value × List α)) (xss : List (List α)) : Fact := Sn (Rep.sl r) (fun z => z.2) v zs xss

theorem Lent.sl {er : α → β} {zs : List α} {xs : List β} (h : Lent M L (Sn r er v zs xs)) : Lent M L (Sl r v zs) := h.mono fun h => h.1

theorem at'_map [Inhabited α] [Inhabited β] (f : α → β) {zs : List α} {i : Int} (h0 : 0 ≤ i) (h1 : i < zs.length) : at' (zs.map f) i = f (at' zs i) := by
  have h := at'_some h0 h1
  have h' := at'_some (xs := zs.map f) h0 (by simpa using h1)
  rw [List.getElem?_map, h] at h'
  simpa using h'.symm

theorem Lent.el {zs : List (Value × List α)} {xss : List (List α)} {i : Int} (h : Lent M L (S2 r v zs xss)) (h0 : 0 ≤ i) (h1 : i < xss.length) : Lent M L (Sl r (at' zs i).1 (at' xss i)) := h.mono fun {w U} h => by
  obtain ⟨h, he⟩ := h
  have hl : i < zs.length := by rw [← he] at h1; simpa using h1
  obtain ⟨es, hr, _⟩ := sl_cell h (at'_some h0 hl)
  rw [← he, at'_map _ h0 hl]
  exact hr.2

theorem Lent.rows {i j : Nat} {vs : List Value} {xss : List (List α)} (hi : M[i]? = some (Ar Enc.raw v vs)) (hj : M[j]? = some (Rws e vs xss)) (hfit : e.Fits r) : Lent M L (S2 r v (vs.zip xss) xss) := fun w S T U hL hM hS hT => by
  have hA := hM i _ hi
  have hR := hM j _ hj
  refine ⟨(rows_sl hfit hA hR).mono fun k hk _ => ⟨?_, rfl⟩, ?_⟩
  · rcases hk with h | h
    · exact hT i k h
    · exact hT j k h
  · rw [List.map_snd_zip]
    obtain ⟨hl, _⟩ := hR; omega

theorem Lent.row {j : Nat} {vs : List Value} {xss : List (List α)} {k : Int} (hj : M[j]? = some (Rws e vs xss)) (hfit : e.Fits r) (h0 : 0 ≤ k) (h1 : k < xss.length) : Lent M L (Sl r (at' vs k) (at' xss k)) := fun w S T U hL hM hS hT => by
  have hR := hM j _ hj
  have hl := hR.1
  obtain ⟨_, G, g1, g2, _⟩ := hR
  exact (ArR.sl hfit (g1 k.toNat _ _ (at'_some h0 (by omega)) (at'_some h0 h1))).mono fun q hq _ => ⟨hT j q (g2 _ q hq), rfl⟩

theorem Lent.st {c : Ctx} {w : World} {g : Fact} (h : Lent M L g) (t : St c M L w) : ∃ S, g.p w S := by
  obtain ⟨_, F, hF, hL⟩ := t
  exact ⟨fun _ => True, h w (Free c F) F (fun _ => True) hL hF.res (fun _ _ => trivial) (fun _ _ _ => trivial)⟩
end
/-! ## Reading -/
section
variable {P : Program} {rd : Option Nat} {c : Ctx} {n : Sz} {σ : Fr} {M L : List Fact} {Q : Exit → Act → World → Prop} {ops : Array Oper} {rest : List Oper}
variable {d : Option Tmp} {D : Nat} {ty : TypeId} {pos : String} {aft : Array Edge} {g : Option (Nat × Bool)}
variable {α β : Type} {e : Enc α} {r : Rep α}
theorem Y.lenS [Tab P] {T E : TypeId} {s1 s2 : Nat} {z : Value} {x : Operand} {v : Value} {xs : List α} (hx : ev σ x = some v) (hf : Lent M L (Sl r v xs))
    (hT : Tab.tab P T = some ⟨.slice E, s1, s2, z⟩) : Y P c n σ M L ⟨d, .call ⟨.builtin .len, #[x], #[T]⟩, ty, pos, aft, g⟩ (.int .i64 xs.length) := fun a w s t => by
  obtain ⟨S, a', cap, hv, _, _⟩ := hf.st t
  subst hv
  simp [execOp, resolve, invoke, builtin, s.eval hx, run_len w (Tab.ok hT) rfl]

theorem Y.lenN [Tab P] {T E : TypeId} {s1 s2 : Nat} {z : Value} {x : Operand} {v : Value} {er : α → β} {zs : List α} {xs : List β} (hx : ev σ x = some v) (hf : Lent M L (Sn r er v zs xs))
    (hT : Tab.tab P T = some ⟨.slice E, s1, s2, z⟩) : Y P c n σ M L ⟨d, .call ⟨.builtin .len, #[x], #[T]⟩, ty, pos, aft, g⟩ (.int .i64 xs.length) := fun a w s t => by
  obtain ⟨_, _, h⟩ := hf.st t
  rw [← h, List.length_map]
  exact Y.lenS hx hf.sl hT a w s t

theorem Y.indexS [Tab P] {T E : TypeId} {s1 s2 s3 s4 : Nat} {z z' : Value} {dE : TypeDesc} {x y : Operand} {v : Value} {i : Int} {xs : List α} (hx : ev σ x = some v) (hy : ev σ y = some (.int .i64 i)) (hf : Lent M L (Sl r v xs))
    (hT : Tab.tab P T = some ⟨.slice E, s1, s2, z⟩) (hE : Tab.tab P E = some ⟨dE, s3, s4, z'⟩) (h : 0 ≤ i ∧ i < xs.length) :
    Y P c n σ M L ⟨d, .indexAddr T x y, ty, pos, aft, g⟩ (elq v (i.toNat * s3)) := fun a w s t => by
  obtain ⟨h0, h1⟩ := h
  obtain ⟨S, a', cap, hv, _, h⟩ := hf.st t
  rcases h with h | ⟨b, off, rfl, _, _⟩
  · subst h; simp at h1; omega
  · subst hv
    simp [execOp, s.eval hx, s.eval hy, run_index w (Tab.ok hT) rfl (Tab.ok hE) b off _ cap i h0 h1]

theorem Sn.len {w : World} {S : Nat → Prop} {v : Value} {er : α → β} {zs : List α} {xs : List β} (h : (Sn r er v zs xs).p w S) : zs.length = xs.length := by rw [← h.2]; simp

theorem Y.indexN [Tab P] {T E : TypeId} {s1 s2 s3 s4 : Nat} {z z' : Value} {dE : TypeDesc} {x y : Operand} {v : Value} {i : Int} {er : α → β} {zs : List α} {xs : List β} (hx : ev σ x = some v) (hy : ev σ y = some (.int .i64 i)) (hf : Lent M L (Sn r er v zs xs))
    (hT : Tab.tab P T = some ⟨.slice E, s1, s2, z⟩) (hE : Tab.tab P E = some ⟨dE, s3, s4, z'⟩) (h : 0 ≤ i ∧ i < xs.length) :
    Y P c n σ M L ⟨d, .indexAddr T x y, ty, pos, aft, g⟩ (elq v (i.toNat * s3)) := fun a w s t => by
  obtain ⟨_, h'⟩ := hf.st t
  exact Y.indexS hx hy hf.sl hT hE (by rw [Sn.len h']; exact h) a w s t

/-- a cell of an element (the whole element, if it is one cell) -/
theorem Y.loadS [Tab P] [Inhabited α] {T : TypeId} {s1 s2 q o : Nat} {z : Value} {dT : TypeDesc} {x : Operand} {v : Value} {i : Int} {xs : List α} {f : α → Value} (hx : ev σ x = some (elq v (i.toNat * q + o))) (hf : Lent M L (Sl r v xs))
    (hT : Tab.tab P T = some ⟨dT, s1, s2, z⟩) (hd : aggD dT = false) (hs : r.sz = q) (hc : r.Cell o f) (h : 0 ≤ i ∧ i < xs.length) :
    Y P c n σ M L ⟨d, .load T x, ty, pos, aft, g⟩ (f (at' xs i)) := fun a w s t => by
  obtain ⟨h0, h1⟩ := h
  obtain ⟨S, h⟩ := hf.st t
  obtain ⟨es, hr, hes⟩ := sl_cell h (at'_some h0 h1)
  have := hes o _ (hc hr)
  rw [hs] at this
  simp [execOp, s.eval hx, elq, run_load1 (Tab.ok hT) hd this]

theorem Y.loadS0 [Tab P] [Inhabited α] {T : TypeId} {s1 s2 q : Nat} {z : Value} {dT : TypeDesc} {x : Operand} {v : Value} {i : Int} {xs : List α} {f : α → Value} (hx : ev σ x = some (elq v (i.toNat * q))) (hf : Lent M L (Sl r v xs))
    (hT : Tab.tab P T = some ⟨dT, s1, s2, z⟩) (hd : aggD dT = false) (hs : r.sz = q) (hc : r.Cell 0 f) (h : 0 ≤ i ∧ i < xs.length) :
    Y P c n σ M L ⟨d, .load T x, ty, pos, aft, g⟩ (f (at' xs i)) := Y.loadS (o := 0) hx hf hT hd hs hc h

/-- the slice that is an element -/
theorem Y.loadRow [Tab P] {T : TypeId} {s1 s2 : Nat} {z : Value} {dT : TypeDesc} {x : Operand} {v : Value} {i : Int} {zs : List (Value × List α)} {xss : List (List α)} (hx : ev σ x = some (elq v (i.toNat * 1))) (hf : Lent M L (S2 r v zs xss))
    (hT : Tab.tab P T = some ⟨dT, s1, s2, z⟩) (hd : aggD dT = false) (h : 0 ≤ i ∧ i < xss.length) :
    Y P c n σ M L ⟨d, .load T x, ty, pos, aft, g⟩ (at' zs i).1 := fun a w s t => by
  obtain ⟨_, h'⟩ := hf.st t
  exact Y.loadS0 (r := Rep.sl r) (f := fun z => z.1) hx hf.sl hT hd rfl (Rep.sl_cell r) (by rw [Sn.len h']; exact h) a w s t

/-- the raw slice that is an element of a slice of the call's own -/
theorem Y.loadRaw [Tab P] (j : Nat) {T : TypeId} {s2 : Nat} {z : Value} {dT : TypeDesc} {x : Operand} {v : Value} {i : Int} {vs : List Value} {m : Nat} (hx : ev σ x = some (elq v (i.toNat * 1))) (hf : M[j]? = some (Ar Enc.raw v vs)) (hm : vs.length = m)
    (hT : Tab.tab P T = some ⟨dT, 1, s2, z⟩) (hd : aggD dT = false) (h : 0 ≤ i ∧ i < m) :
    Y P c n σ M L ⟨d, .load T x, ty, pos, aft, g⟩ (at' vs i) := Y.loadA0 j hx hf hT hd rfl rfl h.1 (by omega)

/-- the whole element -/
theorem Y.loadAggS [Tab P] [Inhabited α] {T : TypeId} {s2 q : Nat} {z : Value} {dT : TypeDesc} {x : Operand} {v : Value} {i : Int} {xs : List α} {cs : List Value} (hx : ev σ x = some (elq v (i.toNat * q))) (hf : Lent M L (Sl r v xs)) (hfit : e.Fits r) (hcs : e.enc (at' xs i) = cs)
    (hT : Tab.tab P T = some ⟨dT, cs.length, s2, z⟩) (hd : aggD dT = true) (hq : e.sz = q) (h : 0 ≤ i ∧ i < xs.length) : Y P c n σ M L ⟨d, .load T x, ty, pos, aft, g⟩ (.agg cs.toArray) := fun a w s t => by
  obtain ⟨h0, h1⟩ := h
  obtain ⟨S, h⟩ := hf.st t
  obtain ⟨es, hr, hes⟩ := sl_cell h (at'_some h0 h1)
  obtain ⟨hsz, he, _, _⟩ := hfit
  have := he hr
  subst this hcs
  rw [hsz, hq] at hes
  have := run_loadAll (w := w) (A := elA v (i.toNat * q)) (cs := e.enc (at' xs i)) (Tab.ok hT) hd rfl (fun j u hu => by rw [elA_add]; exact hes j u hu)
  simp [execOp, s.eval hx, elq, this]

/-! ## Calls -/
def LentAll (M L : List Fact) (L0 : List Fact) : Prop := ∀ f ∈ L0, Lent M L f
theorem LentAll.nil : LentAll M L [] := fun _ h => by simp at h
theorem LentAll.cons {f : Fact} {L0 : List Fact} (h : Lent M L f) (k : LentAll M L L0) : LentAll M L (f :: L0) := fun x hx => by
  rcases List.mem_cons.1 hx with rfl | hx
  · exact h
  · exact k x hx

/-- the state behind a call to which everything was lent, and which hands out only what is its own -/
theorem St.callL {w w' : World} {M1 : List Fact} {F : Nat → Nat → Prop} {U : Nat → Prop} (ho : Kept c.O c.w0 w) (hF : Own c w M F) (hL : ∀ f ∈ L, f.p w (Free c F))
    (t : St ⟨w, U, fun _ => False⟩ M1 [] w') : St c (M1 ++ M) L w' := by
  obtain ⟨ho', F', hF', _⟩ := t
  have t2 : St ⟨w, Free c F, fun _ => False⟩ M1 [] w' := ⟨ho', F', ⟨hF'.res, hF'.rng, hF'.dis⟩, fun f hf => by simp at hf⟩
  exact St.call ho hF hL t2

theorem Loud.callL {A : Type} {ret : A → Value} {MO : A → List Fact → List Fact} {f : FuncId} {xs : List Operand} {vs : List Value} {ats : Array TypeId} {L0 : List Fact} (hb : HasBody P f)
    (hs : Meets P f vs.toArray L0 ret MO (fun _ l => l)) (hx : xs.map (ev σ) = vs.map some) (hL : LentAll M L L0) (hMO : ∀ x l, MO x l = MO x [] ++ l) :
    Loud P c n σ M L ⟨d, .call ⟨.value (.func f), xs.toArray, ats⟩, ty, pos, aft, g⟩ ret (fun x => MO x M) (fun _ => L) := fun a w s t => by
  have hrun : (execOp a.eval ⟨d, .call ⟨.value (.func f), xs.toArray, ats⟩, ty, pos, aft, g⟩).run P w = .ok (.enter f vs.toArray) w := by
    have e := evs s hx
    simp [execOp, resolve, Act.eval, Deferred.ofValue, invoke, hb _ w, e]
  simp only [Oper.wp, hrun, Oper.upon]
  obtain ⟨ho, F, hF, hLF⟩ := t
  refine (hs w (fun _ => True) (fun f hf => hL f hf w (Free c F) F _ hLF hF.res (fun _ _ => trivial) (fun _ _ _ => trivial))).mono ?_
  rintro e w' ⟨x, rfl, ht⟩
  refine ⟨x, rfl, ?_⟩
  rw [hMO]
  exact St.callL ho hF hLF ht

theorem Loud.callVL {A : Type} {ret : A → Value} {MO : A → List Fact → List Fact} {f : FuncId} {t : Tmp} {xs : List Operand} {vs cs : List Value} {ats : Array TypeId} {L0 : List Fact} (hb : HasBody P f)
    (ht : lk σ t = some (.func (.func f) #[] cs.toArray)) (hs : Meets P f (vs ++ cs).toArray L0 ret MO (fun _ l => l)) (hx : xs.map (ev σ) = vs.map some) (hL : LentAll M L L0) (hMO : ∀ x l, MO x l = MO x [] ++ l) :
    Loud P c n σ M L ⟨d, .call ⟨.value (.tmp t), xs.toArray, ats⟩, ty, pos, aft, g⟩ ret (fun x => MO x M) (fun _ => L) := fun a w s t' => by
  have hrun : (execOp a.eval ⟨d, .call ⟨.value (.tmp t), xs.toArray, ats⟩, ty, pos, aft, g⟩).run P w = .ok (.enter f (vs ++ cs).toArray) w := by
    have e := evs s hx
    have e2 : a.eval (.tmp t) = .func (.func f) #[] cs.toArray := s.eval (x := .tmp t) ht
    simp [execOp, resolve, e2, Deferred.ofValue, invoke, hb _ w, e]
  simp only [Oper.wp, hrun, Oper.upon]
  obtain ⟨ho, F, hF, hLF⟩ := t'
  refine (hs w (fun _ => True) (fun f hf => hL f hf w (Free c F) F _ hLF hF.res (fun _ _ => trivial) (fun _ _ _ => trivial))).mono ?_
  rintro e w' ⟨x, rfl, ht⟩
  refine ⟨x, rfl, ?_⟩
  rw [hMO]
  exact St.callL ho hF hLF ht

/-! ## Append -/
theorem Loud.appendL [Tab P] (i : Nat) {r : Rep α} (hfit : e.Fits r) {x y : Operand} {v u : Value} {xs ys : List α} {T E : TypeId} {s1 s2 s3 s4 : Nat} {z z' : Value} {dE : TypeDesc} (hx : ev σ x = some v) (hy : ev σ y = some u) (hf : M[i]? = some (Ar e v xs)) (hg : Lent M L (Sl r u ys))
    (hT : Tab.tab P T = some ⟨.slice E, s1, s2, z⟩) (hE : Tab.tab P E = some ⟨dE, s3, s4, z'⟩) (h3 : e.sz = s3) (h4 : Nat.ble s4 1024 = true) (hl : (xs.length : Int) + ys.length ≤ 1099511627) (hz : z'.cells.size = s3) :
    Loud P c n σ M L ⟨d, .call ⟨.builtin .append, #[x, y], #[T, T]⟩, ty, pos, aft, g⟩ (fun v' : Value => v') (fun v' => M.set i (Ar e v' (xs ++ ys))) (fun _ => L) := fun a w s t => by
  subst h3
  obtain ⟨F, hF⟩ := hg.st t
  obtain ⟨hs, h1⟩ := SlR.srcE hfit hF hT
  have h4' : s4 ≤ 1024 := by simpa using h4
  have hb : (xs.length + ys.length) * s4 ≤ 140737488355328 := Nat.le_trans (Nat.mul_le_mul (show xs.length + ys.length ≤ 1099511627 by omega) h4') (by decide)
  obtain ⟨v', w', hr, ht⟩ := t.append (ty := ty) hf hs h1 hT hE hb (by omega) hz
  simp only [Oper.wp, run_appendOp s hx hy w, hr, Result.andThen_ok, Oper.upon]
  exact ⟨v', rfl, ht⟩

theorem St.appendRow [Tab P] {w : World} (t : St c M L w) {i : Nat} {u : Value} {k : Int} {vs : List Value} {xss : List (List α)} {ys : List α} {T E ty : TypeId} {s1 s2 s4 : Nat} {z z' : Value} {dE : TypeDesc} (hf : M[i]? = some (Rws e vs xss)) (hsrc : Src P e.sz T u ys.length (cellsOf e ys) w) (hone : (cellsOf e ys).all one = true)
    (hT : Tab.tab P T = some ⟨.slice E, s1, s2, z⟩) (hE : Tab.tab P E = some ⟨dE, e.sz, s4, z'⟩) (h0 : 0 ≤ k) (h1 : k < vs.length) (hb : ((at' xss k).length + ys.length) * s4 ≤ 140737488355328) (hl : (at' xss k).length + ys.length ≤ 140737488355328) (hz : z'.cells.size = e.sz) :
    ∃ v' w', (Builtin.append_ #[T, T] ty #[at' vs k, u]).run P w = .ok v' w' ∧ St c (M.set i (Rws e (vs.set k.toNat v') (xss.set k.toNat (at' xss k ++ ys)))) L w' := by
  have t0 := t
  obtain ⟨ho, FF, hO, hLL⟩ := t0
  have hR := hO.res i _ hf
  obtain ⟨hlen, G, g1, g2, g3⟩ := hR
  have hkl : k.toNat < vs.length := by omega
  have hrow := g1 k.toNat _ _ (at'_some h0 h1) (at'_some h0 (by omega))
  obtain ⟨v', w', F', hr, hA, hG⟩ := ArR.append (ty := ty) hrow hsrc hone hT hE hb hl hz
  refine ⟨v', w', hr, ?_⟩
  refine St.updF ho hO hLL hf hG.os hG.tape hG.out hG.size (fun q hq hn => hG.same q hq (fun h => hn (g2 _ q h))) (F' := fun q => (F' q) ∨ ∃ j', j' ≠ k.toNat ∧ G j' q) ?_ ?_
  · refine ⟨by simp [hlen], fun j' q => (j' = k.toNat ∧ F' q) ∨ (j' ≠ k.toNat ∧ G j' q ∧ q < w.heap.size), ?_, ?_, ?_⟩
    · intro j' v2 xs2 hv2 hx2
      by_cases ej : j' = k.toNat
      · subst ej
        rw [List.getElem?_set_self hkl] at hv2
        rw [List.getElem?_set_self (by omega)] at hx2
        cases hv2; cases hx2
        exact Fact.same (f := Ar e v' (at' xss k ++ ys)) hA (fun q hq => .inl ⟨rfl, hq⟩) (fun _ _ _ => rfl)
      · rw [List.getElem?_set_ne (Ne.symm ej)] at hv2 hx2
        exact (Ar e v2 xs2).mono (g1 j' v2 xs2 hv2 hx2) (fun q hq hlt => ⟨.inr ⟨ej, hq, hlt⟩, hG.same q hlt (fun h => ej (g3 _ _ q hq h))⟩)
    · rintro j' q (⟨_, hq⟩ | ⟨hne, hq, _⟩)
      · exact .inl hq
      · exact .inr ⟨j', hne, hq⟩
    · rintro j1 j2 q (⟨e1, q1⟩ | ⟨e1, q1, l1⟩) (⟨e2, q2⟩ | ⟨e2, q2, l2⟩)
      · rw [e1, e2]
      · rcases hG.sub q q1 with h | ⟨h, _⟩
        · exact absurd (g3 _ _ q q2 h) e2
        · omega
      · rcases hG.sub q q2 with h | ⟨h, _⟩
        · exact absurd (g3 _ _ q q1 h) e1
        · omega
      · exact g3 _ _ q q1 q2
  · rintro q (hq | ⟨j', _, hq⟩)
    · rcases hG.sub q hq with h | h
      · exact .inl (g2 _ q h)
      · exact .inr h
    · exact .inl (g2 _ q hq)

/-- append to a row -/
theorem Loud.appendRowL [Tab P] (i : Nat) {r : Rep α} (hfit : e.Fits r) {x y : Operand} {u : Value} {k : Int} {vs : List Value} {xss : List (List α)} {ys : List α} {T E : TypeId} {s1 s2 s3 s4 : Nat} {z z' : Value} {dE : TypeDesc} (hx : ev σ x = some (at' vs k)) (hy : ev σ y = some u) (hf : M[i]? = some (Rws e vs xss)) (hg : Lent M L (Sl r u ys))
    (hT : Tab.tab P T = some ⟨.slice E, s1, s2, z⟩) (hE : Tab.tab P E = some ⟨dE, s3, s4, z'⟩) (h3 : e.sz = s3) (h4 : Nat.ble s4 1024 = true) (h0 : 0 ≤ k ∧ k < xss.length) (hl : ((at' xss k).length : Int) + ys.length ≤ 1099511627) (hz : z'.cells.size = s3) :
    Loud P c n σ M L ⟨d, .call ⟨.builtin .append, #[x, y], #[T, T]⟩, ty, pos, aft, g⟩ (fun v' : Value => v') (fun v' => M.set i (Rws e (vs.set k.toNat v') (xss.set k.toNat (at' xss k ++ ys)))) (fun _ => L) := fun a w s t => by
  subst h3
  obtain ⟨F, hF⟩ := hg.st t
  obtain ⟨hs, h1⟩ := SlR.srcE hfit hF hT
  have h4' : s4 ≤ 1024 := by simpa using h4
  have hb : ((at' xss k).length + ys.length) * s4 ≤ 140737488355328 := Nat.le_trans (Nat.mul_le_mul (show (at' xss k).length + ys.length ≤ 1099511627 by omega) h4') (by decide)
  have hlen : vs.length = xss.length := by obtain ⟨_, h⟩ := t.res hf; exact h.1
  obtain ⟨v', w', hr, ht⟩ := t.appendRow (ty := ty) hf hs h1 hT hE h0.1 (by omega) hb (by omega) hz
  simp only [Oper.wp, run_appendOp s hx hy w, hr, Result.andThen_ok, Oper.upon]
  exact ⟨v', rfl, ht⟩
end
end Go.Sx
end
section
set_option linter.unusedVariables false
set_option linter.unusedSimpArgs false
set_option linter.unusedVariables false
set_option linter.unusedSimpArgs false
namespace Go.Sx
open Go.RowKit
section
variable {P : Program} {rd : Option Nat} {c : Ctx} {n : Sz} {σ : Fr} {M L M' L' : List Fact} {Q : Exit → Act → World → Prop} {ops : Array Oper} {rest : List Oper} {K : Act → World → Prop}
variable {d : Option Tmp} {D : Nat} {ty : TypeId} {pos : String} {aft : Array Edge} {g : Option (Nat × Bool)}
variable {α β : Type} {e : Enc α} {r : Rep α}
theorem St.weakE {w : World} (h : St c M L w) (hM : SubM M M') (hL : LentAll [] L L') : St c M' L' w := by
  obtain ⟨ho, F, hF, hf⟩ := h.weak (L' := L) hM (fun _ h => h)
  exact ⟨ho, F, hF, fun f hfl => hL f hfl w (Free c F) (fun _ _ => False) (Free c F) hf (fun _ _ h => by simp at h) (fun _ h => h) (fun _ _ h => h.elim)⟩

theorem LentAll.refl (M L : List Fact) : LentAll M L L := fun f hf => by
  obtain ⟨j, hj⟩ := List.getElem?_of_mem hf
  exact Lent.fact j hj

/-! joins -/
def MidI {A B : Type} (c : Ctx) (n : Sz) (C : A → Prop) (σI : A → B → Fr) (MI LI : A → B → List Fact) (a : Act) (w : World) : Prop := ∃ x y, C x ∧ Sub n (σI x y) a ∧ St c (MI x y) (LI x y) w

theorem J.midI {A B : Type} {x : Code} (C : A → Prop) (σI : A → B → Fr) (MI LI : A → B → List Fact) (h1 : J c n σ M L (x.wpr rd P (Exit.then (MidI c n C σI MI LI) Q))) (h2 : ∀ a b, C a → J c n (σI a b) (MI a b) (LI a b) K) :
    J c n σ M L (x.wpr rd P (Exit.then K Q)) := fun a w s t => wpr_mono (fun e a' w' q => by
  cases e with
  | normal => obtain ⟨z, y, hC, hs, ht⟩ := q; exact h2 z y hC a' w' hs ht
  | exit id => exact q
  | goto l => exact q
  | ret => exact q
  | panic ch => exact q
  | outgrown => exact q) (h1 a w s t)

theorem J.meetI {A B : Type} {C : A → Prop} {σI : A → B → Fr} {MI LI : A → B → List Fact} (x : A) (y : B) (hC : C x) (hs : SubF σ (σI x y)) (hM : SubM M (MI x y)) (hL : LentAll [] L (LI x y)) : J c n σ M L (MidI c n C σI MI LI) :=
  fun _ _ s t => ⟨x, y, hC, s.weak hs, t.weakE hM hL⟩

/-! loops -/
def InvI {A B R : Type} (c : Ctx) (n : Sz) (step : A → (A → Option R) → Option R) (r : R) (σI : A → B → Fr) (MI LI : A → B → List Fact) (k : Nat) (a : Act) (w : World) : Prop :=
  ∃ x y, iter step k x = some r ∧ Sub n (σI x y) a ∧ St c (MI x y) (LI x y) w

theorem J.loopI {A B R : Type} {body : Code} (step : A → (A → Option R) → Option R) {r : R} {fuel : Nat} (σI : A → B → Fr) (MI LI : A → B → List Fact) (a0 : A) (b0 : B) (h : iter step fuel a0 = some r)
    (hs : SubF σ (σI a0 b0)) (hM : SubM M (MI a0 b0)) (hL : LentAll [] L (LI a0 b0))
    (round : ∀ k a b, step a (iter step k) = some r → J c n (σI a b) (MI a b) (LI a b) (body.wpr rd P (Exit.then (InvI c n step r σI MI LI k) Q))) : J c n σ M L ((Code.loop body).wpr rd P Q) := by
  intro a w s t
  refine J.loop (X := Nat × A × B) (fun x => iter step x.1 x.2.1 = some r) (fun x => σI x.2.1 x.2.2) (fun x => MI x.2.1 x.2.2) (fun x => LI x.2.1 x.2.2) (fun x => x.1) (fuel, a0, b0) h (SubF.refl _) (SubM.refl _) (fun _ h => h) ?_ a w (s.weak hs) (t.weakE hM hL)
  rintro ⟨k, x, y⟩ hC
  cases k with
  | zero => cases hC
  | succ k =>
    refine J.mono (round k x y hC) fun a w h => wpr_mono (fun e a' w' q => ?_) h
    cases e with
    | normal => obtain ⟨x', y', hC', hs', ht'⟩ := q; exact ⟨(k, x', y'), hC', Nat.lt_succ_self k, hs', ht'⟩
    | exit id => exact q
    | goto l => exact q
    | ret => exact q
    | panic ch => exact q
    | outgrown => exact q

theorem J.againI {A B R : Type} {step : A → (A → Option R) → Option R} {r : R} {k : Nat} {σI : A → B → Fr} {MI LI : A → B → List Fact} (x : A) (y : B) (h : iter step k x = some r) (hs : SubF σ (σI x y)) (hM : SubM M (MI x y)) (hL : LentAll [] L (LI x y)) :
    J c n σ M L (InvI c n step r σI MI LI k) := fun _ _ s t => ⟨x, y, h, s.weak hs, t.weakE hM hL⟩

/-! regions that draw -/
variable {l : List Oper} {m : List Nat} {k0 : Nat} {H Bs : List (Nat × List Fact × List Fact)} {rs : List Nat}
theorem JR.qt {i dd : Nat} {op : Op} {v : Value} {Mx Lx : List Fact} (hi : l[i]? = some ⟨some dd, op, ty, pos, aft, none⟩) (hM : SubM M Mx) (hL : SubL L Lx)
    (hy : Y P c n σ Mx Lx ⟨some dd, op, ty, pos, aft, none⟩ v) (hH : HistOk (before m i) Mx Lx H)
    (h : JR c n ((dd, v) :: σ) M L H ((i, Mx, Lx) :: Bs) (RW P l.toArray Q (before m) (louds l) k0 rs))
    (hk : Nat.blt i k0 = true := by exact rfl) (hl : loudOp op = false := by exact rfl) (hd : Nat.blt dd n.sz = true := by exact rfl) : JR c n σ M L H Bs (RW P l.toArray Q (before m) (louds l) k0 (i :: rs)) :=
  JR.quiet Mx Lx hi hk hl hy ⟨hM, hL⟩ hH hd h
theorem JR.qtG {i dd : Nat} {op : Op} {v : Value} {j : Nat} {b : Bool} {Mx Lx : List Fact} (hi : l[i]? = some ⟨some dd, op, ty, pos, aft, some (j, b)⟩) (hM : SubM M Mx) (hL : SubL L Lx)
    (hy : Y P c n σ Mx Lx ⟨some dd, op, ty, pos, aft, some (j, b)⟩ v) (hH : HistOk (before m i) Mx Lx H)
    (h : JR c n ((dd, v) :: σ) M L H ((i, Mx, Lx) :: Bs) (RW P l.toArray Q (before m) (louds l) k0 rs))
    (hk : Nat.blt i k0 = true := by exact rfl) (hl : loudOp op = false := by exact rfl) (hg : gv l.toArray σ j = some b := by exact rfl) (hd : Nat.blt dd n.sz = true := by exact rfl) : JR c n σ M L H Bs (RW P l.toArray Q (before m) (louds l) k0 (i :: rs)) :=
  JR.guardY Mx Lx hi hk hl hg hy ⟨hM, hL⟩ hH hd h

/-! returns -/
def rvSem (tmps : Array Value) : ResultVar → Sem Value
  | .tmp t => pure (tmps.getD t undef)
  | .cell a t => do loadVar t (← asAddr (tmps.getD a undef))
theorem results_rv (fn : Func) (tmps : Array Value) : results fn tmps = (do let vs ← fn.results.mapM (rvSem tmps); pure (if h : vs.size = 1 then vs[0] else .tuple vs)) := rfl
def RV (P : Program) (c : Ctx) (n : Sz) (σ : Fr) (M L : List Fact) (rv : ResultVar) (v : Value) : Prop := ∀ a w, Sub n σ a → St c M L w → (rvSem a.tmps rv).run P w = .ok v w

theorem RV.tmp {t : Tmp} {v : Value} (h : lk σ t = some v) : RV P c n σ M L (.tmp t) v := fun a w s _ => by simp [rvSem, s.slot t v h]
theorem RV.cell [Tab P] (i : Nat) {q : Tmp} {T T' : TypeId} {s2 : Nat} {z : Value} {dT : TypeDesc} {b : Nat} {cs : List Value} (hr : lk σ q = some (.pointer (some ⟨b, 0, none⟩))) (hB : M[i]? = some (Blk b cs T')) (hT : Tab.tab P T = some ⟨dT, cs.length, s2, z⟩) (hd : aggD dT = true) :
    RV P c n σ M L (.cell q T) (.agg cs.toArray) := fun a w s t => by
  obtain ⟨F, hF⟩ := t.res hB
  simp [rvSem, s.slot q _ hr, asAddr, run_cell hF hT hd]
theorem RV.cell1 [Tab P] (i : Nat) {q : Tmp} {T T' : TypeId} {s1 s2 : Nat} {z v : Value} {dT : TypeDesc} {b : Nat} (hr : lk σ q = some (.pointer (some ⟨b, 0, none⟩))) (hB : M[i]? = some (Blk b [v] T')) (hT : Tab.tab P T = some ⟨dT, s1, s2, z⟩) (hd : aggD dT = false) :
    RV P c n σ M L (.cell q T) v := fun a w s t => by
  obtain ⟨F, hF⟩ := t.res hB
  have := Blk.cell hF (o := 0) (v := v) rfl
  simp [rvSem, s.slot q _ hr, asAddr, loadVar, (Tab.ok hT).run_agg w, hd, load, Sem.run, this]

variable {A : Type} {ret : A → Value} {MO LO : A → List Fact → List Fact} {fn : Func}
theorem J.retG0 (x : A) (hx : ret x = .tuple #[]) (hres : fn.results = #[]) (ex : Exit) (he : ex = .ret ∨ ex = .normal) (hM : SubM M (MO x [])) (hL : LentAll [] L (LO x [])) (hds : n.ds = [] := by rfl) : J c n σ M L (bodyPost P fn (Post c ret MO LO) ex) := fun a w s t =>
  J.post x ex he (fun a w s t => by simp [results, hres, hx]) hM (fun _ h => h) hds a w s (t.weakE (SubM.refl _) hL)
theorem J.retG1 (x : A) {r1 : ResultVar} {v1 : Value} (hx : ret x = v1) (hres : fn.results = #[r1]) (h1 : RV P c n σ M L r1 v1) (hM : SubM M (MO x [])) (hL : LentAll [] L (LO x [])) (hds : n.ds = [] := by rfl) : J c n σ M L (bodyPost P fn (Post c ret MO LO) .ret) := fun a w s t => by
  have hr : (results fn a.tmps).run P w = .ok (ret x) w := by
    have := h1 a w s t
    simp only [results_rv, hres]
    simp [hx, this]
  exact body_end (.inl rfl) (s.defers.trans hds) hr ⟨x, rfl, t.weakE hM hL⟩
theorem J.retG2 (x : A) {r1 r2 : ResultVar} {v1 v2 : Value} (hx : ret x = .tuple #[v1, v2]) (hres : fn.results = #[r1, r2]) (h1 : RV P c n σ M L r1 v1) (h2 : RV P c n σ M L r2 v2) (hM : SubM M (MO x [])) (hL : LentAll [] L (LO x [])) (hds : n.ds = [] := by rfl) : J c n σ M L (bodyPost P fn (Post c ret MO LO) .ret) := fun a w s t => by
  have hr : (results fn a.tmps).run P w = .ok (ret x) w := by
    have h1 := h1 a w s t
    have h2 := h2 a w s t
    simp only [results_rv, hres]
    simp [hx, h1, h2]
  exact body_end (.inl rfl) (s.defers.trans hds) hr ⟨x, rfl, t.weakE hM hL⟩
theorem J.retG3 (x : A) {r1 r2 r3 : ResultVar} {v1 v2 v3 : Value} (hx : ret x = .tuple #[v1, v2, v3]) (hres : fn.results = #[r1, r2, r3]) (h1 : RV P c n σ M L r1 v1) (h2 : RV P c n σ M L r2 v2) (h3 : RV P c n σ M L r3 v3) (hM : SubM M (MO x [])) (hL : LentAll [] L (LO x [])) (hds : n.ds = [] := by rfl) : J c n σ M L (bodyPost P fn (Post c ret MO LO) .ret) := fun a w s t => by
  have hr : (results fn a.tmps).run P w = .ok (ret x) w := by
    have h1 := h1 a w s t
    have h2 := h2 a w s t
    have h3 := h3 a w s t
    simp only [results_rv, hres]
    simp [hx, h1, h2, h3]
  exact body_end (.inl rfl) (s.defers.trans hds) hr ⟨x, rfl, t.weakE hM hL⟩

/-! numbers -/
/-- wraparound, quick where nothing wraps -/
def wI : IntKind → Int → Int
  | .i64, x => if -9223372036854775808 ≤ x ∧ x ≤ 9223372036854775807 then x else IntKind.i64.wrap x
  | .u32, x => if 0 ≤ x ∧ x ≤ 4294967295 then x else IntKind.u32.wrap x
  | k, x => k.wrap x
theorem wI_eq (k : IntKind) (x : Int) : wI k x = k.wrap x := by
  unfold wI
  split
  · split
    · rename_i h; exact (wrap64_in h.1 h.2).symm
    · rfl
  · split
    · rename_i h
      unfold IntKind.wrap
      simp only [IntKind.bits, IntKind.signed]
      simp
      omega
    · rfl
  · rfl
theorem Y.addW {t t' : TypeId} {x y : Operand} {k : IntKind} {p q : Int} (hx : ev σ x = some (.int k p)) (hy : ev σ y = some (.int k q)) :
    Y P c n σ M L ⟨d, .binOp .add t x y t', ty, pos, aft, g⟩ (.int k (wI k (p + q))) := fun a w s _ => by
  simp [wI_eq, execOp, s.eval hx, s.eval hy, binOp, Op.intArith, guard_int]
theorem Y.subW {t t' : TypeId} {x y : Operand} {k : IntKind} {p q : Int} (hx : ev σ x = some (.int k p)) (hy : ev σ y = some (.int k q)) :
    Y P c n σ M L ⟨d, .binOp .sub t x y t', ty, pos, aft, g⟩ (.int k (wI k (p - q))) := fun a w s _ => by
  simp [wI_eq, execOp, s.eval hx, s.eval hy, binOp, Op.intArith, guard_int]
theorem Y.mulW {t t' : TypeId} {x y : Operand} {k : IntKind} {p q : Int} (hx : ev σ x = some (.int k p)) (hy : ev σ y = some (.int k q)) :
    Y P c n σ M L ⟨d, .binOp .mul t x y t', ty, pos, aft, g⟩ (.int k (wI k (p * q))) := fun a w s _ => by
  simp [wI_eq, execOp, s.eval hx, s.eval hy, binOp, Op.intArith, guard_int]
theorem Y.quoW {t t' : TypeId} {x y : Operand} {k : IntKind} {p q : Int} (hx : ev σ x = some (.int k p)) (hy : ev σ y = some (.int k q)) (h : q ≠ 0) :
    Y P c n σ M L ⟨d, .binOp .quo t x y t', ty, pos, aft, g⟩ (.int k (wI k (p.tdiv q))) := fun a w s _ => by
  simp [wI_eq, execOp, s.eval hx, s.eval hy, binOp, Op.intDiv, guard_int, h]
def bAnd (k : IntKind) (x y : Int) : Int := k.wrap (BitVec.ofInt k.bits x &&& BitVec.ofInt k.bits y).toNat
def bOr (k : IntKind) (x y : Int) : Int := k.wrap (BitVec.ofInt k.bits x ||| BitVec.ofInt k.bits y).toNat
def bShl (k : IntKind) (x y : Int) : Int := k.wrap (x * 2 ^ (min y.toNat k.bits))
theorem Y.and {t t' : TypeId} {x y : Operand} {k : IntKind} {p q : Int} (hx : ev σ x = some (.int k p)) (hy : ev σ y = some (.int k q)) :
    Y P c n σ M L ⟨d, .binOp .and t x y t', ty, pos, aft, g⟩ (.int k (bAnd k p q)) := fun a w s _ => by
  simp [execOp, s.eval hx, s.eval hy, binOp, Op.intBits, guard_int, bAnd]
theorem Y.or {t t' : TypeId} {x y : Operand} {k : IntKind} {p q : Int} (hx : ev σ x = some (.int k p)) (hy : ev σ y = some (.int k q)) :
    Y P c n σ M L ⟨d, .binOp .or t x y t', ty, pos, aft, g⟩ (.int k (bOr k p q)) := fun a w s _ => by
  simp [execOp, s.eval hx, s.eval hy, binOp, Op.intBits, guard_int, bOr]
theorem Y.shl {t t' : TypeId} {x y : Operand} {k k' : IntKind} {p q : Int} (hx : ev σ x = some (.int k p)) (hy : ev σ y = some (.int k' q)) (h : 0 ≤ q) :
    Y P c n σ M L ⟨d, .binOp .shl t x y t', ty, pos, aft, g⟩ (.int k (bShl k p q)) := fun a w s _ => by
  have : ¬ q < 0 := by omega
  simp [execOp, s.eval hx, s.eval hy, binOp, Op.shift, guard_int, bShl, this]
theorem run_eqB [Tab P] {t : TypeId} {s1 s2 : Nat} {z : Value} (ht : Tab.tab P t = some ⟨.bool, s1, s2, z⟩) (p q : Bool) (w : World) : (Op.equal t (.bool p) (.bool q)).run P w = .ok (p == q) w := by
  have key : ∀ m : Nat, (Op.equalIn (m + 1) t (.bool p) (.bool q)).run P w = .ok (p == q) w := fun m => by simp [Op.equalIn, (Tab.ok ht).run_und w]
  exact key 9999
theorem Y.eqlB [Tab P] {t t' : TypeId} {x y : Operand} {p q : Bool} {s1 s2 : Nat} {z : Value} (hx : ev σ x = some (.bool p)) (hy : ev σ y = some (.bool q)) (ht : Tab.tab P t = some ⟨.bool, s1, s2, z⟩) :
    Y P c n σ M L ⟨d, .binOp .eql t x y t', ty, pos, aft, g⟩ (.bool (p == q)) := fun a w s _ => by
  simp [execOp, s.eval hx, s.eval hy, binOp, eqGuard, run_eqB ht]
end
end Go.Sx
end
section
set_option linter.unusedVariables false
set_option linter.unusedSimpArgs false
set_option linter.unusedVariables false
set_option linter.unusedSimpArgs false
namespace Go.Sx
open Go.RowKit
def Enc.pair {α β : Type} (a : Enc α) (b : Enc β) : Enc (α × β) := ⟨a.sz + b.sz, Nat.lt_of_lt_of_le a.pos (Nat.le_add_right _ _), fun x => a.enc x.1 ++ b.enc x.2, fun x => by simp [a.len, b.len]⟩
theorem Enc.pair_fits {α β : Type} {a : Enc α} {b : Enc β} {r : Rep α} {s : Rep β} (h : a.Fits r) (k : b.Fits s) : (a.pair b).Fits (r.pair s) := by
  obtain ⟨h1, h2, h3, h4⟩ := h
  obtain ⟨k1, k2, k3, k4⟩ := k
  refine ⟨by simp [Enc.pair, Rep.pair, h1, k1], ?_, ?_, ?_⟩
  · rintro w S es x ⟨c1, c2, rfl, r1, r2⟩
    rw [h2 r1, k2 r2]; rfl
  · intro w S x; exact ⟨_, _, rfl, h3, k3⟩
  · intro x
    simp only [Enc.pair, List.all_append, h4, k4, Bool.and_self]

section
variable {P : Program} {rd : Option Nat} {c : Ctx} {n : Sz} {σ : Fr} {M L M' L' : List Fact} {Q : Exit → Act → World → Prop} {ops : Array Oper} {rest : List Oper} {K : Act → World → Prop}
variable {d : Option Tmp} {D : Nat} {ty : TypeId} {pos : String} {aft : Array Edge} {g : Option (Nat × Bool)}
variable {α β : Type} {e : Enc α} {r : Rep α}
theorem Loud.toV {A : Type} {o : Oper} {val : A → Value} {xs : List α} (h : Loud P c n σ M L o val (fun b => Ar e (val b) xs :: M) (fun _ => L)) : Loud P c n σ M L o (fun v : Value => v) (fun v => Ar e v xs :: M) (fun _ => L) := fun a w s t =>
  nwp_mono (fun _ _ ⟨x, h1, h2⟩ => ⟨val x, h1, h2⟩) (h a w s t)

theorem cellsOf_rep (e : Enc α) (k : Nat) (x : α) : (cellsOf e (List.replicate k x)) = (List.replicate k (e.enc x)).flatten := by
  induction k with
  | zero => rfl
  | succ k ih => simp only [List.replicate_succ, cellsOf, List.flatMap_cons, List.flatten_cons] at *; rw [ih]

theorem made_rep (cs : List Value) (hcs : cs ≠ []) (k : Nat) : (madeCells cs.toArray (k * cs.length)).toList = (List.replicate k cs).flatten := by
  have hpos : 0 < cs.length := List.length_pos_iff.2 hcs
  apply List.ext_getElem
  · simp [madeCells]
  · intro i h1 h2
    have hi : i < k * cs.length := by simpa [madeCells] using h1
    have hm : i % cs.length < cs.length := Nat.mod_lt _ hpos
    have hrep : ∀ (k i : Nat) (h : i < ((List.replicate k cs).flatten).length), ((List.replicate k cs).flatten)[i] = cs[i % cs.length]'(Nat.mod_lt _ hpos) := by
      intro k
      induction k with
      | zero => intro i h; simp at h
      | succ k ih =>
        intro i h
        simp only [List.replicate_succ, List.flatten_cons]
        by_cases hlt : i < cs.length
        · rw [List.getElem_append_left hlt]
          simp [Nat.mod_eq_of_lt hlt]
        · rw [List.getElem_append_right (by omega)]
          rw [ih]
          congr 1
          rw [← Nat.mod_eq_sub_mod (by omega)]
    rw [hrep]
    simp [madeCells, hm]

/-- make([]T, k) -/
theorem Loud.makeS [Tab P] {T E : TypeId} {s1 s2 s3 s4 : Nat} {z z' : Value} {dE : TypeDesc} {x : Operand} {k : Int} (z0 : α)
    (hT : Tab.tab P T = some ⟨.slice E, s1, s2, z⟩) (hE : Tab.tab P E = some ⟨dE, s3, s4, z'⟩) (hx : ev σ x = some (.int .i64 k)) (h4 : Nat.ble s4 1024 = true) (h : 0 ≤ k ∧ k ≤ 1099511627) (h3 : e.sz = s3)
    (hz : z'.cells = (e.enc z0).toArray) (h1 : (e.enc z0).all one = true) :
    Loud P c n σ M L ⟨d, .makeSlice T x x, ty, pos, aft, g⟩ (fun v : Value => v) (fun v => Ar e v (List.replicate k.toNat z0) :: M) (fun _ => L) := by
  have h4' : s4 ≤ 1024 := by simpa using h4
  subst h3
  have hne : e.enc z0 ≠ [] := by
    intro h; have := e.len z0; rw [h] at this; have := e.pos; simp at *; omega
  refine Loud.toV (Loud.makeSlice (List.replicate k.toNat z0) hT hE hx h.1 ?_ (by omega) (by simp) ?_ ?_)
  · have := Int.mul_le_mul (show (s4 : Int) ≤ 1024 by omega) h.2 h.1 (by decide)
    omega
  · rw [hz, cellsOf_rep, ← e.len z0]
    exact made_rep _ hne _
  · rw [cellsOf_rep, List.all_eq_true]
    intro u hu
    obtain ⟨l, hl, hul⟩ := List.mem_flatten.1 hu
    rw [(List.mem_replicate.1 hl).2] at hul
    exact List.all_eq_true.1 h1 u hul

theorem Loud.buildS [Tab P] {T E : TypeId} {k s1 s2 s3 s4 : Nat} {z z' : Value} {dE : TypeDesc} {ps : List (Nat × Operand)} (xs : List α) (vs : List (Nat × Value))
    (hv : ps.map (fun p => (p.1, ev σ p.2)) = vs.map (fun p => (p.1, some p.2))) (hT : Tab.tab P T = some ⟨.slice E, s1, s2, z⟩) (hE : Tab.tab P E = some ⟨dE, s3, s4, z'⟩) (hs : Nat.ble (k * s3) 16777216 = true)
    (hfill : ∀ init : Array Value, init.size = k * s3 → Instr.fill (fun i => some (i * s3, s3)) init vs = some (cellsOf e xs).toArray)
    (hk : xs.length = k) (hl : Nat.ble xs.length 140737488355328 = true) (h1 : (cellsOf e xs).all one = true) :
    Loud P c n σ M L ⟨d, .buildSlice T k ps.toArray, ty, pos, aft, g⟩ (fun v : Value => v) (fun v => Ar e v xs :: M) (fun _ => L) :=
  Loud.toV (Loud.buildSlice xs hT hE hs hv hfill hk hl h1)

/-- a store into an element of one cell -/
theorem J.storeS [Tab P] (j : Nat) {T : TypeId} {s2 : Nat} {z : Value} {dT : TypeDesc} {x y : Operand} {v u : Value} {i : Int} {xs : List α} (yv : α) (h : 0 ≤ i ∧ i < xs.length) (hx : ev σ x = some (elq v (i.toNat * 1))) (hy : ev σ y = some u)
    (hf : M[j]? = some (Ar e v xs)) (hu : e.enc yv = [u]) (h1u : one u = true) (hT : Tab.tab P T = some ⟨dT, 1, s2, z⟩) (hq : e.sz = 1)
    (hh : J c n σ (M.set j (Ar e v (xs.set i.toNat yv))) L (wpList P ops Q rest)) :
    J c n σ M L (wpList P ops Q (⟨none, .store T x y, ty, pos, aft, none⟩ :: rest)) := J.storeA j yv hx hy hu h1u hf hT hq h.1 h.2 hh

/-- a store of a slice of the call's own into a slice of the call's own; the rows stand beside it -/
theorem J.storeRow [Tab P] (j q : Nat) {T : TypeId} {s2 : Nat} {z : Value} {dT : TypeDesc} {x y : Operand} {v u : Value} {i : Int} {vs vs' : List Value} {xss : List (List α)} (h : 0 ≤ i ∧ i < xss.length) (hx : ev σ x = some (elq v (i.toNat * 1))) (hy : ev σ y = some u)
    (hf : M[j]? = some (Ar Enc.raw v vs)) (hr : M[q]? = some (Rws e vs' xss)) (hvs : vs.set i.toNat u = vs') (hl : vs'.length = vs.length) (h1u : one u = true) (hT : Tab.tab P T = some ⟨dT, 1, s2, z⟩)
    (hh : J c n σ (M.set j (Ar Enc.raw v vs')) L (wpList P ops Q rest)) :
    J c n σ M L (wpList P ops Q (⟨none, .store T x y, ty, pos, aft, none⟩ :: rest)) := fun a w s t => by
  have hlen : vs'.length = xss.length := by obtain ⟨_, h⟩ := t.res hr; exact h.1
  exact J.storeA j u hx hy rfl h1u hf hT rfl h.1 (by omega) (by rw [hvs]; exact hh) a w s t

/-- queue[k:] of a slice of the call's own -/
theorem Loud.sliceA [Tab P] (j : Nat) {T E : TypeId} {s1 s2 s3 s4 : Nat} {z z' : Value} {dE : TypeDesc} {x lo : Operand} {v : Value} {i : Int} {xs : List α} (h : 0 ≤ i ∧ i ≤ xs.length) (hx : ev σ x = some v) (hlo : ev σ lo = some (.int .i64 i)) (hf : M[j]? = some (Ar e v xs))
    (hT : Tab.tab P T = some ⟨.slice E, s1, s2, z⟩) (hE : Tab.tab P E = some ⟨dE, s3, s4, z'⟩) (h3 : e.sz = s3) :
    Loud P c n σ M L ⟨d, .slice T x (some lo) none none, ty, pos, aft, g⟩ (fun v' : Value => v') (fun v' => M.set j (Ar e v' (xs.drop i.toNat))) (fun _ => L) := fun a w s t => by
  subst h3
  obtain ⟨h0, h1⟩ := h
  obtain ⟨F, hF⟩ := t.res hf
  have hdl : (cellsOf e (xs.drop i.toNat)) = (cellsOf e xs).drop (i.toNat * e.sz) := by
    have : cellsOf e xs = cellsOf e (xs.take i.toNat) ++ cellsOf e (xs.drop i.toNat) := by rw [← cellsOf_append, List.take_append_drop]
    have hl : (cellsOf e (xs.take i.toNat)).length = i.toNat * e.sz := by rw [cellsOf_length, List.length_take, Nat.min_eq_left (by omega)]
    rw [this, ← hl, List.drop_left]
  have hall : (cellsOf e (xs.drop i.toNat)).all one = true := by
    rw [hdl, List.all_eq_true]; intro u hu; exact List.all_eq_true.1 hF.2.1 u (List.mem_of_mem_drop hu)
  obtain ⟨hl, h1c, hh⟩ := hF
  rcases hh with ⟨rfl, rfl⟩ | ⟨b, off, cap, T', cur, rfl, hFb, hb, hk, hc, ht⟩
  · have hi0 : i = 0 := by simp at h1; omega
    subst hi0
    have hrun : (execOp a.eval ⟨d, .slice T x (some lo) none none, ty, pos, aft, g⟩).run P w = .ok (.value (.slice none 0 0)) w := by
      simp [execOp, s.eval hx, s.eval hlo, Instr.sliceAt, Instr.slice, (Tab.ok hT).run_und w, Instr.sliceBounds, Instr.sliceBound, asIntOf, (Tab.ok hE).run_size w]
    simp only [Oper.wp, hrun, Oper.upon]
    refine ⟨.slice none 0 0, rfl, ?_⟩
    have : M.set j (Ar e (.slice none 0 0) (([] : List α).drop (0 : Int).toNat)) = M := by
      apply List.ext_getElem?
      intro q
      by_cases eq : q = j
      · subst eq; rw [List.getElem?_set_self (getElem?_lt hf), hf]; rfl
      · rw [List.getElem?_set_ne (Ne.symm eq)]
    rw [this]; exact t
  · have hle : i ≤ (xs.length : Int) := h1
    have hrun : (execOp a.eval ⟨d, .slice T x (some lo) none none, ty, pos, aft, g⟩).run P w = .ok (.value (.slice (if cap = i.toNat then some ⟨b, off, none⟩ else some ⟨b, off + i.toNat * e.sz, none⟩) (xs.length - i.toNat) (cap - i.toNat))) w := by
      simp [execOp, s.eval hx, s.eval hlo, Instr.sliceAt, Instr.slice, (Tab.ok hT).run_und w, Instr.sliceBounds, Instr.sliceBound, asIntOf, (Tab.ok hE).run_size w, h0, hle, add_none]
    simp only [Oper.wp, hrun, Oper.upon]
    refine ⟨_, rfl, ?_⟩
    refine t.upd hf rfl rfl rfl (Nat.le_refl _) fun F hF _ => ⟨fun _ _ _ => rfl, F, ?_, fun _ h => .inl h⟩
    obtain ⟨_, _, hh⟩ := hF
    rcases hh with ⟨hv, _⟩ | ⟨b', off', cap', T'', cur', hv, hFb', hb', _⟩
    · cases hv
    · cases hv
      rw [hb] at hb'; cases hb'
      refine ⟨by simp; omega, hall, .inr ?_⟩
      by_cases hcap : cap = i.toNat
      · have hnil : xs.drop i.toNat = [] := List.drop_of_length_le (by omega)
        rw [if_pos hcap, hnil]
        exact ⟨b, off, cap - i.toNat, T', cur, by simp; omega, hFb', hb, by simp, by have := Nat.mul_le_mul_right e.sz (show cap - i.toNat ≤ cap by omega); omega, by simp [cellsOf]⟩
      · rw [if_neg hcap]
        refine ⟨b, off + i.toNat * e.sz, cap - i.toNat, T', cur, by simp, hFb', hb, by simp; omega, ?_, ?_⟩
        · have := Nat.mul_le_mul_right e.sz (show i.toNat ≤ cap by omega)
          rw [Nat.sub_mul]; omega
        · rw [hdl, ← ht, List.drop_take, List.drop_drop, List.length_drop, Nat.sub_mul]
end
end Go.Sx
end
section
set_option linter.unusedVariables false
set_option linter.unusedSimpArgs false
namespace Go.Sx
set_option linter.unusedVariables false
set_option linter.unusedSimpArgs false
open Go.RowKit
/-- a step of the state that no operation makes -/
def Stp (M L M' L' : List Fact) : Prop := ∀ c w, St c M L w → St c M' L' w

section
variable {P : Program} {rd : Option Nat} {c : Ctx} {n : Sz} {σ : Fr} {M L M' L' : List Fact} {Q : Exit → Act → World → Prop} {ops : Array Oper} {rest : List Oper} {K : Act → World → Prop}
variable {d : Option Tmp} {D : Nat} {ty : TypeId} {pos : String} {aft : Array Edge} {g : Option (Nat × Bool)}
variable {α β : Type} {e : Enc α} {r : Rep α}
variable {H Bs : List (Nat × List Fact × List Fact)} {G : Act → World → Prop} {GR : Act → World → List (Nat × World) → List (Nat × (World → Prop)) → Prop}
theorem J.stp (h : Stp M L M' L') (k : J c n σ M' L' G) : J c n σ M L G := fun a w s t => k a w s (h c w t)
theorem JR.stp (h : Stp M L M' L') (k : JR c n σ M' L' H Bs GR) : JR c n σ M L H Bs GR := fun a w X Y s t hX hY => k a w X Y s (h c w t) hX hY
theorem J.know {p : Prop} (h : ∀ c w, St c M L w → p) (k : p → J c n σ M L G) : J c n σ M L G := fun a w s t => k (h c w t) a w s t
theorem JR.know {p : Prop} (h : ∀ c w, St c M L w → p) (k : p → JR c n σ M L H Bs GR) : JR c n σ M L H Bs GR := fun a w X Y s t hX hY => k (h c w t) a w X Y s t hX hY

theorem Know.one {v : Value} {xs : List α} (hf : Lent M L (Sl r v xs)) : ∀ c w, St c M L w → one v = true := fun c w t => by
  obtain ⟨S, a', cap, hv, _⟩ := hf.st t
  rw [hv]; rfl
theorem Know.rws (q : Nat) {vs : List Value} {xss : List (List α)} (hr : M[q]? = some (Rws e vs xss)) : ∀ c w, St c M L w → vs.length = xss.length := fun c w t => by
  obtain ⟨_, h⟩ := t.res hr; exact h.1

/-- a resource without memory -/
theorem Stp.add {m : Fact} (h : ∀ w, m.p w (fun _ => False)) : Stp M L (m :: M) L := fun c w t => by
  obtain ⟨ho, F, hF, hL⟩ := t
  refine ⟨ho, fun i k => match i with | 0 => False | i + 1 => F i k, ⟨?_, ?_, ?_⟩, fun f hf => Fact.same (hL f hf) (fun k hk => ⟨hk.1, fun i hi => by
      cases i with
      | zero => exact hi
      | succ i => exact hk.2 i hi⟩) (fun _ _ _ => rfl)⟩
  · intro i m' hm
    cases i with
    | zero => simp at hm; subst hm; exact h w
    | succ i => exact hF.res i m' (by simpa using hm)
  · intro i k hk
    cases i with
    | zero => exact hk.elim
    | succ i => exact hF.rng i k hk
  · intro i j k hi hj
    cases i with
    | zero => exact hi.elim
    | succ i =>
      cases j with
      | zero => exact hj.elim
      | succ j => exact congrArg (· + 1) (hF.dis i j k hi hj)

theorem Stp.nilAr (e : Enc α) : Stp M L (Ar e (.slice none 0 0) [] :: M) L := Stp.add fun _ => ⟨by simp, rfl, .inl ⟨rfl, rfl⟩⟩
theorem Stp.rowsNew (e : Enc α) (k : Nat) : Stp M L (Rws e (List.replicate k (.slice none 0 0)) (List.replicate k []) :: M) L := Stp.add fun w => by
  refine ⟨by simp, fun _ _ => False, fun i v xs hv hx => ?_, fun _ _ h => h, fun _ _ _ h => h.elim⟩
  rw [List.getElem?_replicate] at hv hx
  split at hv
  · rename_i h; rw [if_pos h] at hx; cases hv; cases hx; exact ⟨by simp, rfl, .inl ⟨rfl, rfl⟩⟩
  · cases hv
/-- a row is replaced by a slice of the call's own -/
theorem Stp.putRow (i j : Nat) {u : Value} {k : Int} {vs : List Value} {xss : List (List α)} {ys : List α} (hij : Nat.beq i j = false) (hf : M[i]? = some (Rws e vs xss)) (hg : M[j]? = some (Ar e u ys)) (h : 0 ≤ k ∧ k < xss.length) :
    Stp M L ((M.set i (Rws e (vs.set k.toNat u) (xss.set k.toNat ys))).eraseIdx j) L := fun c w t => by
  have hl := Know.rws i hf c w t
  exact J.putRow (n := ⟨0, []⟩) (σ := []) (G := fun _ w => St c ((M.set i (Rws e (vs.set k.toNat u) (xss.set k.toNat ys))).eraseIdx j) L w) (k := k) i j hij hf hg h.1 (by omega) (fun _ _ _ t => t) ⟨#[], []⟩ w ⟨rfl, rfl, fun _ _ h => by simp [lk] at h⟩ t

theorem LentAll.tail (l : List Fact) {Lf : List Fact} : LentAll M (l ++ Lf) Lf := fun f hf => by
  obtain ⟨j, hj⟩ := List.getElem?_of_mem (List.mem_append_right l hf)
  exact Lent.fact j hj
/-- the tail of a region, walked as a list -/
theorem JR.tailD {l : List Oper} {m : List Nat} {k0 : Nat} {rs : List Nat} (k : Nat) (hk : rs.all (Nat.ble k0) = true) (he : rs.map (l[·]?) = (l.drop k).map some) (h : J c n σ M L (wpList P l.toArray Q (l.drop k))) : JR c n σ M L H Bs (RW P l.toArray Q (before m) (louds l) k0 rs) := JR.tail hk he h

/-! ## Parts of slices -/
def slq (v : Value) (l h size : Nat) : Value := match v with
  | .slice a _ cap => .slice (if cap = l then a else a.map (·.add (l * size))) (h - l) (cap - l)
  | v => v

theorem SlR.part {w : World} {S : Nat → Prop} {v : Value} {xs : List α} (hs : SlR r w S v xs) {l h : Nat} (hl : l ≤ h) (hh : h ≤ xs.length) : SlR r w S (slq v l h r.sz) ((xs.take h).drop l) := by
  obtain ⟨a, cap, rfl, hb, hx⟩ := hs
  have hlen : ((xs.take h).drop l).length = h - l := by simp; omega
  by_cases he : (xs.take h).drop l = []
  · rw [he] at hlen ⊢
    refine ⟨_, _, by simp only [slq]; congr 1; simpa using hlen.symm, by simp, .inl rfl⟩
  · rcases hx with rfl | ⟨b, off, rfl, hS, hx⟩
    · simp at he
    · have hlt : l < h := by
        rcases Nat.lt_or_ge l h with h' | h'
        · exact h'
        · exfalso; apply he; apply List.eq_nil_of_length_eq_zero; omega
      have hc : cap ≠ l := by omega
      refine ⟨some ⟨b, off + l * r.sz, none⟩, cap - l, by simp [slq, hc, hlen, add_none], by omega, .inr ⟨b, off + l * r.sz, rfl, hS, fun i x hi => ?_⟩⟩
      have hi' : xs[l + i]? = some x := by
        rw [List.getElem?_drop, List.getElem?_take] at hi
        split at hi
        · exact hi
        · cases hi
      obtain ⟨es, hes, hr⟩ := hx (l + i) x hi'
      refine ⟨es, fun j u hu => ?_, hr⟩
      have := hes j u hu
      rw [Nat.add_mul] at this
      rw [show off + l * r.sz + (i * r.sz + j) = off + (l * r.sz + i * r.sz + j) by omega]
      exact this

theorem Lent.part {v : Value} {xs : List α} (hf : Lent M L (Sl r v xs)) {l h : Int} {q : Nat} (hq : r.sz = q) (hl : 0 ≤ l ∧ l ≤ h ∧ h ≤ xs.length) : Lent M L (Sl r (slq v l.toNat h.toNat q) ((xs.take h.toNat).drop l.toNat)) := by
  subst hq
  exact hf.mono fun hs => SlR.part hs (by omega) (by omega)

/-! ## Blocks that are read -/
theorem Y.loadBS [Tab P] {T T' : TypeId} {s1 s2 : Nat} {z : Value} {dT : TypeDesc} {x : Operand} {b o : Nat} {cs : List Value} {v : Value} (hx : ev σ x = some (.pointer (some ⟨b, o, none⟩)))
    (hM : Lent M L (Blk b cs T')) (hT : Tab.tab P T = some ⟨dT, s1, s2, z⟩) (hd : aggD dT = false) (hv : cs[o]? = some v) : Y P c n σ M L ⟨d, .load T x, ty, pos, aft, g⟩ v := fun a w s t => by
  obtain ⟨F, hF⟩ := hM.st t
  simp [execOp, s.eval hx, run_load1 (Tab.ok hT) hd (Blk.cell hF hv)]
/-! ## Equality of structs -/
theorem Y.eqA {t t' : TypeId} {x y : Operand} {u v : Value} {p : Prop} [Decidable p] (hx : ev σ x = some u) (hy : ev σ y = some v)
    (h : ∀ w, (eqGuard .eql t x y u v).run P w = .ok () w ∧ (binOp .eql t u v).run P w = .ok (.bool (decide p)) w) : Y P c n σ M L ⟨d, .binOp .eql t x y t', ty, pos, aft, g⟩ (.bool (decide p)) := fun a w s _ => by
  simp [execOp, s.eval hx, s.eval hy, (h w).1, (h w).2]
theorem Y.eqAN {t t' : TypeId} {x y : Operand} {u v : Value} {p : Prop} [Decidable p] (hx : ev σ x = some u) (hy : ev σ y = some v)
    (h : ∀ w, (eqGuard .neq t x y u v).run P w = .ok () w ∧ (binOp .neq t u v).run P w = .ok (.bool (decide p)) w) : Y P c n σ M L ⟨d, .binOp .neq t x y t', ty, pos, aft, g⟩ (.bool (decide p)) := fun a w s _ => by
  simp [execOp, s.eval hx, s.eval hy, (h w).1, (h w).2]

/-! ## Arrays in blocks -/
theorem Y.indexArr [Tab P] {T E : TypeId} {k s1 s2 s3 s4 : Nat} {z z' : Value} {dE : TypeDesc} {x y : Operand} {b : Nat} {i : Int} (hx : ev σ x = some (.pointer (some ⟨b, 0, none⟩))) (hy : ev σ y = some (.int .i64 i))
    (hT : Tab.tab P T = some ⟨.array k E, s1, s2, z⟩) (hE : Tab.tab P E = some ⟨dE, s3, s4, z'⟩) (h3 : (s3 == 0) = false) (h : 0 ≤ i ∧ i < (k : Int)) :
    Y P c n σ M L ⟨d, .indexAddr T x y, ty, pos, aft, g⟩ (.pointer (some ⟨b, i.toNat * s3, none⟩)) := fun a w s t => by
  have hne : s3 ≠ 0 := by simpa using h3
  simp [execOp, s.eval hx, s.eval hy, Instr.indexAt, asIntOf, (Tab.ok hT).run_und w, h, Instr.sureAddr, (Tab.ok hE).run_size w, hne, add_none]
end
end Go.Sx
end
section
set_option linter.unusedVariables false
set_option linter.unusedSimpArgs false
set_option linter.unusedVariables false
set_option linter.unusedSimpArgs false
namespace Go.Sx
open Go.RowKit
section
variable {P : Program} {rd : Option Nat} {c : Ctx} {n : Sz} {σ : Fr} {M L M' L' : List Fact} {Q : Exit → Act → World → Prop} {ops : Array Oper} {rest : List Oper} {K : Act → World → Prop}
variable {d : Option Tmp} {D : Nat} {ty : TypeId} {pos : String} {aft : Array Edge} {g : Option (Nat × Bool)}
variable {α β : Type} {e : Enc α} {r : Rep α}
theorem HistOk.b {A : Nat → Bool} {Mx Lx M L : List Fact} {j : Nat} {H : List (Nat × List Fact × List Fact)} (h : A j = true) (k : HistOk A Mx Lx H) : HistOk A Mx Lx ((j, M, L) :: H) := ⟨.inl h, k⟩
theorem HistOk.h {A : Nat → Bool} {Mx Lx M L : List Fact} {j : Nat} {H : List (Nat × List Fact × List Fact)} (h : SubM M Mx) (h' : SubL L Lx) (k : HistOk A Mx Lx H) : HistOk A Mx Lx ((j, M, L) :: H) := ⟨.inr ⟨h, h'⟩, k⟩
theorem HistOk.z {A : Nat → Bool} {Mx Lx : List Fact} : HistOk A Mx Lx [] := trivial
theorem BsOk.b {A : Nat → Bool} {Mx Lx M L : List Fact} {j : Nat} {H : List (Nat × List Fact × List Fact)} (h : A j = true) (k : BsOk A M L H) : BsOk A M L ((j, Mx, Lx) :: H) := ⟨.inl h, k⟩
theorem BsOk.h {A : Nat → Bool} {Mx Lx M L : List Fact} {j : Nat} {H : List (Nat × List Fact × List Fact)} (h : SubM M Mx) (h' : SubL L Lx) (k : BsOk A M L H) : BsOk A M L ((j, Mx, Lx) :: H) := ⟨.inr ⟨h, h'⟩, k⟩
theorem BsOk.z {A : Nat → Bool} {M L : List Fact} : BsOk A M L [] := trivial
theorem all1 {v : Value} {vs : List Value} (h : one v = true) (k : vs.all one = true) : (v :: vs).all one = true := by simp [h, k]
theorem cells_intV (k : IntKind) (x : Int) : (Value.int k x).cells = #[.int k x] := rfl
theorem cells_boolV (b : Bool) : (Value.bool b).cells = #[.bool b] := rfl
theorem cells_sliceV (a : Option Addr) (l k : Nat) : (Value.slice a l k).cells = #[.slice a l k] := rfl
theorem cells_ptrV (a : Option Addr) : (Value.pointer a).cells = #[.pointer a] := rfl
theorem cells_strV (a : ByteArray) : (Value.string a).cells = #[.string a] := rfl
theorem cells_funcV (f : Fn) (a b : Array Value) : (Value.func f a b).cells = #[.func f a b] := rfl

theorem Know.oneRow (q : Nat) {vs : List Value} {xss : List (List α)} {k : Int} {u : Value} (hr : M[q]? = some (Rws e (vs.set k.toNat u) xss)) (h : 0 ≤ k ∧ k < xss.length) : ∀ c w, St c M L w → Go.Sx.one u = true := fun c w t => by
  obtain ⟨S, hl, G', g1, _⟩ := t.res hr
  have hlt : k.toNat < vs.length := by simp at hl; omega
  obtain ⟨_, _, hh⟩ := g1 k.toNat u _ (by rw [List.getElem?_set_self hlt]) (List.getElem?_eq_getElem (by omega))
  rcases hh with ⟨hu, _⟩ | ⟨b, off, cap, T, cur, hu, _⟩ <;> (rw [hu]; rfl)

theorem Y.loadArr [Tab P] [Inhabited α] {T T' : TypeId} {s2 : Nat} {z : Value} {dT : TypeDesc} {x : Operand} {b k : Nat} {i : Int} {xs : List α} {u : Value} (hx : ev σ x = some (.pointer (some ⟨b, i.toNat * 1, none⟩)))
    (hM : Lent M L (Blk b (cellsOf e xs) T')) (hT : Tab.tab P T = some ⟨dT, 1, s2, z⟩) (hd : aggD dT = false) (hq : e.sz = 1) (hu : (e.enc (at' xs i)) = [u]) (h : (0 ≤ i ∧ i < (k : Int)) ∧ xs.length = k) :
    Y P c n σ M L ⟨d, .load T x, ty, pos, aft, g⟩ u := fun a w s t => by
  obtain ⟨F, hF⟩ := hM.st t
  have hg := cellsOf_get e xs i.toNat (at' xs i) (at'_some h.1.1 (by omega)) 0 u (by rw [hu]; rfl)
  rw [hq, Nat.add_zero] at hg
  rw [Nat.mul_one] at hx hg
  simp [execOp, s.eval hx, run_load1 (Tab.ok hT) hd (Blk.cell hF hg)]

theorem J.storeArr [Tab P] (q : Nat) {T T' : TypeId} {s2 : Nat} {z : Value} {dT : TypeDesc} {x y : Operand} {b k : Nat} {i : Int} {xs : List α} {u : Value} (yv : α) (h : (0 ≤ i ∧ i < (k : Int)) ∧ xs.length = k) (hx : ev σ x = some (.pointer (some ⟨b, i.toNat * 1, none⟩))) (hy : ev σ y = some u)
    (hM : M[q]? = some (Blk b (cellsOf e xs) T')) (hu : e.enc yv = [u]) (h1u : one u = true) (hT : Tab.tab P T = some ⟨dT, 1, s2, z⟩) (hq : e.sz = 1)
    (hh : J c n σ (M.set q (Blk b (cellsOf e (xs.set i.toNat yv)) T')) L (wpList P ops Q rest)) :
    J c n σ M L (wpList P ops Q (⟨none, .store T x y, ty, pos, aft, none⟩ :: rest)) := by
  rw [Nat.mul_one] at hx
  refine J.store1 q hx hy h1u hM hT ?_ ?_
  · have := cellsOf_length e xs; rw [hq] at this; rw [Nat.blt_eq]; omega
  · rw [← cellsOf_set1 hq hu]; exact hh
end
end Go.Sx
end
section
set_option linter.unusedVariables false
set_option linter.unusedSimpArgs false
set_option linter.unusedSectionVars false
namespace Go.Sx
set_option linter.unusedVariables false
set_option linter.unusedSimpArgs false
open Go.RowKit
section defs
variable {κ ν : Type} [DecidableEq κ]
def mpL (ek : κ → Value) (ev : ν → Value) : Nat → List (κ × ν) → List MapEntry
  | _, [] => []
  | i, x :: xs => ⟨ek x.1, ev x.2, i⟩ :: mpL ek ev (i + 1) xs

def mget (k : κ) : List (κ × ν) → Option ν
  | [] => none
  | x :: xs => if k = x.1 then some x.2 else mget k xs

def mset (k : κ) (v : ν) : List (κ × ν) → List (κ × ν)
  | [] => [(k, v)]
  | x :: xs => if k = x.1 then (k, v) :: xs else x :: mset k v xs

def fnd (ev : ν → Value) (k : κ) : Nat → List (κ × ν) → Option (Nat × Value)
  | _, [] => none
  | i, x :: xs => if k = x.1 then some (i, ev x.2) else fnd ev k (i + 1) xs

theorem fnd_get (ev : ν → Value) (k : κ) : ∀ (i : Nat) (l : List (κ × ν)), (fnd ev k i l).map (·.2) = (mget k l).map ev
  | _, [] => rfl
  | i, x :: xs => by
    simp only [fnd, mget]
    split
    · rfl
    · exact fnd_get ev k (i + 1) xs

theorem mpL_append (ek : κ → Value) (ev : ν → Value) : ∀ (i : Nat) (l : List (κ × ν)) (x : κ × ν), mpL ek ev i (l ++ [x]) = mpL ek ev i l ++ [⟨ek x.1, ev x.2, i + l.length⟩]
  | i, [], x => rfl
  | i, y :: ys, x => by
    simp only [List.cons_append, mpL, mpL_append ek ev (i + 1) ys x, List.length_cons]
    rw [show i + 1 + ys.length = i + (ys.length + 1) by omega]

theorem mset_none (k : κ) (v : ν) : ∀ l : List (κ × ν), mget k l = none → mset k v l = l ++ [(k, v)]
  | [], _ => rfl
  | x :: xs, h => by
    simp only [mget] at h
    split at h
    · cases h
    · rename_i hne
      simp only [mset, if_neg hne, mset_none k v xs h, List.cons_append]

theorem fnd_set (ek : κ → Value) (ev : ν → Value) (k : κ) (v : ν) : ∀ (i0 i : Nat) (l : List (κ × ν)) (j : Nat) (u : Value), fnd ev k i l = some (j, u) →
    i ≤ j ∧ ((mpL ek ev i l)[j - i]?).map (·.key) = some (ek k) ∧ mpL ek ev i (mset k v l) = (mpL ek ev i l).modify (j - i) (fun e => { e with key := ek k, val := ev v }) ∧ (mset k v l).length = l.length
  | _, i, [], j, u, h => by simp [fnd] at h
  | i0, i, x :: xs, j, u, h => by
    simp only [fnd] at h
    split at h
    · rename_i he
      simp only [Option.some.injEq, Prod.mk.injEq] at h
      obtain ⟨rfl, _⟩ := h
      simp [mpL, mset, he]
    · rename_i hne
      obtain ⟨h1, h2, h3, h4⟩ := fnd_set ek ev k v i0 (i + 1) xs j u h
      have hj : j - i = (j - (i + 1)) + 1 := by omega
      refine ⟨by omega, ?_, ?_, ?_⟩
      · rw [hj]; simpa [mpL] using h2
      · simp only [mset, if_neg hne, mpL]
        rw [hj, List.modify_succ_cons, h3]
      · simp [mset, hne, h4]
end defs
/-- keys that can be found -/
structure KeyOk (P : Program) (kt : TypeId) {κ : Type} [DecidableEq κ] (ek : κ → Value) : Prop where
  chk : ∀ b k w, (Instr.checkKey b 10000 kt (ek k)).run P w = .ok () w
  find : ∀ {ν : Type} (ev : ν → Value) (k : κ) (l : List (κ × ν)) w, (Instr.findKey kt (ek k) (mpL ek ev 0 l)).run P w = .ok (fnd ev k 0 l) w
  same : ∀ k, Instr.sameBits 10000 (ek k) (ek k) = true

def Mp {κ ν : Type} (ek : κ → Value) (ev : ν → Value) (r : Nat) (l : List (κ × ν)) : Fact where
  p w F := F r ∧ w.heap[r]? = some (.map (mpL ek ev 0 l).toArray l.length)
  mono := fun ⟨h1, h2⟩ h => by
    obtain ⟨h3, h4⟩ := h r h1 (Array.getElem?_eq_some_iff.1 h2).1
    exact ⟨h3, by rw [h4]; exact h2⟩

section
variable {P : Program} {rd : Option Nat} {c : Ctx} {n : Sz} {σ : Fr} {M L : List Fact} {Q : Exit → Act → World → Prop} {ops : Array Oper} {rest : List Oper}
variable {d : Option Tmp} {ty : TypeId} {pos : String} {aft : Array Edge} {g : Option (Nat × Bool)}
/-- a new object -/
theorem St.push {w : World} (t : St c M L w) (o : Obj) {m : Fact} (hm : m.p (w.alloc o) (fun k => k = w.heap.size)) : St c (m :: M) L (w.alloc o) := by
  have e : Ext w (w.alloc o) := (Below.refl _ _).alloc (Nat.le_refl _) _
  obtain ⟨ho, F, hF, hL⟩ := t
  have hb : ∀ k, k < w.heap.size → (w.alloc o).heap[k]? = w.heap[k]? := e.block
  refine ⟨ho.trans e, fun i k => match i with | 0 => k = w.heap.size | i + 1 => F i k, ⟨?_, ?_, ?_⟩, fun f hf => ?_⟩
  · intro i m' hm'
    cases i with
    | zero => simp at hm'; subst hm'; exact hm
    | succ i => exact Fact.same (hF.res i m' (by simpa using hm')) (fun _ h => h) (fun k _ hl => hb k hl)
  · intro i k hk
    cases i with
    | zero => subst hk; exact ⟨.inl ho.size, by simp⟩
    | succ i => exact ⟨(hF.rng i k hk).1, Nat.lt_of_lt_of_le (hF.rng i k hk).2 e.size⟩
  · intro i j k hi hj
    cases i with
    | zero =>
      cases j with
      | zero => rfl
      | succ j => have := (hF.rng j k hj).2; simp only at hi; omega
    | succ i =>
      cases j with
      | zero => have := (hF.rng i k hi).2; simp only at hj; omega
      | succ j => exact congrArg (· + 1) (hF.dis i j k hi hj)
  · exact f.mono (hL f hf) fun k hk hl => ⟨⟨hk.1, fun i hi => by
      cases i with
      | zero => simp only at hi; omega
      | succ i => exact hk.2 i hi⟩, hb k hl⟩

variable {κ ν : Type} [DecidableEq κ] {ek : κ → Value} {ev : ν → Value}
theorem Loud.makeMap (ek : κ → Value) (ev : ν → Value) {T : TypeId} : Loud P c n σ M L ⟨d, .makeMap T none, ty, pos, aft, g⟩ (fun r : Nat => .map (some r)) (fun r => Mp ek ev r [] :: M) (fun _ => L) := fun a w s t => by
  have hrun : (execOp a.eval ⟨d, .makeMap T none, ty, pos, aft, g⟩).run P w = .ok (.value (.map (some w.heap.size))) (w.alloc (.map #[] 0)) := by
    simp [execOp, Instr.makeMap]
  simp only [Oper.wp, hrun, Oper.upon]
  exact ⟨w.heap.size, rfl, t.push _ ⟨rfl, heap_alloc_new w _⟩⟩

theorem run_lookup [Tab P] {T kt vt : TypeId} {s1 s2 s3 s4 : Nat} {z zv : Value} {dv : TypeDesc} {w : World} {r : Nat} {l : List (κ × ν)} {F : Nat → Prop} (hk : KeyOk P kt ek) (hM : (Mp ek ev r l).p w F)
    (hT : Tab.tab P T = some ⟨.map kt vt, s1, s2, z⟩) (hV : Tab.tab P vt = some ⟨dv, s3, s4, zv⟩) (k : κ) (b : Bool) :
    (Instr.lookup T (.map (some r)) (ek k) b).run P w = .ok (if b then .tuple #[((mget k l).map ev).getD zv, .bool (mget k l).isSome] else ((mget k l).map ev).getD zv) w := by
  have hg : (getObj r).run P w = .ok (.map (mpL ek ev 0 l).toArray l.length) w := by
    simp [getObj, Sem.run, hM.2]
  have hf := hk.find ev k l w
  have hfg := fnd_get ev k 0 l
  simp only [Instr.lookup]
  simp [(Tab.ok hT).run_und w, hg, hk.chk, hf]
  cases hfd : fnd ev k 0 l with
  | none =>
    rw [hfd] at hfg
    have : mget k l = none := by cases h : mget k l <;> simp [h] at hfg ⊢
    simp [this, (Tab.ok hV).run_zero w]
  | some x =>
    rw [hfd] at hfg
    obtain ⟨v, hv, hx⟩ : ∃ v, mget k l = some v ∧ ev v = x.2 := by
      cases h : mget k l with
      | none => simp [h] at hfg
      | some v => simp [h] at hfg; exact ⟨v, rfl, hfg.symm⟩
    simp [hv, hx]

theorem Y.lookup [Tab P] (j : Nat) {T kt vt : TypeId} {s1 s2 s3 s4 : Nat} {z zv : Value} {dv : TypeDesc} {x y : Operand} {r : Nat} {l : List (κ × ν)} (k : κ) {b : Bool} (hk : KeyOk P kt ek) (hx : Go.Sx.ev σ x = some (.map (some r))) (hy : Go.Sx.ev σ y = some (ek k)) (hf : M[j]? = some (Mp ek ev r l))
    (hT : Tab.tab P T = some ⟨.map kt vt, s1, s2, z⟩) (hV : Tab.tab P vt = some ⟨dv, s3, s4, zv⟩) {u : Value} (hu : ((mget k l).map ev).getD zv = u) :
    Y P c n σ M L ⟨d, .lookup T x y b, ty, pos, aft, g⟩ (if b then .tuple #[u, .bool (mget k l).isSome] else u) := fun a w s t => by
  obtain ⟨F, hF⟩ := t.res hf
  subst hu
  simp [execOp, s.eval hx, s.eval hy, run_lookup hk hF hT hV]

theorem run_setObj_map {w : World} {r : Nat} {es : Array MapEntry} {k : Nat} (h : w.heap[r]? = some (.map es k)) (o : Obj) : (setObj r o).run P w = .ok () { w with heap := w.heap.setIfInBounds r o } := by
  simp [setObj, Sem.run, h]

theorem St.setMap {w : World} (t : St c M L w) {j r : Nat} {l l' : List (κ × ν)} (hf : M[j]? = some (Mp ek ev r l)) (o : Obj) (ho : o = .map (mpL ek ev 0 l').toArray l'.length) :
    St c (M.set j (Mp ek ev r l')) L { w with heap := w.heap.setIfInBounds r o } :=
  t.upd hf rfl rfl rfl (by simp) fun F hF _ => ⟨fun k _ hk => by
      rw [Array.getElem?_setIfInBounds_ne (fun e => hk (by subst e; exact hF.1))], F, ⟨hF.1, by
        rw [Array.getElem?_setIfInBounds_self_of_lt (Array.getElem?_eq_some_iff.1 hF.2).1, ho]⟩, fun _ h => .inl h⟩

theorem J.mapUpdate [Tab P] (j : Nat) {T kt vt : TypeId} {s1 s2 : Nat} {z : Value} {x y v : Operand} {r : Nat} {l : List (κ × ν)} (k : κ) (nv : ν) (hk : KeyOk P kt ek) (hx : Go.Sx.ev σ x = some (.map (some r))) (hy : Go.Sx.ev σ y = some (ek k)) (hv : Go.Sx.ev σ v = some (ev nv)) (hf : M[j]? = some (Mp ek ev r l))
    (hT : Tab.tab P T = some ⟨.map kt vt, s1, s2, z⟩) (h : J c n σ (M.set j (Mp ek ev r (mset k nv l))) L (wpList P ops Q rest)) :
    J c n σ M L (wpList P ops Q (⟨none, .mapUpdate T x y v, ty, pos, aft, none⟩ :: rest)) := fun a w s t => by
  refine wpList_take rfl ?_
  obtain ⟨F, hF⟩ := t.res hf
  have hg : (getObj r).run P w = .ok (.map (mpL ek ev 0 l).toArray l.length) w := by
    simp [getObj, Sem.run, hF.2]
  have hfd := hk.find ev k l w
  have hfg := fnd_get ev k 0 l
  have hrun : ∃ o : Obj, (execOp a.eval ⟨none, .mapUpdate T x y v, ty, pos, aft, none⟩).run P w = .ok .skip { w with heap := w.heap.setIfInBounds r o } ∧ o = .map (mpL ek ev 0 (mset k nv l)).toArray (mset k nv l).length := by
    simp only [execOp, s.eval hx, s.eval hy, s.eval hv, Instr.mapUpdate]
    cases hfn : fnd ev k 0 l with
    | none =>
      rw [hfn] at hfg hfd
      have hn : mget k l = none := by cases h : mget k l <;> simp [h] at hfg ⊢
      refine ⟨.map (mpL ek ev 0 l ++ [(⟨ek k, ev nv, l.length⟩ : MapEntry)]).toArray (l.length + 1), by simp [(Tab.ok hT).run_und w, hg, hk.chk, hfd, run_setObj_map hF.2], ?_⟩
      rw [mset_none k nv l hn, mpL_append]; simp
    | some q =>
      obtain ⟨i, u⟩ := q
      rw [hfn] at hfd
      obtain ⟨_, h2, h3, h4⟩ := fnd_set ek ev k nv 0 0 l i u hfn
      rw [Nat.sub_zero] at h2 h3
      have hkey : (((mpL ek ev 0 l).toArray[i]?).map (·.key)).getD (ek k) = ek k := by
        rw [List.getElem?_toArray, h2]; rfl
      refine ⟨.map ((mpL ek ev 0 l).toArray.modify i fun e => { e with key := ek k, val := ev nv }) l.length, ?_, ?_⟩
      · have hst : (Instr.keyThatStays (ek k) (ek k)).run P w = .ok (ek k) w := by simp [Instr.keyThatStays, hk.same k]
        have hkey' : (Option.map (fun x => x.key) (mpL ek ev 0 l)[i]?).getD (ek k) = ek k := by rw [h2]; rfl
        simp [(Tab.ok hT).run_und w, hg, hk.chk, hfd, hkey', hst, run_setObj_map hF.2]
      · rw [h3, h4]; simp
  obtain ⟨o, hr, ho⟩ := hrun
  simp only [Oper.wp, hr, Oper.upon]
  exact h _ _ s (t.setMap hf o ho)
end
end Go.Sx
end
section
set_option linter.unusedVariables false
set_option linter.unusedSimpArgs false
set_option linter.unusedVariables false
set_option linter.unusedSimpArgs false
set_option linter.unusedSectionVars false
namespace Go.Sx
open Go.RowKit Go.ChangeMaps
def It (b m len : Nat) (seen : List Nat) : Fact where
  p w F := F b ∧ w.heap[b]? = some (.mapIter (some m) len seen.toArray len)
  mono := fun ⟨h1, h2⟩ h => by
    obtain ⟨h3, h4⟩ := h b h1 (Array.getElem?_eq_some_iff.1 h2).1
    exact ⟨h3, by rw [h4]; exact h2⟩

section
variable {κ ν : Type} [DecidableEq κ] {ek : κ → Value} {ev : ν → Value} {R : Type}
theorem mpL_mem (ek : κ → Value) (ev : ν → Value) : ∀ (k : Nat) (l : List (κ × ν)) (e : MapEntry), e ∈ mpL ek ev k l → ∃ i kv, l[i]? = some kv ∧ e = ⟨ek kv.1, ev kv.2, k + i⟩
  | _, [], e, h => by simp [mpL] at h
  | k, x :: xs, e, h => by
    rcases List.mem_cons.1 h with rfl | h
    · exact ⟨0, x, rfl, rfl⟩
    · obtain ⟨i, kv, h1, h2⟩ := mpL_mem ek ev (k + 1) xs e h
      exact ⟨i + 1, kv, h1, by rw [h2, show k + 1 + i = k + (i + 1) by omega]⟩
theorem mem_mpL (ek : κ → Value) (ev : ν → Value) : ∀ (k : Nat) (l : List (κ × ν)) (i : Nat) (kv : κ × ν), l[i]? = some kv → (⟨ek kv.1, ev kv.2, k + i⟩ : MapEntry) ∈ mpL ek ev k l
  | _, [], i, kv, h => by simp at h
  | k, x :: xs, 0, kv, h => by simp at h; subst h; exact List.mem_cons_self
  | k, x :: xs, i + 1, kv, h => by
    have := mem_mpL ek ev (k + 1) xs i kv (by simpa using h)
    rw [show k + 1 + i = k + (i + 1) by omega] at this
    exact List.mem_cons_of_mem _ this
theorem mpL_born (ek : κ → Value) (ev : ν → Value) : ∀ (k : Nat) (l : List (κ × ν)), (mpL ek ev k l).map (·.born) = List.range' k l.length
  | _, [] => rfl
  | k, x :: xs => by simp [mpL, mpL_born ek ev (k + 1) xs, List.range'_succ]

def mrun (step : κ × ν → Option R → Option R) (K : Option R) (l : List (κ × ν)) : Option R := l.foldr step K

def rem (l : List (κ × ν)) (seen : List Nat) : List (κ × ν) := ((List.range l.length).filter (fun i => !seen.contains i)).filterMap (fun i => l[i]?)

theorem range_get : ∀ l : List (κ × ν), (List.range l.length).filterMap (fun i => l[i]?) = l
  | [] => rfl
  | x :: xs => by
    rw [List.length_cons, List.range_succ_eq_map, List.filterMap_cons]
    simp only [List.getElem?_cons_zero, List.filterMap_map]
    congr 1
    have := range_get xs
    simpa [Function.comp_def] using this

theorem rem_nil (l : List (κ × ν)) : rem l [] = l := by
  unfold rem
  rw [List.filter_eq_self.2 (by simp), range_get]

theorem rem_pick {l : List (κ × ν)} {seen : List Nat} {i : Nat} {kv : κ × ν} (hi : l[i]? = some kv) (hs : i ∉ seen) : ∃ l1 l2, rem l seen = l1 ++ kv :: l2 ∧ rem l (seen ++ [i]) = l1 ++ l2 := by
  have hlt := getElem?_lt hi
  have hmem : i ∈ (List.range l.length).filter (fun i => !seen.contains i) := by simp [hlt, hs]
  obtain ⟨A, B, hAB⟩ := List.append_of_mem hmem
  have hnd : ((List.range l.length).filter (fun i => !seen.contains i)).Nodup := List.Pairwise.filter _ List.nodup_range
  rw [hAB] at hnd
  have hA : i ∉ A := fun h => by
    have := (List.nodup_append.1 hnd).2.2 i h i List.mem_cons_self
    exact this rfl
  have hB : i ∉ B := fun h => by
    have := (List.nodup_cons.1 (List.nodup_append.1 hnd).2.1).1
    exact this h
  refine ⟨A.filterMap (fun i => l[i]?), B.filterMap (fun i => l[i]?), ?_, ?_⟩
  · unfold rem
    rw [hAB, List.filterMap_append, List.filterMap_cons, hi]
  · unfold rem
    have e : (List.range l.length).filter (fun j => !(seen ++ [i]).contains j) = ((List.range l.length).filter (fun j => !seen.contains j)).filter (fun j => decide (j ≠ i)) := by
      rw [List.filter_filter]
      apply List.filter_congr
      intro j _
      rw [Bool.eq_iff_iff]
      simp [and_comm]
    rw [e, hAB, List.filter_append, List.filter_cons]
    have fA : A.filter (fun j => decide (j ≠ i)) = A := List.filter_eq_self.2 (fun j hj => by simp; rintro rfl; exact hA hj)
    have fB : B.filter (fun j => decide (j ≠ i)) = B := List.filter_eq_self.2 (fun j hj => by simp; rintro rfl; exact hB hj)
    rw [fA, fB, List.filterMap_append.symm]
    simp

theorem mrun_pick {step : κ × ν → Option R → Option R} (hc : ∀ a b x, step a (step b x) = step b (step a x)) (K : Option R) (kv : κ × ν) (l2 : List (κ × ν)) : ∀ l1 : List (κ × ν), mrun step K (l1 ++ kv :: l2) = step kv (mrun step K (l1 ++ l2))
  | [] => rfl
  | x :: xs => by
    have := mrun_pick hc K kv l2 xs
    unfold mrun at this ⊢
    rw [List.cons_append, List.cons_append, List.foldr_cons, List.foldr_cons, this, hc]
end
section
variable {P : Program} {rd : Option Nat} {c : Ctx} {n : Sz} {σ σ' : Fr} {M L M' L' : List Fact} {Q : Exit → Act → World → Prop} {ops : Array Oper} {rest : List Oper}
variable {d : Option Tmp} {ty : TypeId} {pos : String} {aft : Array Edge} {g : Option (Nat × Bool)}
variable {κ ν : Type} [DecidableEq κ] {ek : κ → Value} {ev : ν → Value} {R : Type}
theorem Loud.range [Tab P] (j : Nat) {T kt vt : TypeId} {s1 s2 : Nat} {z : Value} {x : Operand} {m : Nat} {l : List (κ × ν)} (hx : Go.Sx.ev σ x = some (.map (some m))) (hf : M[j]? = some (Mp ek ev m l)) (hT : Tab.tab P T = some ⟨.map kt vt, s1, s2, z⟩) :
    Loud P c n σ M L ⟨d, .range T x, ty, pos, aft, g⟩ (fun b : Nat => .pointer (some ⟨b, 0, none⟩)) (fun b => It b m l.length [] :: M) (fun _ => L) := fun a w s t => by
  obtain ⟨F, hF⟩ := t.res hf
  have hrun : (execOp a.eval ⟨d, .range T x, ty, pos, aft, g⟩).run P w = .ok (.value (.pointer (some ⟨w.heap.size, 0, none⟩))) (w.alloc (.mapIter (some m) l.length #[] l.length)) := by
    simp [execOp, s.eval hx, run_range_map w T kt vt m _ _ (Tab.ok hT).und hF.2]
  simp only [Oper.wp, hrun, Oper.upon]
  exact ⟨w.heap.size, rfl, t.push _ ⟨rfl, heap_alloc_new w _⟩⟩

def nextVal (ek : κ → Value) (ev : ν → Value) (l : List (κ × ν)) : Option Nat → Value
  | none => .tuple #[.bool false]
  | some i => match l[i]? with
    | some kv => .tuple #[.bool true, ek kv.1, ev kv.2]
    | none => undef
def nextIs (len : Nat) (seen : List Nat) : Option Nat → Prop
  | none => ∀ i, i < len → i ∈ seen
  | some i => i < len ∧ i ∉ seen
def nextM (M : List Fact) (ji b m len : Nat) (seen : List Nat) : Option Nat → List Fact
  | none => M
  | some i => M.set ji (It b m len (seen ++ [i]))

theorem St.pureL {w : World} {p : Prop} (hp : p) (t : St c M L w) : St c M (Pure p :: L) w := by
  obtain ⟨ho, F, hF, hL⟩ := t
  refine ⟨ho, F, hF, fun f hf => ?_⟩
  rcases List.mem_cons.1 hf with rfl | hf
  · exact hp
  · exact hL f hf

theorem Loud.next (jm ji : Nat) {x : Operand} {b m : Nat} {l : List (κ × ν)} {seen : List Nat} (hx : Go.Sx.ev σ x = some (.pointer (some ⟨b, 0, none⟩))) (hf : M[jm]? = some (Mp ek ev m l)) (hi : M[ji]? = some (It b m l.length seen)) :
    Loud P c n σ M L ⟨d, .next x false, ty, pos, aft, g⟩ (nextVal ek ev l) (nextM M ji b m l.length seen) (fun o => Pure (nextIs l.length seen o) :: L) := fun a w s t => by
  obtain ⟨F, hF⟩ := t.res hf
  obtain ⟨G, hG⟩ := t.res hi
  have hold : ∀ e ∈ (mpL ek ev 0 l).toArray.toList, e.born < l.length := fun e he => by
    obtain ⟨i, kv, h1, h2⟩ := mpL_mem ek ev 0 l e (by simpa using he)
    rw [h2]; have := getElem?_lt h1; simp; omega
  rcases run_next_at (P := P) w ty b m l.length l.length seen.toArray (mpL ek ev 0 l).toArray l.length hG.2 hF.2 hold (Nat.le_refl _) with ⟨h0, hr⟩ | ⟨e, he, w1, hw1, hr⟩
  · have hrun : (execOp a.eval ⟨d, .next x false, ty, pos, aft, g⟩).run P w = .ok (.value (.tuple #[.bool false])) w := by
      simp [execOp, s.eval hx, hr]
    simp only [Oper.wp, hrun, Oper.upon]
    refine ⟨none, rfl, t.pureL fun i hi' => ?_⟩
    obtain ⟨kv, hkv⟩ : ∃ kv, l[i]? = some kv := ⟨_, List.getElem?_eq_getElem hi'⟩
    have := all_seen _ _ h0 _ (by simpa using mem_mpL ek ev 0 l i kv hkv)
    simpa using this
  · have hml := _root_.Go.mem_left he
    obtain ⟨i, kv, h1, h2⟩ := mpL_mem ek ev 0 l e (by simpa using hml.1)
    subst h2
    rw [Nat.zero_add] at hr hml
    have hrun : (execOp a.eval ⟨d, .next x false, ty, pos, aft, g⟩).run P w = .ok (.value (.tuple #[.bool true, ek kv.1, ev kv.2])) (setBlock w1 b (.mapIter (some m) l.length (seen.toArray.push i) l.length)) := by
      simp [execOp, s.eval hx, hr]
    simp only [Oper.wp, hrun, Oper.upon]
    have t1 : St c M L w1 := by
      rcases hw1 with rfl | rfl
      · exact t
      · exact t.ext ((Below.refl _ _).drew)
    refine ⟨some i, by simp [nextVal, h1], St.pureL ⟨getElem?_lt h1, by simpa using hml.2⟩ ?_⟩
    refine t1.upd hi rfl rfl rfl (by simp [setBlock]) fun F hF _ => ⟨fun k _ hk => ?_, F, ⟨hF.1, ?_⟩, fun _ h => .inl h⟩
    · simp only [setBlock]
      rw [Array.getElem?_setIfInBounds_ne (fun e => hk (by subst e; exact hF.1))]
    · simp only [setBlock]
      rw [Array.getElem?_setIfInBounds_self_of_lt (Array.getElem?_eq_some_iff.1 hF.2).1]
      simp

theorem Loud.entry (jm ji : Nat) {x : Operand} {b m i : Nat} {l : List (κ × ν)} {seen : List Nat} {kv : κ × ν} (hkv : l[i]? = some kv) (hx : Go.Sx.ev σ x = some (.pointer (some ⟨b, 0, none⟩))) (hf : M[jm]? = some (Mp ek ev m l)) (hi : M[ji]? = some (It b m l.length (seen ++ [i]))) :
    Loud P c n σ M L ⟨d, .entry x, ty, pos, aft, g⟩ (fun _ : Unit => .tuple #[ek kv.1, ev kv.2]) (fun _ => M) (fun _ => L) := fun a w s t => by
  obtain ⟨F, hF⟩ := t.res hf
  obtain ⟨G, hG⟩ := t.res hi
  have he := mem_mpL ek ev 0 l i kv hkv
  rw [Nat.zero_add] at he
  have hn : ((mpL ek ev 0 l).toArray.toList.map (·.born)).Nodup := by
    simp only [mpL_born]; exact List.nodup_range'
  have hr := run_entry_at (P := P) w b m l.length seen.toArray (mpL ek ev 0 l).toArray l.length ⟨ek kv.1, ev kv.2, i⟩ (by rw [hG.2]; simp) hF.2 (by simpa using he) hn
  have hrun : (execOp a.eval ⟨d, .entry x, ty, pos, aft, g⟩).run P w = .ok (.value (.tuple #[ek kv.1, ev kv.2])) w := by
    simp [execOp, s.eval hx, hr]
  simp only [Oper.wp, hrun, Oper.upon]
  exact ⟨(), by first | rfl | trivial, t⟩

theorem J.weakE {G : Act → World → Prop} (σ' : Fr) (M' L' : List Fact) (hs : SubF σ σ') (hM : SubM M M') (hL : LentAll [] L L') (h : J c n σ' M' L' G) : J c n σ M L G := fun a w s t => h a w (s.weak hs) (t.weakE hM hL)

theorem KeyOk.deep {kt : TypeId} {d : TypeDesc} (hu : P.underlying kt = some d) (chk : ∀ b k w, (Instr.checkKey b 10000 kt (ek k)).run P w = .ok () w) (now : ∀ a b, Instr.sameNow d (ek a) (ek b) = none)
    (eq : ∀ a b w, (Op.equal kt (ek a) (ek b)).run P w = .ok (decide (a = b)) w) (same : ∀ k, Instr.sameBits 10000 (ek k) (ek k) = true) : KeyOk P kt ek := by
  refine ⟨chk, fun {ν'} ev' k l w => ?_, same⟩
  have ask : ∀ (l : List (κ × ν')) (i : Nat), (Instr.findAsking kt (ek k) (mpL ek ev' i l) i).run P w = .ok (fnd ev' k i l) w := by
    intro l
    induction l with
    | nil => intro i; simp [mpL, fnd, Instr.findAsking]
    | cons x xs ih =>
      intro i
      simp only [mpL, fnd, Instr.findAsking]
      simp [eq]
      by_cases h : k = x.1
      · simp [h]
      · simp [h, ih]
  unfold Instr.findKey
  cases l with
  | nil => simp [mpL, fnd, Instr.findNow, run_underlying hu w]
  | cons x xs =>
    have h1 : Instr.findNow d (ek k) (mpL ek ev' 0 (x :: xs)) 0 = none := by simp [mpL, Instr.findNow, now]
    simp [run_underlying hu w, h1, ask]

theorem KeyOk.plain {kt : TypeId} {d : TypeDesc} (hu : P.underlying kt = some d) (chk : ∀ b k w, (Instr.checkKey b 10000 kt (ek k)).run P w = .ok () w) (now : ∀ a b, Instr.sameNow d (ek a) (ek b) = some (decide (a = b)))
    (same : ∀ k, Instr.sameBits 10000 (ek k) (ek k) = true) : KeyOk P kt ek := by
  refine ⟨chk, fun {ν'} ev' k l w => ?_, same⟩
  have fn : ∀ (l : List (κ × ν')) (i : Nat), Instr.findNow d (ek k) (mpL ek ev' i l) i = some (fnd ev' k i l) := by
    intro l
    induction l with
    | nil => intro i; simp [mpL, fnd, Instr.findNow]
    | cons x xs ih =>
      intro i
      simp only [mpL, fnd, Instr.findNow, now]
      by_cases h : k = x.1
      · simp [h]
      · simp [h, ih]
  unfold Instr.findKey
  simp [run_underlying hu w, fn]

/-- where a round of a loop over a map ends -/
def MapInv {R : Type} (c : Ctx) (n : Sz) (σ : Fr) (M L : List Fact) (x : Option R) (r : R) (a : Act) (w : World) : Prop := x = some r ∧ Sub n σ a ∧ St c M L w

theorem J.mapAgain {R : Type} {x : Option R} {r : R} (h : x = some r) (hs : SubF σ' σ) (hM : SubM M' M) (hL : LentAll [] L' L) : J c n σ' M' L' (MapInv c n σ M L x r) := fun _ _ s t => ⟨h, s.weak hs, t.weakE hM hL⟩

theorem J.loopMap (step : κ × ν → Option R → Option R) {K : Option R} {r : R} (jm ji : Nat) {b m : Nat} {l : List (κ × ν)} (hc : ∀ a b x, step a (step b x) = step b (step a x)) (h : mrun step K l = some r)
    (hf : M[jm]? = some (Mp ek ev m l)) (hi : M[ji]? = some (It b m l.length [])) (hne : Nat.beq ji jm = false) {t0 t1 t2 : Tmp} (hx : lk σ t0 = some (.pointer (some ⟨b, 0, none⟩))) (hd1 : Nat.blt t1 n.sz = true) (hd2 : Nat.blt t2 n.sz = true)
    {id ex : Nat} {y1 y2 : TypeId} {q1 q2 : String} {f1 f2 : Array Edge} {body : Code}
    (round : ∀ (kv : κ × ν) (i : Nat) (seen : List Nat) (x : Option R), l[i]? = some kv → step kv x = some r →
      J c n ((t2, .bool true) :: (t1, .tuple #[.bool true, ek kv.1, ev kv.2]) :: σ) (M.set ji (It b m l.length (seen ++ [i]))) L (body.wpr rd P (Exit.then (MapInv c n σ (M.set ji (It b m l.length (seen ++ [i]))) L x r) Q)))
    (fin : ∀ seen, K = some r → J c n ((t2, .bool false) :: (t1, .tuple #[.bool false]) :: σ) (M.set ji (It b m l.length seen)) L (Q (.exit ex))) :
    J c n σ M L ((Code.loop (Code.seq (Code.region id [⟨some t1, .next (.tmp t0) false, y1, q1, f1, none⟩, ⟨some t2, .extract (.tmp t1) 0, y2, q2, f2, none⟩].toArray false) (Code.seq (Code.cond (.tmp t2) .skip (.exit ex)) body))).wpr rd P Q) := by
  have hjlt := getElem?_lt hi
  have hjm : jm ≠ ji := fun e => by subst e; simp at hne
  have hset : M.set ji (It b m l.length []) = M := by
    apply List.ext_getElem?
    intro q
    by_cases eq : q = ji
    · subst eq; rw [List.getElem?_set_self hjlt, hi]
    · rw [List.getElem?_set_ne (Ne.symm eq)]
  refine J.loop (X := List Nat) (fun seen => seen.Nodup ∧ (∀ i ∈ seen, i < l.length) ∧ mrun step K (rem l seen) = some r) (fun _ => σ) (fun seen => M.set ji (It b m l.length seen)) (fun _ => L) (fun seen => l.length - seen.length) [] ⟨List.nodup_nil, by simp, by rw [rem_nil]; exact h⟩ (SubF.refl _) (by rw [hset]; exact SubM.refl _) (fun _ h => h) ?_
  rintro seen ⟨hnd, hlt, hrun⟩
  have hf' : (M.set ji (It b m l.length seen))[jm]? = some (Mp ek ev m l) := by rw [List.getElem?_set_ne (Ne.symm hjm)]; exact hf
  have hi' : (M.set ji (It b m l.length seen))[ji]? = some (It b m l.length seen) := List.getElem?_set_self hjlt
  refine J.seq (J.region (J.loud (Loud.next jm ji (x := .tmp t0) hx hf' hi') hd1 fun o => ?_))
  refine J.pure List.mem_cons_self fun ho => ?_
  refine J.weak (M' := nextM (M.set ji (It b m l.length seen)) ji b m l.length seen o) (L' := L) ?_ (SubF.refl _) (SubM.refl _) (fun f hf => List.mem_cons_of_mem _ hf)
  cases o with
  | none =>
    refine J.quiet (Y.extract (vs := [.bool false]) (by simp [nextVal, lk, Go.Sx.ev]) rfl) hd2 (J.done (J.thenN (J.seq (J.condF (by simp [lk, Go.Sx.ev]) (J.exit (J.thenX (J.thenX ?_)))))))
    refine fin seen ?_
    have : rem l seen = [] := by
      unfold rem
      rw [List.filter_eq_nil_iff.2 (fun i hi => by simpa using ho i (by simpa using hi))]
      rfl
    rw [this] at hrun
    exact hrun
  | some i =>
    obtain ⟨h1, h2⟩ := ho
    obtain ⟨kv, hkv⟩ : ∃ kv, l[i]? = some kv := ⟨_, List.getElem?_eq_getElem h1⟩
    have hval : nextVal ek ev l (some i) = .tuple #[.bool true, ek kv.1, ev kv.2] := by simp [nextVal, hkv]
    obtain ⟨l1, l2, e1, e2⟩ := rem_pick hkv h2
    have hstep : step kv (mrun step K (rem l (seen ++ [i]))) = some r := by
      rw [e2, ← mrun_pick hc K kv l2 l1, ← e1]; exact hrun
    have hMs : nextM (M.set ji (It b m l.length seen)) ji b m l.length seen (some i) = M.set ji (It b m l.length (seen ++ [i])) := by simp [nextM]
    rw [hval, hMs]
    refine J.quiet (Y.extract (vs := [.bool true, ek kv.1, ev kv.2]) (by simp [lk, Go.Sx.ev]) rfl) hd2 (J.done (J.thenN (J.seq (J.condT (by simp [lk, Go.Sx.ev]) (J.skip (J.thenN ?_))))))
    refine J.mono (round kv i seen _ hkv hstep) fun a w hw => wpr_mono (fun e a' w' q => ?_) hw
    cases e with
    | normal =>
      obtain ⟨hx', hs', ht'⟩ := q
      refine ⟨seen ++ [i], ⟨?_, ?_, hx'⟩, ?_, hs', ht'⟩
      · rw [List.nodup_append]; exact ⟨hnd, by simp, fun a ha b hb => by simp at hb; subst hb; rintro rfl; exact h2 ha⟩
      · intro j hj
        rcases List.mem_append.1 hj with hj | hj
        · exact hlt j hj
        · simp at hj; subst hj; exact h1
      · have : seen.length < l.length := by
          have hsub : (seen ++ [i]).length ≤ (List.range l.length).length := by
            apply List.Nodup.length_le_of_subset
            · rw [List.nodup_append]; exact ⟨hnd, by simp, fun a ha b hb => by simp at hb; subst hb; rintro rfl; exact h2 ha⟩
            · intro j hj
              rcases List.mem_append.1 hj with hj | hj
              · simpa using hlt j hj
              · simp at hj; subst hj; simpa using h1
          simp at hsub; omega
        simp; omega
    | exit id => exact q
    | goto l => exact q
    | ret => exact q
    | panic ch => exact q
    | outgrown => exact q
end
end Go.Sx
end
section
set_option linter.unusedVariables false
set_option linter.unusedSimpArgs false
set_option linter.unusedVariables false
set_option linter.unusedSimpArgs false
namespace Go.Sx
open Go.RowKit
section
variable {P : Program} {rd : Option Nat} {c : Ctx} {n : Sz} {σ σ' : Fr} {M L M' L' : List Fact} {Q : Exit → Act → World → Prop} {ops : Array Oper} {rest : List Oper} {K : Act → World → Prop} {G : Act → World → Prop}
variable {d : Option Tmp} {D : Nat} {ty : TypeId} {pos : String} {aft : Array Edge} {g : Option (Nat × Bool)}
variable {α β : Type} {e : Enc α} {r : Rep α}
/-! ## Slices that are nil -/
/-! ## Calls to which memory is handed over -/
/-- Called where the resources Min and the facts L stand, f returns 'ret x' for some x, and the resources MO x in their place. -/
def MeetsM (P : Program) (f : FuncId) (args : Array Value) (Min L : List Fact) {A : Type} (ret : A → Value) (MO : A → List Fact → List Fact) : Prop :=
  ∀ c : Ctx, St c Min L c.w0 → Calls P f args c.w0 fun e w' => ∃ x : A, e = .returned (ret x) ∧ St c (MO x []) [] w'

theorem MeetsM.of {A : Type} {ret : A → Value} {MO : A → List Fact → List Fact} {f : FuncId} {fn : Func} {code : Code} {vs : List Value} {m : Nat} {Min : List Fact}
    (hf : P.funcs[f]? = some fn) (hb : fn.body = some code) (hn : fn.ntmps = m) (hm : Nat.ble vs.length m = true)
    (h : ∀ c : Ctx, J c ⟨m, []⟩ (frame0 0 vs) Min L (code.wpr none P (bodyPost P fn (Post c ret MO (fun _ l => l))))) : MeetsM P f vs.toArray Min L ret MO := fun c t => by
  have hle : vs.length ≤ m := by simpa using hm
  refine calls_of_wpr hf hb (h c _ _ ⟨rfl, by simp [hn, hle], ?_⟩ t)
  intro t v hv
  obtain ⟨_, h2⟩ := frame0_slot vs 0 t v hv
  rw [Nat.sub_zero] at h2
  have hlt : t < vs.length := by
    rcases Nat.lt_or_ge t vs.length with h' | h'
    · exact h'
    · rw [List.getElem?_eq_none h'] at h2; cases h2
  rw [Array.getElem?_append_left (by simpa using hlt)]
  simpa using h2

/-- the state behind such a call -/
theorem St.callM {w w' : World} {Min Mr M1 : List Fact} {F : Nat → Nat → Prop} {U : Nat → Prop} (ho : Kept c.O c.w0 w) (hF : Own c w (Min ++ Mr) F) (hL : ∀ f ∈ L, f.p w (Free c F))
    (t : St ⟨w, U, fun k => ∃ i, i < Min.length ∧ F i k⟩ M1 [] w') : St c (M1 ++ Mr) L w' := by
  obtain ⟨ho', F', hF', _⟩ := t
  have hsz := ho'.size
  have hbl : ∀ k, k < w.heap.size → (∀ i, i < Min.length → ¬ F i k) → w'.heap[k]? = w.heap[k]? := fun k hk hn => ho'.block k hk (fun ⟨i, hi, hF⟩ => hn i hi hF)
  have hmine : ∀ i k, F' i k → w.heap.size ≤ k ∨ ∃ j, j < Min.length ∧ F j k := fun i k hk => (hF'.rng i k hk).1
  refine ⟨⟨ho'.os.trans ho.os, ho'.tape.trans ho.tape, ho'.output.trans ho.output, Nat.le_trans ho.size hsz, fun k hk hO => ?_⟩,
    fun i k => (i < M1.length ∧ F' i k) ∨ (M1.length ≤ i ∧ F (i - M1.length + Min.length) k), ⟨?_, ?_, ?_⟩, fun f hf => ?_⟩
  · refine (hbl k (Nat.lt_of_lt_of_le hk ho.size) (fun i _ hFi => ?_)).trans (ho.block k hk hO)
    rcases (hF.rng i k hFi).1 with h | h
    · omega
    · exact hO h
  · intro i m hm
    by_cases hi : i < M1.length
    · rw [List.getElem?_append_left hi] at hm
      exact Fact.same (hF'.res i m hm) (fun k hk => .inl ⟨hi, hk⟩) (fun _ _ _ => rfl)
    · rw [List.getElem?_append_right (by omega)] at hm
      have hm' : (Min ++ Mr)[i - M1.length + Min.length]? = some m := by
        rw [List.getElem?_append_right (by omega), Nat.add_sub_cancel]; exact hm
      exact Fact.same (hF.res _ m hm') (fun k hk => .inr ⟨by omega, hk⟩) (fun k hk hl => hbl k hl (fun j hj hFj => by have := hF.dis _ _ k hFj hk; omega))
  · rintro i k (⟨_, hk⟩ | ⟨_, hk⟩)
    · refine ⟨?_, (hF'.rng i k hk).2⟩
      rcases hmine i k hk with h | ⟨j, _, h⟩
      · exact .inl (Nat.le_trans ho.size h)
      · exact (hF.rng j k h).1
    · exact ⟨(hF.rng _ k hk).1, Nat.lt_of_lt_of_le (hF.rng _ k hk).2 hsz⟩
  · rintro i j k (⟨hi, h1⟩ | ⟨hi, h1⟩) (⟨hj, h2⟩ | ⟨hj, h2⟩)
    · exact hF'.dis i j k h1 h2
    · rcases hmine i k h1 with h | ⟨q, hq, h⟩
      · have := (hF.rng _ k h2).2; omega
      · have := hF.dis _ _ k h h2; omega
    · rcases hmine j k h2 with h | ⟨q, hq, h⟩
      · have := (hF.rng _ k h1).2; omega
      · have := hF.dis _ _ k h h1; omega
    · have := hF.dis _ _ k h1 h2; omega
  · refine f.mono (hL f hf) fun k hk hl => ⟨⟨hk.1, ?_⟩, hbl k hl (fun i _ => hk.2 i)⟩
    rintro i (⟨_, h⟩ | ⟨_, h⟩)
    · rcases hmine i k h with h' | ⟨q, _, h'⟩
      · omega
      · exact hk.2 q h'
    · exact hk.2 _ h

/-- the state in which such a call begins -/
theorem St.enterM {w : World} {Min Mr L0 : List Fact} {F : Nat → Nat → Prop} (hF : Own c w (Min ++ Mr) F) (hL : ∀ f ∈ L, f.p w (Free c F)) (hl : LentAll Mr L L0) :
    St ⟨w, fun k => ∀ i, i < Min.length → ¬ F i k, fun k => ∃ i, i < Min.length ∧ F i k⟩ Min L0 w := by
  refine ⟨Kept.refl _, fun i k => i < Min.length ∧ F i k, ⟨fun i m hm => ?_, fun i k hk => ⟨.inr ⟨i, hk⟩, (hF.rng i k hk.2).2⟩, fun i j k h1 h2 => hF.dis i j k h1.2 h2.2⟩, fun f hf => ?_⟩
  · have hi : i < Min.length := by
      rcases Nat.lt_or_ge i Min.length with h' | h'
      · exact h'
      · rw [List.getElem?_eq_none h'] at hm; cases hm
    exact Fact.same (hF.res i m (by rw [List.getElem?_append_left hi]; exact hm)) (fun k hk => ⟨hi, hk⟩) (fun _ _ _ => rfl)
  · refine hl f hf w (Free c F) (fun j k => F (j + Min.length) k) _ hL (fun j m hj => ?_) (fun k hk => ?_) (fun j k hk => ?_)
    · exact hF.res _ m (by rw [List.getElem?_append_right (by omega), Nat.add_sub_cancel]; exact hj)
    · exact ⟨.inl fun i _ => hk.2 i, fun i hi => hk.2 i hi.2⟩
    · exact ⟨.inl fun i hi h => by have := hF.dis _ _ k h hk; omega, fun i hi => by have := hF.dis _ _ k hi.2 hk; omega⟩

theorem Loud.callM {A : Type} {ret : A → Value} {MO : A → List Fact → List Fact} {f : FuncId} {xs : List Operand} {vs : List Value} {ats : Array TypeId} {L0 Min Mr : List Fact} (hb : HasBody P f)
    (hs : MeetsM P f vs.toArray Min L0 ret MO) (hx : xs.map (ev σ) = vs.map some) (hM : SubM M (Min ++ Mr)) (hL : LentAll Mr L L0) (hMO : ∀ x l, MO x l = MO x [] ++ l) :
    Loud P c n σ M L ⟨d, .call ⟨.value (.func f), xs.toArray, ats⟩, ty, pos, aft, g⟩ ret (fun x => MO x Mr) (fun _ => L) := fun a w s t => by
  have hrun : (execOp a.eval ⟨d, .call ⟨.value (.func f), xs.toArray, ats⟩, ty, pos, aft, g⟩).run P w = .ok (.enter f vs.toArray) w := by
    have e := evs s hx
    simp [execOp, resolve, Act.eval, Deferred.ofValue, invoke, hb _ w, e]
  simp only [Oper.wp, hrun, Oper.upon]
  obtain ⟨ho, F, hF, hLF⟩ := t.weak (L' := L) hM (fun _ h => h)
  refine (hs _ (St.enterM hF hLF hL)).mono ?_
  rintro e w' ⟨x, rfl, ht⟩
  refine ⟨x, rfl, ?_⟩
  rw [hMO]
  exact St.callM ho hF hLF ht

/-! ## Calls that are walked in place -/
/-- a call returns a value with which the caller goes on -/
def RetI (n : Sz) (σ : Fr) (D : Nat) (K : Act → World → Prop) (e : Ending) (w : World) : Prop := ∃ v, e = .returned v ∧ ∀ a, Sub n ((D, v) :: σ) a → K a w
/-- a call returns, at one of several places -/
def MidR {A B : Type} (c : Ctx) (C : A → Prop) (val : A → B → Value) (MI LI : A → B → List Fact) (e : Ending) (w : World) : Prop := ∃ x y, C x ∧ e = .returned (val x y) ∧ St c (MI x y) (LI x y) w

theorem frame0_sub {fn : Func} {vs : List Value} {m : Nat} (hn : fn.ntmps = m) (hm : Nat.ble vs.length m = true) : Sub ⟨m, []⟩ (frame0 0 vs) { tmps := vs.toArray ++ Array.replicate (fn.ntmps - vs.toArray.size) undef, defers := [] } := by
  have hle : vs.length ≤ m := by simpa using hm
  refine ⟨rfl, by simp [hn, hle], ?_⟩
  intro t v hv
  obtain ⟨_, h2⟩ := frame0_slot vs 0 t v hv
  rw [Nat.sub_zero] at h2
  have hlt : t < vs.length := by
    rcases Nat.lt_or_ge t vs.length with h' | h'
    · exact h'
    · rw [List.getElem?_eq_none h'] at h2; cases h2
  rw [Array.getElem?_append_left (by simpa using hlt)]
  simpa using h2

/-- what is asked of a call, so that it can be walked in place -/
structure Enter (P : Program) (c : Ctx) (n : Sz) (σ : Fr) (M L : List Fact) (o : Oper) (f : FuncId) (vs : List Value) : Prop where
  run : ∀ a w, Sub n σ a → St c M L w → (execOp a.eval o).run P w = .ok (.enter f vs.toArray) w

theorem Enter.fn {f : FuncId} {xs : List Operand} {vs : List Value} {ats : Array TypeId} (hb : HasBody P f) (hx : xs.map (ev σ) = vs.map some) : Enter P c n σ M L ⟨d, .call ⟨.value (.func f), xs.toArray, ats⟩, ty, pos, aft, g⟩ f vs := ⟨fun a w s _ => by
  have e := evs s hx
  simp [execOp, resolve, Act.eval, Deferred.ofValue, invoke, hb _ w, e]⟩
theorem Enter.clo {f : FuncId} {t : Tmp} {xs : List Operand} {us cs vs : List Value} {ats : Array TypeId} (hb : HasBody P f) (ht : lk σ t = some (.func (.func f) #[] cs.toArray)) (hx : xs.map (ev σ) = us.map some) (hv : us ++ cs = vs) : Enter P c n σ M L ⟨d, .call ⟨.value (.tmp t), xs.toArray, ats⟩, ty, pos, aft, g⟩ f vs := ⟨fun a w s _ => by
  have e := evs s hx
  have e2 : a.eval (.tmp t) = .func (.func f) #[] cs.toArray := s.eval (x := .tmp t) ht
  subst hv
  simp [execOp, resolve, e2, Deferred.ofValue, invoke, hb _ w, e]⟩

theorem J.inl {f : FuncId} {fn : Func} {code : Code} {vs : List Value} {m : Nat} {op : Op} (he : Enter P c n σ M L ⟨some D, op, ty, pos, aft, none⟩ f vs) (hf : P.funcs[f]? = some fn) (hb : fn.body = some code) (hn : fn.ntmps = m) (hm : Nat.ble vs.length m = true) (hD : Nat.blt D n.sz = true)
    (h : J c ⟨m, []⟩ (frame0 0 vs) M L (code.wpr none P (bodyPost P fn (RetI n σ D (wpList P ops Q rest))))) : J c n σ M L (wpList P ops Q (⟨some D, op, ty, pos, aft, none⟩ :: rest)) := fun a w s t => by
  refine wpList_take rfl ?_
  have hrun := he.run a w s t
  simp only [Oper.wp, hrun, Oper.upon]
  refine (calls_of_wpr hf hb (h _ w (frame0_sub hn hm) t)).mono ?_
  rintro e w' ⟨v, rfl, hk⟩
  exact hk _ (s.put D v hD)

theorem J.inlM {A B : Type} {f : FuncId} {fn : Func} {code : Code} {vs : List Value} {m : Nat} {op : Op} (C : A → Prop) (val : A → B → Value) (MI LI : A → B → List Fact) (he : Enter P c n σ M L ⟨some D, op, ty, pos, aft, none⟩ f vs) (hf : P.funcs[f]? = some fn) (hb : fn.body = some code) (hn : fn.ntmps = m) (hm : Nat.ble vs.length m = true) (hD : Nat.blt D n.sz = true)
    (h1 : J c ⟨m, []⟩ (frame0 0 vs) M L (code.wpr none P (bodyPost P fn (MidR c C val MI LI)))) (h2 : ∀ a b, C a → J c n ((D, val a b) :: σ) (MI a b) (LI a b) (wpList P ops Q rest)) : J c n σ M L (wpList P ops Q (⟨some D, op, ty, pos, aft, none⟩ :: rest)) := fun a w s t => by
  refine wpList_take rfl ?_
  have hrun := he.run a w s t
  simp only [Oper.wp, hrun, Oper.upon]
  refine (calls_of_wpr hf hb (h1 _ w (frame0_sub hn hm) t)).mono ?_
  rintro e w' ⟨x, y, hC, rfl, ht⟩
  exact h2 x y hC _ w' (s.put D _ hD) ht

/-! the results of a function -/
def Res (P : Program) (c : Ctx) (n : Sz) (σ : Fr) (M L : List Fact) (fn : Func) (v : Value) : Prop := ∀ a w, Sub n σ a → St c M L w → (results fn a.tmps).run P w = .ok v w
variable {fn : Func}
theorem Res.r0 (hres : fn.results = #[]) : Res P c n σ M L fn (.tuple #[]) := fun a w _ _ => by simp [results, hres]
theorem Res.r1 {r1 : ResultVar} {v1 : Value} (hres : fn.results = #[r1]) (h1 : RV P c n σ M L r1 v1) : Res P c n σ M L fn v1 := fun a w s t => by
  have := h1 a w s t
  simp only [results_rv, hres]
  simp [this]
theorem Res.r2 {r1 r2 : ResultVar} {v1 v2 : Value} (hres : fn.results = #[r1, r2]) (h1 : RV P c n σ M L r1 v1) (h2 : RV P c n σ M L r2 v2) : Res P c n σ M L fn (.tuple #[v1, v2]) := fun a w s t => by
  have h1 := h1 a w s t
  have h2 := h2 a w s t
  simp only [results_rv, hres]
  simp [h1, h2]
theorem Res.r3 {r1 r2 r3 : ResultVar} {v1 v2 v3 : Value} (hres : fn.results = #[r1, r2, r3]) (h1 : RV P c n σ M L r1 v1) (h2 : RV P c n σ M L r2 v2) (h3 : RV P c n σ M L r3 v3) : Res P c n σ M L fn (.tuple #[v1, v2, v3]) := fun a w s t => by
  have h1 := h1 a w s t
  have h2 := h2 a w s t
  have h3 := h3 a w s t
  simp only [results_rv, hres]
  simp [h1, h2, h3]

theorem J.retM {A B : Type} {m : Sz} {v : Value} {ex : Exit} {C : A → Prop} {val : A → B → Value} {MI LI : A → B → List Fact} (x : A) (y : B) (hC : C x) (hex : ex = .ret ∨ ex = .normal) (hr : Res P c m σ' M L fn v) (hv : v = val x y) (hM : SubM M (MI x y)) (hL : LentAll [] L (LI x y)) (hds : m.ds = [] := by rfl) :
    J c m σ' M L (bodyPost P fn (MidR c C val MI LI) ex) := fun a w s t => by
  exact body_end hex (s.defers.trans hds) (hr a w s t) ⟨x, y, hC, by rw [hv], t.weakE hM hL⟩
end
end Go.Sx
end
section
set_option linter.unusedVariables false
set_option linter.unusedSimpArgs false
set_option linter.unusedVariables false
set_option linter.unusedSimpArgs false
namespace Go.Sx
open Go.RowKit
section
variable {P : Program} {rd : Option Nat} {c : Ctx} {n : Sz} {σ σ' : Fr} {M L M' L' : List Fact} {Q : Exit → Act → World → Prop} {ops : Array Oper} {rest : List Oper} {K : Act → World → Prop} {G : Act → World → Prop}
variable {d : Option Tmp} {D : Nat} {ty : TypeId} {pos : String} {aft : Array Edge} {g : Option (Nat × Bool)}
variable {α β : Type} {e : Enc α} {r : Rep α}
/-- the capacity is at least m -/
def capGe (v : Value) (m : Nat) : Prop := match v with
  | .slice _ _ cap => m ≤ cap
  | _ => False

theorem Know.cap (q : Nat) {v : Value} {xs : List α} (hf : M[q]? = some (Ar e v xs)) : ∀ c w, St c M L w → capGe v xs.length := fun c w t => by
  obtain ⟨F, _, _, h⟩ := t.res hf
  rcases h with ⟨rfl, rfl⟩ | ⟨b, off, cap, T, cur, rfl, _, _, h, _⟩
  · exact Nat.le_refl _
  · exact h

theorem capGe.slq {v : Value} {m k q : Nat} (h : capGe v m) : capGe (slq v 0 k q) m := by
  cases v <;> simp_all [capGe, Go.Sx.slq]

/-! ## two rows of one slice -/
theorem at_set_ne {α : Type} [Inhabited α] (l : List α) {j k : Int} (y : α) (h : j.toNat ≠ k.toNat) : at' (l.set j.toNat y) k = at' l k := by
  rw [at', at', List.getD_eq_getElem?_getD, List.getD_eq_getElem?_getD, List.getElem?_set_ne h]

/-- append to a row where another one has been appended to -/
theorem Loud.appendRow2 [Tab P] (i : Nat) {r : Rep α} (hfit : e.Fits r) {x y : Operand} {u u0 : Value} {k j : Int} {vs : List Value} {xss : List (List α)} {ys ys0 : List α} {T E : TypeId} {s1 s2 s3 s4 : Nat} {z z' : Value} {dE : TypeDesc} (hx : ev σ x = some (at' vs k)) (hy : ev σ y = some u) (hf : M[i]? = some (Rws e (vs.set j.toNat u0) (xss.set j.toNat ys0))) (hg : Lent M L (Sl r u ys))
    (hT : Tab.tab P T = some ⟨.slice E, s1, s2, z⟩) (hE : Tab.tab P E = some ⟨dE, s3, s4, z'⟩) (h3 : e.sz = s3) (h4 : Nat.ble s4 1024 = true) (h0 : 0 ≤ k ∧ k < xss.length) (hl : ((at' xss k).length : Int) + ys.length ≤ 1099511627) (hz : z'.cells.size = s3) (hne : j.toNat ≠ k.toNat) :
    Loud P c n σ M L ⟨d, .call ⟨.builtin .append, #[x, y], #[T, T]⟩, ty, pos, aft, g⟩ (fun v' : Value => v') (fun v' => M.set i (Rws e ((vs.set j.toNat u0).set k.toNat v') ((xss.set j.toNat ys0).set k.toNat (at' xss k ++ ys)))) (fun _ => L) := by
  have ex : at' (xss.set j.toNat ys0) k = at' xss k := at_set_ne _ _ hne
  have := Loud.appendRowL (P := P) (c := c) (n := n) (σ := σ) (M := M) (L := L) (d := d) (ty := ty) (pos := pos) (aft := aft) (g := g) (x := x) (y := y) (u := u) (k := k) (vs := vs.set j.toNat u0) (xss := xss.set j.toNat ys0) (ys := ys) i hfit (by rw [at_set_ne _ _ hne]; exact hx) hy hf hg hT hE h3 h4 (by simpa using h0) (by rw [ex]; exact hl) hz
  rwa [ex] at this

theorem Know.oneRow2 (q : Nat) {vs : List Value} {xss : List (List α)} {k j : Int} {u u2 : Value} (hr : M[q]? = some (Rws e ((vs.set k.toNat u).set j.toNat u2) xss)) (hne : k.toNat ≠ j.toNat) (h : 0 ≤ k ∧ k < xss.length) : ∀ c w, St c M L w → Go.Sx.one u = true := fun c w t => by
  obtain ⟨S, hl, G', g1, _⟩ := t.res hr
  have hlt : k.toNat < vs.length := by simp at hl; omega
  obtain ⟨_, _, hh⟩ := g1 k.toNat u _ (by rw [List.getElem?_set_ne (Ne.symm hne), List.getElem?_set_self hlt]) (List.getElem?_eq_getElem (by omega))
  rcases hh with ⟨hu, _⟩ | ⟨b, off, cap, T, cur, hu, _⟩ <;> (rw [hu]; rfl)

/-- a loud operation without a slot -/
theorem J.loud0 {A : Type} {val : A → Value} {M' L' : A → List Fact} {op : Op} (ho : Loud P c n σ M L ⟨none, op, ty, pos, aft, none⟩ val M' L') (h : ∀ x, J c n σ (M' x) (L' x) (wpList P ops Q rest)) :
    J c n σ M L (wpList P ops Q (⟨none, op, ty, pos, aft, none⟩ :: rest)) := fun a w s t =>
  wpList_take rfl (nwp_Q (nwp_mono (fun a' w' ⟨x, he, ht⟩ => by subst he; exact h x _ w' s ht) (ho a w s t)))

/-! ## Small arrays as values -/
end
end Go.Sx
end
section
set_option linter.unusedVariables false
set_option linter.unusedSimpArgs false
set_option linter.unusedVariables false
set_option linter.unusedSimpArgs false
namespace Go.Sx
open Go.RowKit
section
variable {P : Program} {rd : Option Nat} {c : Ctx} {n : Sz} {σ σ' : Fr} {M L M' L' : List Fact} {Q : Exit → Act → World → Prop} {ops : Array Oper} {rest : List Oper} {K : Act → World → Prop} {G : Act → World → Prop}
variable {d : Option Tmp} {D : Nat} {ty : TypeId} {pos : String} {aft : Array Edge} {g : Option (Nat × Bool)}
variable {α β : Type} {e : Enc α} {r : Rep α}
/-- a store into an element of one cell -/
theorem Loud.storeA [Tab P] (j : Nat) {T : TypeId} {s2 : Nat} {z : Value} {dT : TypeDesc} {x y : Operand} {v u : Value} {i : Int} {xs : List α} (yv : α) (hx : ev σ x = some (elq v (i.toNat * 1))) (hy : ev σ y = some u) (hu : e.enc yv = [u]) (h1u : one u = true)
    (hf : M[j]? = some (Ar e v xs)) (hT : Tab.tab P T = some ⟨dT, 1, s2, z⟩) (hq : e.sz = 1) (h0 : 0 ≤ i) (h1 : i < xs.length) :
    Loud P c n σ M L ⟨none, .store T x y, ty, pos, aft, none⟩ (fun _ : Unit => undef) (fun _ => M.set j (Ar e v (xs.set i.toNat yv))) (fun _ => L) := fun a w s t => by
  obtain ⟨F, hF⟩ := t.res hf
  have hi : i.toNat < xs.length := by omega
  have hget : xs[i.toNat]? = some xs[i.toNat] := List.getElem?_eq_getElem hi
  have hne : xs ≠ [] := by intro e; subst e; simp at hi
  obtain ⟨p, hp⟩ : ∃ p, e.enc xs[i.toNat] = [p] := List.length_eq_one_iff.1 ((e.len _).trans hq)
  have hcell := ArR.cell hF hget (j := 0) (u := p) (by rw [hp]; rfl)
  rw [hq, Nat.add_zero, Nat.mul_one] at hcell
  rw [Nat.mul_one] at hx
  have hfree := ArR.free hF hne i.toNat
  have hrun : (execOp a.eval ⟨none, .store T x y, ty, pos, aft, none⟩).run P w = .ok .skip (w.setCell (elA v i.toNat) u) := by
    simp only [execOp, s.eval hx, s.eval hy, elq]
    simp [run_store1 (Tab.ok hT) rfl h1u hcell hfree]
  simp only [Oper.wp, hrun, Oper.upon]
  refine ⟨(), trivial, t.upd hf rfl rfl rfl (by simp [World.setCell]) fun F hF _ => ?_⟩
  obtain ⟨hl, h1, hh⟩ := hF
  rcases hh with ⟨_, hh⟩ | ⟨b, off, cap, T', cur, hv, hFb, hb, hk, hc, ht⟩
  · exact absurd hh hne
  · subst hv
    have ha : elA (.slice (some ⟨b, off, none⟩) xs.length cap) i.toNat = ⟨b, off + i.toNat, none⟩ := by simp [elA, add_none]
    rw [ha]
    refine ⟨fun k _ hk' => Below.heap_setCell _ _ _ _ (fun e => hk' (by simp only at e; subst e; exact hFb)), F, ⟨by simpa using hl, ?_, .inr ⟨b, off, cap, T', cur.setIfInBounds (off + i.toNat) u, by simp, hFb, ?_, by simpa using hk, by simpa using hc, ?_⟩⟩, fun _ h => .inl h⟩
    · rw [cellsOf_set1 hq hu, List.all_eq_true]
      intro q hq'
      rcases List.mem_or_eq_of_mem_set hq' with h' | h'
      · exact List.all_eq_true.1 h1 q h'
      · rw [h']; exact h1u
    · simp [World.setCell, Array.getElem?_modify, hb]
    · rw [cellsOf_set1 hq hu, ← ht, Array.toList_setIfInBounds, List.length_set, ← take_set]
      congr 1
      rw [List.drop_set, if_neg (by omega), Nat.add_sub_cancel_left]


theorem Loud.store1 [Tab P] (i : Nat) {T T' : TypeId} {s2 : Nat} {z : Value} {dT : TypeDesc} {x y : Operand} {b o : Nat} {cs : List Value} {v : Value} (hx : ev σ x = some (.pointer (some ⟨b, o, none⟩)))
    (hy : ev σ y = some v) (hv : one v = true) (hM : M[i]? = some (Blk b cs T')) (hT : Tab.tab P T = some ⟨dT, 1, s2, z⟩) (ho : Nat.blt o cs.length = true) :
    Loud P c n σ M L ⟨none, .store T x y, ty, pos, aft, none⟩ (fun _ : Unit => undef) (fun _ => M.set i (Blk b (cs.set o v) T')) (fun _ => L) := fun a w s t => by
  obtain ⟨F, hF⟩ := t.res hM
  have hlt : o < cs.length := by simpa [Nat.blt_eq] using ho
  have hrun : (execOp a.eval ⟨none, .store T x y, ty, pos, aft, none⟩).run P w = .ok .skip (w.setCell ⟨b, o, none⟩ v) := by
    simp [execOp, s.eval hx, s.eval hy, run_store1 (Tab.ok hT) rfl hv (Blk.cell hF (List.getElem?_eq_getElem hlt)) (Blk.free hF o)]
  simp only [Oper.wp, hrun, Oper.upon]
  exact ⟨(), trivial, t.store hM v⟩

theorem Loud.storeAll [Tab P] (i : Nat) {T T' : TypeId} {s2 : Nat} {z : Value} {dT : TypeDesc} {x y : Operand} {b : Nat} {cs vs : List Value} (hx : ev σ x = some (.pointer (some ⟨b, 0, none⟩)))
    (hy : ev σ y = some (.agg vs.toArray)) (hv : vs.all one = true) (hM : M[i]? = some (Blk b cs T')) (hT : Tab.tab P T = some ⟨dT, vs.length, s2, z⟩) (hl : Nat.beq vs.length cs.length = true) :
    Loud P c n σ M L ⟨none, .store T x y, ty, pos, aft, none⟩ (fun _ : Unit => undef) (fun _ => M.set i (Blk b vs T')) (fun _ => L) := fun a w s t => by
  obtain ⟨F, hF⟩ := t.res hM
  have hlen : vs.length = cs.length := Nat.eq_of_beq_eq_true hl
  have hone : ∀ v ∈ vs, v.oneCell' = true := fun v hvm => one_oneCell (by simpa using List.all_eq_true.1 hv v hvm)
  obtain ⟨iT, hiT, hsz, _, _⟩ := (Tab.ok hT).info
  have hst := run_storeVar_row (P := P) w b T' T cs.toArray vs.toArray hF.2 (by simp [hiT, hsz]) (by simp [hlen]) (by simpa using hone)
  have hrun : (execOp a.eval ⟨none, .store T x y, ty, pos, aft, none⟩).run P w = .ok .skip (w.setRow b vs.toArray) := by
    simp [execOp, s.eval hx, s.eval hy, Instr.storeAt, Instr.sureAddr, hst]
  simp only [Oper.wp, hrun, Oper.upon]
  exact ⟨(), trivial, t.fill hM⟩

theorem Loud.storeRow [Tab P] (j q : Nat) {T : TypeId} {s2 : Nat} {z : Value} {dT : TypeDesc} {x y : Operand} {v u : Value} {i : Int} {vs vs' : List Value} {xss : List (List α)} (h : 0 ≤ i ∧ i < xss.length) (hx : ev σ x = some (elq v (i.toNat * 1))) (hy : ev σ y = some u)
    (hf : M[j]? = some (Ar Enc.raw v vs)) (hr : M[q]? = some (Rws e vs' xss)) (hl : vs'.length = vs.length) (h1u : one u = true) (hT : Tab.tab P T = some ⟨dT, 1, s2, z⟩) :
    Loud P c n σ M L ⟨none, .store T x y, ty, pos, aft, none⟩ (fun _ : Unit => undef) (fun _ => M.set j (Ar Enc.raw v (vs.set i.toNat u))) (fun _ => L) := fun a w s t => by
  have hlen : vs'.length = xss.length := by obtain ⟨_, h⟩ := t.res hr; exact h.1
  exact Loud.storeA j u hx hy rfl h1u hf hT rfl h.1 (by omega) a w s t

section
variable {l : List Oper} {m : List Nat} {k0 : Nat} {H Bs : List (Nat × List Fact × List Fact)} {rs : List Nat}
/-- a loud operation without a slot, in a region that draws -/
theorem JR.loud0 {A : Type} {val : A → Value} {M' L' : A → List Fact} {i : Nat} {op : Op}
    (hi : l[i]? = some ⟨none, op, ty, pos, aft, none⟩) (hk : Nat.blt i k0 = true) (hl : loudOp op = true) (ho : Loud P c n σ M L ⟨none, op, ty, pos, aft, none⟩ val M' L')
    (hB : ∀ x, BsOk (before m i) (M' x) (L' x) Bs) (h : ∀ x, JR c n σ (M' x) (L' x) ((i, M, L) :: H) Bs (RW P l.toArray Q (before m) (louds l) k0 rs)) :
    JR c n σ M L H Bs (RW P l.toArray Q (before m) (louds l) k0 (i :: rs)) := fun a w X Y s t hX hY => by
  have hi' : l.toArray[i]? = some ⟨none, op, ty, pos, aft, none⟩ := by simpa using hi
  simp only [RW, hi']
  rw [if_pos (by simp [Region.wanted])]
  refine .inr (.inr ⟨by simpa [Nat.blt_eq] using hk, by simp [louds, hi, hl], nwp_mono ?_ (ho a w s t)⟩)
  rintro a' w' ⟨x, rfl, ht⟩
  exact ⟨(hB x).use ht hY, h x _ w' _ Y s ht ⟨rfl, t, hX⟩ hY⟩
end
/-! ## calls that are walked in place -/
theorem Loud.inlM {A B : Type} {f : FuncId} {fn : Func} {code : Code} {vs : List Value} {m : Nat} {op : Op} (C : A → Prop) (val : A → B → Value) (MI LI : A → B → List Fact) (he : Enter P c n σ M L ⟨d, op, ty, pos, aft, g⟩ f vs) (hf : P.funcs[f]? = some fn) (hb : fn.body = some code) (hn : fn.ntmps = m) (hm : Nat.ble vs.length m = true)
    (h1 : J c ⟨m, []⟩ (frame0 0 vs) M L (code.wpr none P (bodyPost P fn (MidR c C val MI LI)))) :
    Loud P c n σ M L ⟨d, op, ty, pos, aft, g⟩ (fun x : { p : A × B // C p.1 } => val x.1.1 x.1.2) (fun x => MI x.1.1 x.1.2) (fun x => LI x.1.1 x.1.2) := fun a w s t => by
  have hrun := he.run a w s t
  simp only [Oper.wp, hrun, Oper.upon]
  refine (calls_of_wpr hf hb (h1 _ w (frame0_sub hn hm) t)).mono ?_
  rintro e w' ⟨x, y, hC, rfl, ht⟩
  exact ⟨⟨(x, y), hC⟩, rfl, ht⟩

theorem J.inlC {A B : Type} {f : FuncId} {fn : Func} {code : Code} {vs : List Value} {m : Nat} {op : Op} (C : A → Prop) (val : A → B → Value) (MI LI : A → B → List Fact) (he : Enter P c n σ M L ⟨some D, op, ty, pos, aft, none⟩ f vs) (hf : P.funcs[f]? = some fn) (hb : fn.body = some code) (hn : fn.ntmps = m) (hm : Nat.ble vs.length m = true) (hD : Nat.blt D n.sz = true)
    (h1 : J c ⟨m, []⟩ (frame0 0 vs) M L (code.wpr none P (bodyPost P fn (MidR c C val MI LI)))) (h2 : ∀ a b, C a → J c n ((D, val a b) :: σ) (MI a b) (LI a b) (wpList P ops Q rest)) : J c n σ M L (wpList P ops Q (⟨some D, op, ty, pos, aft, none⟩ :: rest)) :=
  J.loud (Loud.inlM C val MI LI he hf hb hn hm h1) hD fun ⟨⟨a, b⟩, hC⟩ => h2 a b hC
theorem J.inlCG {A B : Type} {f : FuncId} {fn : Func} {code : Code} {vs : List Value} {m : Nat} {op : Op} {j : Nat} {bo : Bool} (C : A → Prop) (val : A → B → Value) (MI LI : A → B → List Fact) (hg : gv ops σ j = some bo) (he : Enter P c n σ M L ⟨some D, op, ty, pos, aft, some (j, bo)⟩ f vs) (hf : P.funcs[f]? = some fn) (hb : fn.body = some code) (hn : fn.ntmps = m) (hm : Nat.ble vs.length m = true) (hD : Nat.blt D n.sz = true)
    (h1 : J c ⟨m, []⟩ (frame0 0 vs) M L (code.wpr none P (bodyPost P fn (MidR c C val MI LI)))) (h2 : ∀ a b, C a → J c n ((D, val a b) :: σ) (MI a b) (LI a b) (wpList P ops Q rest)) : J c n σ M L (wpList P ops Q (⟨some D, op, ty, pos, aft, some (j, bo)⟩ :: rest)) :=
  J.loudG hg (Loud.inlM C val MI LI he hf hb hn hm h1) hD fun ⟨⟨a, b⟩, hC⟩ => h2 a b hC
section
variable {l : List Oper} {mm : List Nat} {k0 : Nat} {H Bs : List (Nat × List Fact × List Fact)} {rs : List Nat}
theorem JR.inlC {A B : Type} {i : Nat} {f : FuncId} {fn : Func} {code : Code} {vs : List Value} {m : Nat} {op : Op} (C : A → Prop) (val : A → B → Value) (MI LI : A → B → List Fact) (hi : l[i]? = some ⟨some D, op, ty, pos, aft, none⟩) (hk : Nat.blt i k0 = true) (hl : loudOp op = true) (he : Enter P c n σ M L ⟨some D, op, ty, pos, aft, none⟩ f vs) (hf : P.funcs[f]? = some fn) (hb : fn.body = some code) (hn : fn.ntmps = m) (hm : Nat.ble vs.length m = true) (hD : Nat.blt D n.sz = true)
    (hB : ∀ a b, BsOk (before mm i) (MI a b) (LI a b) Bs) (h1 : J c ⟨m, []⟩ (frame0 0 vs) M L (code.wpr none P (bodyPost P fn (MidR c C val MI LI)))) (h2 : ∀ a b, C a → JR c n ((D, val a b) :: σ) (MI a b) (LI a b) ((i, M, L) :: H) Bs (RW P l.toArray Q (before mm) (louds l) k0 rs)) :
    JR c n σ M L H Bs (RW P l.toArray Q (before mm) (louds l) k0 (i :: rs)) :=
  JR.loud hi hk hl (Loud.inlM C val MI LI he hf hb hn hm h1) hD (fun _ => hB _ _) fun ⟨⟨a, b⟩, hC⟩ => h2 a b hC
theorem JR.inlCG {A B : Type} {i j : Nat} {bo : Bool} {f : FuncId} {fn : Func} {code : Code} {vs : List Value} {m : Nat} {op : Op} (C : A → Prop) (val : A → B → Value) (MI LI : A → B → List Fact) (hi : l[i]? = some ⟨some D, op, ty, pos, aft, some (j, bo)⟩) (hk : Nat.blt i k0 = true) (hl : loudOp op = true) (hg : gv l.toArray σ j = some bo) (he : Enter P c n σ M L ⟨some D, op, ty, pos, aft, some (j, bo)⟩ f vs) (hf : P.funcs[f]? = some fn) (hb : fn.body = some code) (hn : fn.ntmps = m) (hm : Nat.ble vs.length m = true) (hD : Nat.blt D n.sz = true)
    (hB : ∀ a b, BsOk (before mm i) (MI a b) (LI a b) Bs) (h1 : J c ⟨m, []⟩ (frame0 0 vs) M L (code.wpr none P (bodyPost P fn (MidR c C val MI LI)))) (h2 : ∀ a b, C a → JR c n ((D, val a b) :: σ) (MI a b) (LI a b) ((i, M, L) :: H) Bs (RW P l.toArray Q (before mm) (louds l) k0 rs)) :
    JR c n σ M L H Bs (RW P l.toArray Q (before mm) (louds l) k0 (i :: rs)) :=
  JR.loudG hi hk hl hg (Loud.inlM C val MI LI he hf hb hn hm h1) hD (fun _ => hB _ _) fun ⟨⟨a, b⟩, hC⟩ => h2 a b hC
end
/-! ## places inside elements -/
theorem Y.indexArrC [Tab P] {T E : TypeId} {k s1 s2 s3 s4 : Nat} {z z' : Value} {dE : TypeDesc} {x y : Operand} {b : Nat} {i : Int} (j : Nat) (hx : ev σ x = some (.pointer (some ⟨b, 0, none⟩))) (hy : ev σ y = some (.int .i64 i))
    (hT : Tab.tab P T = some ⟨.array k E, s1, s2, z⟩) (hE : Tab.tab P E = some ⟨dE, s3, s4, z'⟩) (h3 : (s3 == 0) = false) (hi : i = (j : Int)) (hj : Nat.blt j k = true) :
    Y P c n σ M L ⟨d, .indexAddr T x y, ty, pos, aft, g⟩ (.pointer (some ⟨b, j * s3, none⟩)) := by
  have hj' : j < k := by simpa [Nat.blt_eq] using hj
  have := Y.indexArr (P := P) (c := c) (n := n) (σ := σ) (M := M) (L := L) (d := d) (ty := ty) (pos := pos) (aft := aft) (g := g) (i := i) hx hy hT hE h3 (by omega)
  rwa [show i.toNat = j by omega] at this

theorem Y.indexEl [Tab P] {T E : TypeId} {k s1 s2 s3 s4 : Nat} {z z' : Value} {dE : TypeDesc} {x y : Operand} {v : Value} {o : Nat} {i : Int} (hx : ev σ x = some (elq v o)) (hy : ev σ y = some (.int .i64 i))
    (hT : Tab.tab P T = some ⟨.array k E, s1, s2, z⟩) (hE : Tab.tab P E = some ⟨dE, s3, s4, z'⟩) (_h3 : (s3 == 0) = false) (h : 0 ≤ i ∧ i < (k : Int)) :
    Y P c n σ M L ⟨d, .indexAddr T x y, ty, pos, aft, g⟩ (elq v (o + i.toNat * s3)) := fun a w s t => by
  simp [execOp, s.eval hx, s.eval hy, Instr.indexAt, asIntOf, (Tab.ok hT).run_und w, h, Instr.sureAddr, elq, (Tab.ok hE).run_size w, elA_add]

theorem Y.nilCheckB {x : Operand} {b o : Nat} (hx : ev σ x = some (.pointer (some ⟨b, o, none⟩))) : Y P c n σ M L ⟨d, .nilCheck x, ty, pos, aft, g⟩ (.pointer (some ⟨b, o, none⟩)) := fun a w s t => by
  simp [execOp, s.eval hx]

/-! ## stores of whole elements and of their parts -/
/-- the cells us are laid into element i from cell o on -/
theorem Loud.storeE [Tab P] [Inhabited α] (j : Nat) {T : TypeId} {s2 k o q : Nat} {z : Value} {dT : TypeDesc} {x y : Operand} {v u : Value} {us : List Value} {i : Int} {xs : List α} (yv : α) (h : 0 ≤ i ∧ i < xs.length) (hx : ev σ x = some (elq v (i.toNat * q + o))) (hy : ev σ y = some u)
    (hf : M[j]? = some (Ar e v xs)) (hq : e.sz = q) (hu : u.cells = us.toArray) (hk : us.length = k) (ho : Nat.ble (o + k) q = true) (hyv : e.enc yv = (e.enc (at' xs i)).take o ++ us ++ (e.enc (at' xs i)).drop (o + k)) (h1u : us.all one = true) (hT : Tab.tab P T = some ⟨dT, k, s2, z⟩) :
    Loud P c n σ M L ⟨none, .store T x y, ty, pos, aft, none⟩ (fun _ : Unit => undef) (fun _ => M.set j (Ar e v (xs.set i.toNat yv))) (fun _ => L) := fun a w s t => by
  subst hq hk
  have hok : o + us.length ≤ e.sz := by simpa using ho
  have hi : i.toNat < xs.length := by omega
  have t0 := t
  obtain ⟨hoo, FF, hO, hLL⟩ := t0
  obtain ⟨h0, hone, hh⟩ := hO.res j _ hf
  rcases hh with ⟨_, rfl⟩ | ⟨b, off, cap, T', cur, rfl, hFb, hbk, hcp, hc, ht⟩
  · simp at hi
  -- the parts of the row
  obtain ⟨l, x0, tl, hxs, hl⟩ : ∃ l x0 tl, xs = l ++ x0 :: tl ∧ l.length = i.toNat := ⟨xs.take i.toNat, xs[i.toNat], xs.drop (i.toNat + 1), by rw [List.getElem_cons_drop, List.take_append_drop], by simp; omega⟩
  have hat : at' xs i = x0 := by
    rw [at', List.getD_eq_getElem?_getD, ← hl, hxs, List.getElem?_append_right (Nat.le_refl _)]; simp
  rw [hat] at hyv
  have eE := e.len x0
  have eA : (cellsOf e l).length = i.toNat * e.sz := by rw [cellsOf_length, hl]
  have hcells : cellsOf e xs = cellsOf e l ++ (e.enc x0 ++ cellsOf e tl) := by rw [hxs]; simp [cellsOf]
  have hset : cellsOf e (xs.set i.toNat yv) = cellsOf e l ++ (e.enc yv ++ cellsOf e tl) := by
    have : xs.set i.toNat yv = l ++ yv :: tl := by rw [hxs, ← hl, List.set_append_right _ _ (Nat.le_refl _)]; simp
    rw [this]; simp [cellsOf]
  have hmul : xs.length * e.sz ≤ cap * e.sz := Nat.mul_le_mul_right _ hcp
  obtain ⟨Hd, R, hcur, hH⟩ : ∃ Hd R, cur.toList = Hd ++ (cellsOf e l ++ (e.enc x0 ++ (cellsOf e tl ++ R))) ∧ Hd.length = off := by
    refine ⟨cur.toList.take off, (cur.toList.drop off).drop (xs.length * e.sz), ?_, by simp; omega⟩
    have e1 : cellsOf e l ++ (e.enc x0 ++ (cellsOf e tl ++ (cur.toList.drop off).drop (xs.length * e.sz))) = cur.toList.drop off := by
      have : cellsOf e l ++ (e.enc x0 ++ (cellsOf e tl ++ (cur.toList.drop off).drop (xs.length * e.sz))) = cellsOf e xs ++ (cur.toList.drop off).drop (xs.length * e.sz) := by rw [hcells]; simp
      rw [this, ← ht, List.take_append_drop]
    rw [e1, List.take_append_drop]
  have hsize : cur.size = cur.toList.length := by simp
  have hp1 : cur.toList.take (off + (i.toNat * e.sz + o)) = Hd ++ (cellsOf e l ++ (e.enc x0).take o) := by
    have : cur.toList = (Hd ++ (cellsOf e l ++ (e.enc x0).take o)) ++ ((e.enc x0).drop o ++ (cellsOf e tl ++ R)) := by
      rw [hcur, List.append_assoc, List.append_assoc, ← List.append_assoc ((e.enc x0).take o), List.take_append_drop]
    rw [this]
    exact List.take_left' (by simp [hH, eA, eE]; omega)
  have hp2 : cur.toList.drop (off + (i.toNat * e.sz + o) + us.length) = (e.enc x0).drop (o + us.length) ++ (cellsOf e tl ++ R) := by
    have : cur.toList = (Hd ++ (cellsOf e l ++ (e.enc x0).take (o + us.length))) ++ ((e.enc x0).drop (o + us.length) ++ (cellsOf e tl ++ R)) := by
      rw [hcur, List.append_assoc, List.append_assoc, ← List.append_assoc ((e.enc x0).take (o + us.length)), List.take_append_drop]
    rw [this]
    exact List.drop_left' (by simp [hH, eA, eE]; omega)
  have hbound : (i.toNat + 1) * e.sz ≤ xs.length * e.sz := Nat.mul_le_mul_right _ (by omega)
  have hb2 : (i.toNat + 1) * e.sz = i.toNat * e.sz + e.sz := by rw [Nat.add_mul, Nat.one_mul]
  have hfit : off + (i.toNat * e.sz + o) + 0 + us.length ≤ cur.size := by omega
  have hst := run_storeCells_at P b (off + (i.toNat * e.sz + o)) T' us 0 cur w hbk hfit (fun u hu => one_oneCell (List.all_eq_true.1 h1u u hu))
  simp only [Nat.add_zero] at hst
  have hsz : (Tab.ok hT).run_size w = (Tab.ok hT).run_size w := rfl
  have hrun : (execOp a.eval ⟨none, .store T x y, ty, pos, aft, none⟩).run P w = .ok .skip (w.setRow b (cur.toList.take (off + (i.toNat * e.sz + o)) ++ us ++ cur.toList.drop (off + (i.toNat * e.sz + o) + us.length)).toArray) := by
    simp [execOp, s.eval hx, s.eval hy, elq, elA, Instr.storeAt, Instr.sureAddr, storeVar, hu, (Tab.ok hT).run_size w, add_none, hst]
  simp only [Oper.wp, hrun, Oper.upon]
  refine ⟨(), trivial, ?_⟩
  refine St.updF hoo hO hLL hf rfl rfl rfl (by simp) (fun k _ hk' => setRow_other w b k _ (fun e => hk' (by subst e; exact hFb))) (F' := FF j) ?_ (fun k hk => .inl hk)
  have hlen2 : (e.enc yv).length = e.sz := e.len yv
  refine ⟨by simpa using h0, ?_, .inr ⟨b, off, cap, T', _, by simp, hFb, setRow_heap w b _ _ T' _ hbk, by simpa using hcp, ?_, ?_⟩⟩
  · rw [hset]
    rw [hcells] at hone
    simp only [List.all_append, Bool.and_eq_true] at hone ⊢
    refine ⟨hone.1, ?_, hone.2.2⟩
    rw [hyv]
    simp only [List.all_append, Bool.and_eq_true]
    refine ⟨⟨List.all_eq_true.2 fun u hu => List.all_eq_true.1 hone.2.1 u (List.mem_of_mem_take hu), h1u⟩, List.all_eq_true.2 fun u hu => List.all_eq_true.1 hone.2.1 u (List.mem_of_mem_drop hu)⟩
  · simp only [List.size_toArray, List.length_append, List.length_take, List.length_drop]
    omega
  · show ((cur.toList.take _ ++ us ++ cur.toList.drop _).drop off).take ((xs.set i.toNat yv).length * e.sz) = _
    rw [hp1, hp2, hset, hyv, List.length_set]
    have e3 : (Hd ++ (cellsOf e l ++ (e.enc x0).take o) ++ us ++ ((e.enc x0).drop (o + us.length) ++ (cellsOf e tl ++ R))) = Hd ++ ((cellsOf e l ++ (((e.enc x0).take o ++ us ++ (e.enc x0).drop (o + us.length)) ++ cellsOf e tl)) ++ R) := by simp
    rw [e3, ← hH, List.drop_left]
    refine List.take_left' ?_
    have hT2 : (cellsOf e tl).length = tl.length * e.sz := cellsOf_length e tl
    have hxl : xs.length = i.toNat + 1 + tl.length := by rw [hxs, ← hl]; simp; omega
    rw [hyv] at hlen2
    rw [List.length_append, List.length_append, hlen2, eA, hT2, hxl, Nat.add_mul, Nat.add_mul, Nat.one_mul]
    omega
end
end Go.Sx
end
section
set_option linter.unusedVariables false
set_option linter.unusedSimpArgs false
set_option linter.unusedVariables false
set_option linter.unusedSimpArgs false
namespace Go.Sx
open Go.RowKit
/-- the block for the calls that rounds defer: there are none -/
def Dfr (D : Nat) : Fact where
  p w F := F D ∧ w.heap[D]? = some (.deferred (some []))
  mono := fun ⟨h1, h2⟩ h => by
    obtain ⟨h3, h4⟩ := h D h1 (Array.getElem?_eq_some_iff.1 h2).1
    exact ⟨h3, by rw [h4]; exact h2⟩

/-- what a loop's record says: the frame at its beginning, its code, its state -/
structure Rec where
  n : Nat
  σ : Fr
  ps : Array Tmp
  assign : Code
  body : Code
  D : Nat

/-- the record of a range over a function -/
def Lp (l : Nat) (R : Rec) (st : LoopState) (pend : Option Code) : Fact where
  p w F := F l ∧ ∃ (fn : FuncId) (tmps : Array Value), tmps.size = R.n ∧ (∀ t v, lk R.σ t = some v → tmps[t]? = some v) ∧
    w.heap[l]? = some (.loop { state := st, pending := pend, fn := fn, tmps := tmps, params := R.ps, assign := R.assign, body := R.body, defers := R.D })
  mono := fun ⟨h1, fn, tmps, h2, h3, h4⟩ h => by
    obtain ⟨h5, h6⟩ := h l h1 (Array.getElem?_eq_some_iff.1 h4).1
    exact ⟨h5, fn, tmps, h2, h3, by rw [h6]; exact h4⟩

def mark (D : Nat) : Deferred := { target := .collected D, args := #[] }
def yieldV (l : Nat) : Value := .func (.yield l) #[] #[]

section
variable {P : Program} {rd : Option Nat} {c : Ctx} {n m : Sz} {σ σ' : Fr} {M L : List Fact} {Q : Exit → Act → World → Prop} {K G : Act → World → Prop}
/-- an own block is turned -/
theorem St.putLp {w : World} {l i : Nat} {R : Rec} {st st' : LoopState} {pend pend' : Option Code} (t : St c M L w) (hi : M[i]? = some (Lp l R st pend)) {r : Loop} (hr : w.heap[l]? = some (.loop r)) :
    St c (M.set i (Lp l R st' pend')) L (w.putObj l (.loop { r with state := st', pending := pend' })) := by
  refine t.upd hi rfl rfl rfl (by simp) fun F hF _ => ⟨fun k _ hk => ?_, F, ?_, fun _ h => .inl h⟩
  · exact World.putObj_heap_other (fun e => hk (by subst e; exact hF.1))
  · obtain ⟨h1, fn, tmps, h2, h3, h4⟩ := hF
    rw [h4] at hr
    cases hr
    exact ⟨h1, fn, tmps, h2, h3, World.putObj_heap_same (Array.getElem?_eq_some_iff.1 h4).1⟩

/-- what is asked where the iterator has returned: the frame of the loop goes on -/
def RetF (P : Program) (n : Sz) (σ : Fr) (l D : Nat) (Q : Exit → Act → World → Prop) (e : Ending) (w : World) : Prop :=
  ∀ a, Sub ⟨n.sz, mark D :: n.ds⟩ σ a → rangePost (FR none) 0 P l Q a e w

/-- the statement: the iterator's body is walked in place -/
theorem J.rangeFunc {g : Operand} {ps : Array Tmp} {assign body : Code} {f : FuncId} {fn : Func} {code : Code} {cs : List Value} {k : Nat} (hb : HasBody P f) (hx : ev σ g = some (.func (.func f) #[] cs.toArray)) (hf : P.funcs[f]? = some fn) (hbd : fn.body = some code) (hn : fn.ntmps = k) (hm : Nat.ble (cs.length + 1) k = true)
    (h : ∀ l D, J c ⟨k, []⟩ (frame0 0 (yieldV l :: cs)) (Lp l ⟨n.sz, σ, ps, assign, body, D⟩ .ready none :: Dfr D :: M) L (code.wpr none P (bodyPost P fn (RetF P n σ l D Q)))) :
    J c n σ M L ((Code.rangeFunc g ps assign body).wpr none P Q) := fun a w s t => by
  refine wpIn_rangeFunc fun fn' _ => ?_
  have hev : a.eval g = .func (.func f) #[] cs.toArray := s.eval hx
  let W : World := (w.alloc (.deferred (some []))).alloc (.loop { state := .ready, pending := none, fn := fn', tmps := a.tmps, params := ps, assign := assign, body := body, defers := w.heap.size })
  refine ⟨_, _, _, { target := .fn (.func f) cs.toArray, args := #[yieldV (w.heap.size + 1)] }, W, f, (yieldV (w.heap.size + 1) :: cs).toArray, W, run_enterLoop_outer fn' a.tmps ps assign body, ?_, fun _ _ => trivial, ?_, (fun hc => by cases hc), ?_⟩
  · have hc : ∀ v, a.eval (.const v) = v := fun _ => rfl
    simp [resolve, hev, hc, Deferred.ofValue, yieldV, W]
  · simp [invoke, hb _ _, yieldV]
  · have t1 : St c (Dfr w.heap.size :: M) L (w.alloc (.deferred (some []))) := t.push _ ⟨rfl, heap_alloc_new w _⟩
    have t2 : St c (Lp (w.heap.size + 1) ⟨n.sz, σ, ps, assign, body, w.heap.size⟩ .ready none :: Dfr w.heap.size :: M) L ((w.alloc (.deferred (some []))).alloc (.loop { state := .ready, pending := none, fn := fn', tmps := a.tmps, params := ps, assign := assign, body := body, defers := w.heap.size })) := by
      have := t1.push (.loop { state := .ready, pending := none, fn := fn', tmps := a.tmps, params := ps, assign := assign, body := body, defers := w.heap.size }) (m := Lp (w.heap.size + 1) ⟨n.sz, σ, ps, assign, body, w.heap.size⟩ .ready none)
        ⟨by simp, fn', a.tmps, s.size, s.slot, by rw [← World.size_alloc w (.deferred (some []))]; exact heap_alloc_new _ _⟩
      exact this
    refine callsFR ((calls_of_wpr hf hbd (h (w.heap.size + 1) w.heap.size _ _ (frame0_sub hn (by simpa using hm)) t2)).mono ?_)
    intro e w' he
    exact he _ ⟨by simp [mark, s.defers], s.size, s.slot⟩

/-- the iterator has returned, all rounds are done -/
theorem J.retF {fn : Func} {ex : Exit} {v : Value} {l D i : Nat} {R : Rec} (hex : ex = .ret ∨ ex = .normal) (hi : M[i]? = some (Lp l R .ready none)) (hr : Res P c m σ' M L fn v) (h : J c ⟨n.sz, mark D :: n.ds⟩ σ (M.set i (Lp l R .exhausted none)) L (Q .normal)) (hds : m.ds = [] := by rfl) :
    J c m σ' M L (bodyPost P fn (RetF P n σ l D Q) ex) := fun a w s t => by
  refine body_end hex (s.defers.trans hds) (hr a w s t) fun a' s' => ?_
  obtain ⟨F, h1, fn', tmps, h2, h3, h4⟩ := t.res hi
  exact ⟨none, _, run_endLoop h4 (by simp), h a' _ s' (t.putLp hi h4)⟩

/-- the iterator has returned after a round that returns -/
theorem J.retFR {fn : Func} {ex : Exit} {v : Value} {l D i : Nat} {R : Rec} (hex : ex = .ret ∨ ex = .normal) (hi : M[i]? = some (Lp l R .done (some .ret))) (hr : Res P c m σ' M L fn v) (h : J c ⟨n.sz, mark D :: n.ds⟩ σ (M.set i (Lp l R .exhausted (some .ret))) L (Q .ret)) (hds : m.ds = [] := by rfl) :
    J c m σ' M L (bodyPost P fn (RetF P n σ l D Q) ex) := fun a w s t => by
  refine body_end hex (s.defers.trans hds) (hr a w s t) fun a' s' => ?_
  obtain ⟨F, h1, fn', tmps, h2, h3, h4⟩ := t.res hi
  exact ⟨some .ret, _, run_endLoop h4 (by simp), wpIn_ret (h a' _ s' (t.putLp hi h4))⟩

/-- the record becomes busy -/
def Begin (P : Program) (l : Nat) (G : Act → World → Prop) (a : Act) (w : World) : Prop := ∃ w', (Instr.beginRound l).run P w = .ok () w' ∧ G a w'
theorem J.begin {l i : Nat} {R : Rec} {pend : Option Code} (hi : M[i]? = some (Lp l R .ready pend)) (h : J c n σ (M.set i (Lp l R .busy pend)) L G) : J c n σ M L (Begin P l G) := fun a w s t => by
  obtain ⟨F, h1, fn', tmps, h2, h3, h4⟩ := t.res hi
  exact ⟨_, run_beginRound h4 rfl, h a _ s (t.putLp hi h4)⟩

/-- what is asked where a round ends: the iterator's frame goes on with what yield hands back -/
def RetY (n : Sz) (σ : Fr) (d : Nat) (K : Act → World → Prop) (e : Ending) (w : World) : Prop := ∃ v, e = .returned v ∧ ∀ a, Sub n ((d, v) :: σ) a → K a w

theorem J.roundN {l i d : Nat} {R : Rec} {pend : Option Code} (hi : M[i]? = some (Lp l R .busy pend)) (h : J c m ((d, .bool true) :: σ') (M.set i (Lp l R .ready none)) L K) : J c n σ M L (roundPost P l (RetY m σ' d K) .normal) := fun a w s t => by
  obtain ⟨F, h1, fn', tmps, h2, h3, h4⟩ := t.res hi
  exact ⟨_, _, run_endRound none h4, _, rfl, fun a' s' => h a' _ s' (t.putLp hi h4)⟩
theorem J.roundR {l i d : Nat} {R : Rec} {pend : Option Code} (hi : M[i]? = some (Lp l R .busy pend)) (h : J c m ((d, .bool false) :: σ') (M.set i (Lp l R .done (some .ret))) L K) : J c n σ M L (roundPost P l (RetY m σ' d K) .ret) := fun a w s t => by
  obtain ⟨F, h1, fn', tmps, h2, h3, h4⟩ := t.res hi
  exact ⟨_, _, run_endRound (some .ret) h4, _, rfl, fun a' s' => h a' _ s' (t.putLp hi h4)⟩
/-- a frame's slots are overwritten by what yield is handed -/
def putAll : List Tmp → List Value → Fr → Fr
  | t :: ts, v :: vs, σ => putAll ts vs ((t, v) :: σ)
  | _, _, σ => σ

theorem fold_slots : ∀ (ps : List Tmp) (vs : List Value) (tmps : Array Value) (σ : Fr) (k : Nat), tmps.size = k → ps.all (fun t => Nat.blt t k) = true → (∀ t v, lk σ t = some v → tmps[t]? = some v) →
    ((ps.zip vs).foldl (fun tmps (x : Tmp × Value) => tmps.setIfInBounds x.1 x.2) tmps).size = k ∧ ∀ t v, lk (putAll ps vs σ) t = some v → ((ps.zip vs).foldl (fun tmps (x : Tmp × Value) => tmps.setIfInBounds x.1 x.2) tmps)[t]? = some v
  | [], _, tmps, σ, k, h1, _, h3 => by simpa [putAll] using ⟨h1, h3⟩
  | _ :: _, [], tmps, σ, k, h1, _, h3 => by simpa [putAll] using ⟨h1, h3⟩
  | p :: ps, x :: vs, tmps, σ, k, h1, h2, h3 => by
    simp only [List.all_cons, Bool.and_eq_true] at h2
    have hp : p < k := by simpa [Nat.blt_eq] using h2.1
    simp only [List.zip_cons_cons, List.foldl_cons, putAll]
    refine fold_slots ps vs _ _ k (by simp [h1]) h2.2 fun t v hv => ?_
    simp only [lk] at hv
    by_cases e : t = p
    · subst e
      simp at hv
      subst hv
      simp [h1, hp]
    · rw [beq_ne e] at hv
      simp only [cond_false] at hv
      rw [Array.getElem?_setIfInBounds_ne (Ne.symm e)]
      exact h3 t v hv

/-- a call of yield: the round is walked in place -/
theorem J.yield {ops : Array Oper} {rest : List Oper} {t : Tmp} {xs : List Operand} {us : List Value} {ats : Array TypeId} {d : Nat} {ty : TypeId} {pos : String} {aft : Array Edge} {l i : Nat} {R : Rec} {ps : List Tmp} (ht : lk σ t = some (yieldV l)) (hx : xs.map (ev σ) = us.map some) (hi : M[i]? = some (Lp l R .ready none)) (hps : R.ps = ps.toArray) (hlen : us.length = ps.length) (hall : ps.all (fun t => Nat.blt t R.n) = true) (hd : Nat.blt d n.sz = true)
    (h : J c ⟨R.n, []⟩ (putAll ps us R.σ) M L (R.assign.wpr (some l) P (Exit.then (Begin P l (R.body.wpr (some l) P (roundPost P l (RetY n σ d (wpList P ops Q rest))))) (fun _ _ _ => False)))) :
    J c n σ M L (wpList P ops Q (⟨some d, .call ⟨.value (.tmp t), xs.toArray, ats⟩, ty, pos, aft, none⟩ :: rest)) := fun a w s tt => by
  obtain ⟨F, h1, fn', tmps, h2, h3, h4⟩ := tt.res hi
  have e := evs s hx
  have e2 : a.eval (.tmp t) = yieldV l := s.eval (x := .tmp t) ht
  have hy := run_yield (P := P) (args := us.toArray) h4 (by simp [hps, hlen])
  have hrun : (execOp a.eval ⟨some d, .call ⟨.value (.tmp t), xs.toArray, ats⟩, ty, pos, aft, none⟩).run P w = (Instr.yield l us.toArray).run P w := by
    simp [execOp, resolve, e2, yieldV, Deferred.ofValue, invoke, e]
  unfold wpList
  rw [if_pos (show Region.wanted _ _ = true from rfl)]
  refine .inr ⟨_, _, _, _, _, _, hrun.trans hy, ?_⟩
  refine RoundIn.mono (R := RetY n σ d (wpList P ops Q rest)) (roundIn_of_wpIn (F := FR none) trivial ?_) ?_
  · obtain ⟨f1, f2⟩ := fold_slots ps us tmps R.σ R.n h2 hall h3
    have := h { tmps := (ps.zip us).foldl (fun tmps (x : Tmp × Value) => tmps.setIfInBounds x.1 x.2) tmps, defers := [] } w ⟨rfl, f1, f2⟩ tt
    simp only [hps, List.zip_toArray, List.foldl_toArray]
    exact this
  · rintro e w'' ⟨v, rfl, hv⟩
    exact ⟨v, rfl, hv _ (s.put d v hd)⟩

/-- the statement, its record by name -/
theorem J.rangeFuncR {g : Operand} {ps : Array Tmp} {assign body : Code} {f : FuncId} {fn : Func} {code : Code} {cs : List Value} {k : Nat} (hb : HasBody P f) (hx : ev σ g = some (.func (.func f) #[] cs.toArray)) (hf : P.funcs[f]? = some fn) (hbd : fn.body = some code) (hn : fn.ntmps = k) (hm : Nat.ble (cs.length + 1) k = true)
    (h : ∀ (l D : Nat) (R : Rec), R.n = n.sz ∧ R.σ = σ ∧ R.ps = ps ∧ R.assign = assign ∧ R.body = body → J c ⟨k, []⟩ (frame0 0 (yieldV l :: cs)) (Lp l R .ready none :: Dfr D :: M) L (code.wpr none P (bodyPost P fn (RetF P n σ l D Q)))) :
    J c n σ M L ((Code.rangeFunc g ps assign body).wpr none P Q) := J.rangeFunc hb hx hf hbd hn hm fun l D => h l D _ ⟨rfl, rfl, rfl, rfl, rfl⟩

theorem J.yieldR {ops : Array Oper} {rest : List Oper} {t : Tmp} {xs : List Operand} {us : List Value} {ats : Array TypeId} {d : Nat} {ty : TypeId} {pos : String} {aft : Array Edge} {l i k : Nat} {R : Rec} {ps : List Tmp} {σR : Fr} {assign body : Code} (hR : R.n = k ∧ R.σ = σR ∧ R.ps = ps.toArray ∧ R.assign = assign ∧ R.body = body) (ht : lk σ t = some (yieldV l)) (hx : xs.map (ev σ) = us.map some) (hi : M[i]? = some (Lp l R .ready none)) (hlen : us.length = ps.length) (hall : ps.all (fun t => Nat.blt t k) = true) (hd : Nat.blt d n.sz = true)
    (h : J c ⟨k, []⟩ (putAll ps us σR) M L (assign.wpr (some l) P (Exit.then (Begin P l (body.wpr (some l) P (roundPost P l (RetY n σ d (wpList P ops Q rest))))) (fun _ _ _ => False)))) :
    J c n σ M L (wpList P ops Q (⟨some d, .call ⟨.value (.tmp t), xs.toArray, ats⟩, ty, pos, aft, none⟩ :: rest)) := by
  obtain ⟨rfl, rfl, h3, rfl, rfl⟩ := hR
  exact J.yield ht hx hi h3 hlen hall hd h
end
end Go.Sx
end
section
set_option linter.unusedVariables false
set_option linter.unusedSimpArgs false
set_option linter.unusedVariables false
set_option linter.unusedSimpArgs false
namespace Go.Sx
open Go.RowKit
def marks (Ds : List Nat) : List Deferred := Ds.map mark

/-- the blocks of the marks of a frame -/
def Dfs (Ds : List Nat) : Fact where
  p w F := Ds.Nodup ∧ ∀ D ∈ Ds, F D ∧ w.heap[D]? = some (.deferred (some []))
  mono := fun ⟨h1, h2⟩ h => ⟨h1, fun D hD => by
    obtain ⟨h3, h4⟩ := h D (h2 D hD).1 (Array.getElem?_eq_some_iff.1 (h2 D hD).2).1
    exact ⟨h3, by rw [h4]; exact (h2 D hD).2⟩⟩

section
variable {P : Program} {rd : Option Nat} {c : Ctx} {n m : Sz} {σ σ' : Fr} {M L : List Fact} {Q : Exit → Act → World → Prop} {K G : Act → World → Prop}
theorem Stp.dfs0 : Stp M L (Dfs [] :: M) L := Stp.add fun _ => ⟨List.nodup_nil, by simp⟩

theorem Stp.dfsCons (i j : Nat) {D : Nat} {Ds : List Nat} (hij : i ≠ j) (hf : M[i]? = some (Dfs Ds)) (hg : M[j]? = some (Dfr D)) : Stp M L ((M.set i (Dfs (D :: Ds))).eraseIdx j) L := fun c w t =>
  t.merge i j hij hf hg (by
    rintro w F1 F2 ⟨h1, h2⟩ ⟨h3, h4⟩ hd
    refine ⟨List.nodup_cons.2 ⟨fun hm => hd D (h2 D hm).1 h3, h1⟩, fun E hE => ?_⟩
    rcases List.mem_cons.1 hE with rfl | hE
    · exact ⟨.inr h3, h4⟩
    · exact ⟨.inl (h2 E hE).1, (h2 E hE).2⟩)

/-- the statement, the frame's marks as one resource -/
theorem J.rangeFuncD {g : Operand} {ps : Array Tmp} {assign body : Code} {f : FuncId} {fn : Func} {code : Code} {cs : List Value} {k i s : Nat} (Ds : List Nat) (hi : M[i]? = some (Dfs Ds)) (hb : HasBody P f) (hx : ev σ g = some (.func (.func f) #[] cs.toArray)) (hf : P.funcs[f]? = some fn) (hbd : fn.body = some code) (hn : fn.ntmps = k) (hm : Nat.ble (cs.length + 1) k = true)
    (h : ∀ (l D : Nat) (R : Rec), R.n = s ∧ R.σ = σ ∧ R.ps = ps ∧ R.assign = assign ∧ R.body = body → J c ⟨k, []⟩ (frame0 0 (yieldV l :: cs)) (Lp l R .ready none :: M.set i (Dfs (D :: Ds))) L (code.wpr none P (bodyPost P fn (RetF P ⟨s, marks Ds⟩ σ l D Q)))) :
    J c ⟨s, marks Ds⟩ σ M L ((Code.rangeFunc g ps assign body).wpr none P Q) := J.rangeFuncR hb hx hf hbd hn hm fun l D R hR =>
  J.stp (Stp.dfsCons (i + 2) 1 (by omega) hi rfl) (h l D R hR)

theorem J.unmarkAll {fn : Func} {R : Ending → World → Prop} {ex : Exit} {i k : Nat} (hex : ex = .ret ∨ ex = .normal) : ∀ {Ds : List Nat} {M : List Fact}, M[i]? = some (Dfs Ds) → J c ⟨k, []⟩ σ (M.set i (Dfs [])) L (bodyPost P fn R ex) → J c ⟨k, marks Ds⟩ σ M L (bodyPost P fn R ex)
  | [], M, hi, h => by
    have : M.set i (Dfs []) = M := by
      apply List.ext_getElem?
      intro j
      by_cases e : i = j
      · subst e
        rw [hi]
        simp [(List.getElem?_eq_some_iff.1 hi).1]
      · simp [List.getElem?_set_ne e]
    rw [this] at h
    exact h
  | D :: Ds, M, hi, h => fun a w s t => by
    obtain ⟨F, h1, h2⟩ := t.res hi
    have t' : St c (M.set i (Dfs Ds)) L (w.putObj D (.deferred none)) := by
      refine t.upd hi rfl rfl rfl (by simp) fun F hF _ => ⟨fun k _ hk => ?_, F, ?_, fun _ h => .inl h⟩
      · exact World.putObj_heap_other (fun e => hk (e ▸ (hF.2 D (by simp)).1))
      · obtain ⟨hn, hF⟩ := hF
        refine ⟨(List.nodup_cons.1 hn).2, fun E hE => ⟨(hF E (by simp [hE])).1, ?_⟩⟩
        rw [World.putObj_heap_other (fun e => (List.nodup_cons.1 hn).1 (by subst e; exact hE))]
        exact (hF E (by simp [hE])).2
    refine body_endM hex s.defers (h2 D (by simp)).2 ?_
    have hi' : (M.set i (Dfs Ds))[i]? = some (Dfs Ds) := by simp [(List.getElem?_eq_some_iff.1 hi).1]
    have := J.unmarkAll hex hi' (by rw [List.set_set]; exact h) { tmps := a.tmps, defers := marks Ds } _ ⟨rfl, s.size, s.slot⟩ t'
    rcases hex with rfl | rfl <;> exact this

def MidN {A B : Type} (c : Ctx) (nI : A → B → Sz) (C : A → Prop) (σI : A → B → Fr) (MI LI : A → B → List Fact) (a : Act) (w : World) : Prop := ∃ x y, C x ∧ Sub (nI x y) (σI x y) a ∧ St c (MI x y) (LI x y) w

theorem J.midN {A B : Type} {x : Code} (nI : A → B → Sz) (C : A → Prop) (σI : A → B → Fr) (MI LI : A → B → List Fact) (h1 : J c n σ M L (x.wpr rd P (Exit.then (MidN c nI C σI MI LI) Q))) (h2 : ∀ a b, C a → J c (nI a b) (σI a b) (MI a b) (LI a b) K) :
    J c n σ M L (x.wpr rd P (Exit.then K Q)) := fun a w s t => wpr_mono (fun e a' w' q => by
  cases e with
  | normal => obtain ⟨z, y, hC, hs, ht⟩ := q; exact h2 z y hC a' w' hs ht
  | exit id => exact q
  | goto l => exact q
  | ret => exact q
  | panic ch => exact q
  | outgrown => exact q) (h1 a w s t)

theorem J.meetN {A B : Type} {nI : A → B → Sz} {C : A → Prop} {σI : A → B → Fr} {MI LI : A → B → List Fact} (x : A) (y : B) (hn : n = nI x y) (hC : C x) (hs : SubF σ (σI x y)) (hM : SubM M (MI x y)) (hL : LentAll [] L (LI x y)) : J c n σ M L (MidN c nI C σI MI LI) :=
  fun _ _ s t => ⟨x, y, hC, hn ▸ s.weak hs, t.weakE hM hL⟩

def InvN {A B R : Type} (c : Ctx) (nI : A → B → Sz) (step : A → (A → Option R) → Option R) (r : R) (σI : A → B → Fr) (MI LI : A → B → List Fact) (k : Nat) (a : Act) (w : World) : Prop :=
  ∃ x y, iter step k x = some r ∧ Sub (nI x y) (σI x y) a ∧ St c (MI x y) (LI x y) w

theorem J.loopN {A B R : Type} {body : Code} (nI : A → B → Sz) (step : A → (A → Option R) → Option R) {r : R} {fuel : Nat} (σI : A → B → Fr) (MI LI : A → B → List Fact) (a0 : A) (b0 : B) (hn0 : n = nI a0 b0) (h : iter step fuel a0 = some r)
    (hs : SubF σ (σI a0 b0)) (hM : SubM M (MI a0 b0)) (hL : LentAll [] L (LI a0 b0))
    (round : ∀ k a b, step a (iter step k) = some r → J c (nI a b) (σI a b) (MI a b) (LI a b) (body.wpr rd P (Exit.then (InvN c nI step r σI MI LI k) Q))) : J c n σ M L ((Code.loop body).wpr rd P Q) := by
  subst hn0
  intro a w s t b k cs hro hb hr
  have key : ∀ m x y a w, iter step m x = some r → Sub (nI x y) (σI x y) a → St c (MI x y) (LI x y) w →
      ∃ e a' w', Q e a' w' ∧ ArrivesIn (Machine.fenced P (FR rd)) P (lone (b.atR a (.code body :: .inLoop body :: k)) cs w) b k cs e a' w' := by
    intro m
    induction m with
    | zero => intro x y a w hC; cases hC
    | succ m ih =>
      intro x y a w hC hs ht
      obtain ⟨e, a₁, w₁, hq, harr⟩ := round m x y hC a w hs ht b (.inLoop body :: k) cs hro hb hr
      cases e with
      | normal =>
        obtain ⟨x', y', hCy, hsy, hty⟩ := hq
        obtain ⟨e₂, a₂, w₂, hq₂, harr₂⟩ := ih x' y' a₁ w₁ hCy hsy hty
        exact ⟨e₂, a₂, w₂, hq₂, .of_steps (StepsIn.trans harr (.one (fenced_calm hb hr rfl) stepR_inLoop)) harr₂⟩
      | exit id => exact ⟨_, a₁, w₁, hq, .pass (x := .inLoop body) rfl (fun _ _ => .inl (by simp)) harr⟩
      | goto l => exact ⟨_, a₁, w₁, hq, .pass (x := .inLoop body) rfl (fun _ _ => .inl (by simp)) harr⟩
      | ret => exact ⟨_, a₁, w₁, hq, .pass (x := .inLoop body) rfl (fun _ _ => .inl (by simp)) harr⟩
      | panic ch => exact ⟨_, a₁, w₁, hq, .pass (x := .inLoop body) rfl (fun _ _ => .inl (by simp)) harr⟩
      | outgrown => exact ⟨_, a₁, w₁, hq, .pass (x := .inLoop body) rfl (fun _ _ => .inl (by simp)) harr⟩
  obtain ⟨e, a', w', hq, harr⟩ := key fuel a0 b0 a w h (s.weak hs) (t.weakE hM hL)
  exact ⟨e, a', w', hq, .of_steps (.one (fenced_calm hb hr rfl) stepR_loop) harr⟩

theorem J.againN {A B R : Type} {nI : A → B → Sz} {step : A → (A → Option R) → Option R} {r : R} {k : Nat} {σI : A → B → Fr} {MI LI : A → B → List Fact} (x : A) (y : B) (hn : n = nI x y) (h : iter step k x = some r) (hs : SubF σ (σI x y)) (hM : SubM M (MI x y)) (hL : LentAll [] L (LI x y)) :
    J c n σ M L (InvN c nI step r σI MI LI k) := fun _ _ s t => ⟨x, y, h, hn ▸ s.weak hs, t.weakE hM hL⟩
end
end Go.Sx
end
section
set_option linter.unusedVariables false
set_option linter.unusedSimpArgs false
namespace Go.Proofs.Ytmajgimhmfeliaa
open Go.Sx
set_option linter.unusedVariables false
set_option linter.unusedSimpArgs false
abbrev EI64 : Enc Int := Enc.int .i64
abbrev RI64 : Rep Int := Rep.int .i64
theorem FI64 : EI64.Fits RI64 := Enc.int_fits .i64
theorem RI64c0 : RI64.Cell 0 (fun x => .int .i64 x) := Rep.int_cell .i64
abbrev EI64I64p : Enc (Int × Int) := Enc.pair EI64 (EI64)
abbrev RI64I64p : Rep (Int × Int) := Rep.pair RI64 (RI64)
theorem FI64I64p : EI64I64p.Fits RI64I64p := Enc.pair_fits FI64 (FI64)
theorem RI64I64pc0 : RI64I64p.Cell 0 (fun x => .int .i64 x.1) := Rep.pair_cell1 (RI64c0)
theorem RI64I64pc1 : RI64I64p.Cell 1 (fun x => .int .i64 x.2) := Rep.pair_cell2 (RI64c0)
abbrev EBo : Enc Bool := Enc.bool
def vI64 (x : Int) : Value := Value.int .i64 (x)
def vI64I64p (x : Int × Int) : Value := Value.agg #[Value.int .i64 (x.1), Value.int .i64 (x.2)]
theorem key_T42 (x y : Int × Int) (m : Nat) (w : World) : (Op.equalIn (m + 2) 42 (.agg #[.int .i64 x.1, .int .i64 x.2]) (.agg #[.int .i64 y.1, .int .i64 y.2])).run Try.prog w = .ok (decide (x = y)) w := by
  have h3 : ∀ a b : Int, (Op.equalIn (m + 1) 3 (.int .i64 a) (.int .i64 b)).run Try.prog w = .ok (a == b) w := by
    intro a b
    simp [Op.equalIn]
  unfold Op.equalIn
  simp [show List.range' 0 2 = [0, 1] from rfl, part, isAgg, h3]
  obtain ⟨a0, a1⟩ := x
  obtain ⟨c0, c1⟩ := y
  by_cases e0 : a0 = c0 <;> by_cases e1 : a1 = c1 <;> simp [e0, e1, h3]
theorem guard_T42 (x y : Operand) (u v : Array Value) (op : BinOp) (w : World) : (eqGuard op 42 x y (.agg u) (.agg v)).run Try.prog w = .ok () w := by
  have hg : Try.prog.eqGuardType Try.prog.depth 42 = false := by kernel_rfl
  unfold eqGuard
  cases op <;> simp [hg]
theorem eq_T42 (x y : Int × Int) (p q : Operand) (w : World) : (eqGuard .eql 42 p q (.agg #[.int .i64 x.1, .int .i64 x.2]) (.agg #[.int .i64 y.1, .int .i64 y.2])).run Try.prog w = .ok () w ∧ (binOp .eql 42 (.agg #[.int .i64 x.1, .int .i64 x.2]) (.agg #[.int .i64 y.1, .int .i64 y.2])).run Try.prog w = .ok (.bool (decide (x = y))) w := by
  refine ⟨guard_T42 _ _ _ _ _ _, ?_⟩
  have h : (Op.equal 42 (.agg #[.int .i64 x.1, .int .i64 x.2]) (.agg #[.int .i64 y.1, .int .i64 y.2])).run Try.prog w = .ok (decide (x = y)) w := key_T42 x y 9998 w
  simp [binOp, h]
theorem eq_T42N (x y : Int × Int) (p q : Operand) (w : World) : (eqGuard .neq 42 p q (.agg #[.int .i64 x.1, .int .i64 x.2]) (.agg #[.int .i64 y.1, .int .i64 y.2])).run Try.prog w = .ok () w ∧ (binOp .neq 42 (.agg #[.int .i64 x.1, .int .i64 x.2]) (.agg #[.int .i64 y.1, .int .i64 y.2])).run Try.prog w = .ok (.bool (decide (x ≠ y))) w := by
  refine ⟨guard_T42 _ _ _ _ _ _, ?_⟩
  have h : (Op.equal 42 (.agg #[.int .i64 x.1, .int .i64 x.2]) (.agg #[.int .i64 y.1, .int .i64 y.2])).run Try.prog w = .ok (decide (x = y)) w := key_T42 x y 9998 w
  simp [binOp, h]
theorem chk_T42 (b : Bool) (k : Int × Int) (w : World) : (Instr.checkKey b 10000 42 (vI64I64p k)).run Try.prog w = .ok () w := by
  have key : ∀ m : Nat, (Instr.checkKey b (m + 2) 42 (vI64I64p k)).run Try.prog w = .ok () w := by
    intro m
    simp [Instr.checkKey, vI64I64p, part, isAgg, show List.range' 0 2 = [0, 1] from rfl]
  exact key 9998
theorem kok_42 : KeyOk Try.prog 42 vI64I64p := KeyOk.deep Try.underlying42 chk_T42 (fun _ _ => rfl) (fun a b w => key_T42 a b 9998 w) (fun k => by
  have key : ∀ m : Nat, Instr.sameBits (m + 2) (vI64I64p k) (vI64I64p k) = true := fun m => by simp [Instr.sameBits, vI64I64p]
  exact key 9998)
theorem fill_1_1 (u0 : Value) (h0 : one u0 = true) (init : Array Value) (h : init.size = 1 * 1) : Instr.fill (fun i => some (i * 1, 1)) init [(0, u0)] = some [u0].toArray := by
  obtain ⟨l⟩ := init
  match l, h with
  | [z0], _ => simp [Instr.fill, one_cells h0]
theorem fill_1_2 (u0 u1 : Value) (init : Array Value) (h : init.size = 1 * 2) : Instr.fill (fun i => some (i * 2, 2)) init [(0, .agg #[u0, u1])] = some [u0, u1].toArray := by
  obtain ⟨l⟩ := init
  match l, h with
  | [z0, z1], _ => simp [Instr.fill, Value.cells]
theorem fill_2_1 (u0 u1 : Value) (h0 : one u0 = true) (h1 : one u1 = true) (init : Array Value) (h : init.size = 2 * 1) : Instr.fill (fun i => some (i * 1, 1)) init [(0, u0), (1, u1)] = some [u0, u1].toArray := by
  obtain ⟨l⟩ := init
  match l, h with
  | [z0, z1], _ => simp [Instr.fill, one_cells h0, one_cells h1]
theorem fill_3_1 (u0 u1 u2 : Value) (h0 : one u0 = true) (h1 : one u1 = true) (h2 : one u2 = true) (init : Array Value) (h : init.size = 3 * 1) : Instr.fill (fun i => some (i * 1, 1)) init [(0, u0), (1, u1), (2, u2)] = some [u0, u1, u2].toArray := by
  obtain ⟨l⟩ := init
  match l, h with
  | [z0, z1, z2], _ => simp [Instr.fill, one_cells h0, one_cells h1, one_cells h2]
theorem fill_3_2 (u0 u1 u2 u3 u4 u5 : Value) (init : Array Value) (h : init.size = 3 * 2) : Instr.fill (fun i => some (i * 2, 2)) init [(0, .agg #[u0, u1]), (1, .agg #[u2, u3]), (2, .agg #[u4, u5])] = some [u0, u1, u2, u3, u4, u5].toArray := by
  obtain ⟨l⟩ := init
  match l, h with
  | [z0, z1, z2, z3, z4, z5], _ => simp [Instr.fill, Value.cells]
end Go.Proofs.Ytmajgimhmfeliaa
end
section
set_option linter.unusedVariables false
set_option linter.unusedSimpArgs false
namespace Go.Proofs.Ytmajgimhmfeliaa
open Go.Sx
set_option linter.unusedVariables false
set_option linter.unusedSimpArgs false
def ref01_Port_k1  (a2 : Unit) : Option (Int) :=
  some (-1 : Int)
def ref01_Port_s1 (p0 : List (Int) × (List (List (Int × Int)))) (p1 : Int) (p2 : Int) (a6 : Int) (ag5 : (Int) → Option (Int)) : Option (Int) :=
  ck (0 ≤ p1 ∧ p1 < (List.length p0.2 : Int)) (if a6 < (List.length (at' p0.2 p1) : Int) then (ck (0 ≤ p1 ∧ p1 < (List.length p0.2 : Int)) (ck (0 ≤ a6 ∧ a6 < (List.length (at' p0.2 p1) : Int)) (if ((at' (at' p0.2 p1) a6).1) = p2 then (some (a6)) else (ag5 (wI .i64 (a6 + (1 : Int))))))) else (ref01_Port_k1  (())))
def m_ref01_Port (fuel : Nat) (p0 : List (Int) × (List (List (Int × Int)))) (p1 : Int) (p2 : Int) : Option (Int) :=
  iter (ref01_Port_s1 p0 p1 p2) fuel (0 : Int)

end Go.Proofs.Ytmajgimhmfeliaa
end
section
set_option linter.unusedVariables false
set_option linter.unusedSimpArgs false
namespace Go.Proofs.Ytmajgimhmfeliaa
open Go.Sx
set_option linter.unusedVariables false
set_option linter.unusedSimpArgs false
def graph_DifferentIDs_k1  (a2 : Unit) : Option (Bool) :=
  some (true)
def graph_DifferentIDs_k2 (p0 : List (Int)) (a7 : Int × List (Bool)) (ag6 : (Int × List (Bool)) → Option (Bool)) (a13 : Bool) : Option (Bool) :=
  if a13 = true then (some (false)) else (ck ((0 ≤ (at' p0 a7.1) ∧ (at' p0 a7.1) < ((256 : Nat) : Int)) ∧ List.length a7.2 = 256) (ag6 ((wI .i64 (a7.1 + (1 : Int))), (List.set a7.2 (Int.toNat (at' p0 a7.1)) true))))
def graph_DifferentIDs_s1 (p0 : List (Int)) (a7 : Int × List (Bool)) (ag6 : (Int × List (Bool)) → Option (Bool)) : Option (Bool) :=
  if a7.1 < (List.length p0 : Int) then (ck (0 ≤ a7.1 ∧ a7.1 < (List.length p0 : Int)) (if (at' p0 a7.1) < (0 : Int) then (graph_DifferentIDs_k2 p0 a7 ag6 (true)) else (if (255 : Int) < (at' p0 a7.1) then (graph_DifferentIDs_k2 p0 a7 ag6 (true)) else (ck ((0 ≤ (at' p0 a7.1) ∧ (at' p0 a7.1) < ((256 : Nat) : Int)) ∧ List.length a7.2 = 256) (graph_DifferentIDs_k2 p0 a7 ag6 ((at' a7.2 (at' p0 a7.1)))))))) else (graph_DifferentIDs_k1  (()))
def m_graph_DifferentIDs (fuel : Nat) (p0 : List (Int)) : Option (Bool) :=
  iter (graph_DifferentIDs_s1 p0) fuel ((0 : Int), (List.replicate 256 false))

theorem body61 : HasBody Try.prog 61 := Try.call61

set_option maxHeartbeats 4000000 in
set_option maxRecDepth 20000 in
theorem t_graph_DifferentIDs (fuel : Nat) {p0 : List (Int)} (v0 : Value) (r : Bool) (h : m_graph_DifferentIDs fuel p0 = some r) :
    Meets Try.prog 61 #[v0] [Sl RI64 v0 p0] (fun x : Unit => Value.bool (r)) (fun x l => l) (fun _ l => l) := by
  refine Meets.of (vs := [v0]) Try.func61 rfl Try.ntmps61 rfl fun c => ?_
  unfold m_graph_DifferentIDs at h
  refine J.seq ?_
  refine J.region ?_
  refine J.quiet (Y.assign rfl) rfl ?_
  refine J.done ?_
  refine J.thenN ?_
  refine J.seq ?_
  refine J.region ?_
  refine J.loud (Loud.alloc (cs := cellsOf EBo (List.replicate 256 false)) rfl (by kernel_rfl)) rfl fun b1 => ?_
  refine J.done ?_
  refine J.thenN ?_
  refine J.seq ?_
  refine J.midI (A := Unit) (B := Unit) (fun a2 => graph_DifferentIDs_k1  a2 = some r) (fun a2 b3 => []) (fun a2 b3 => []) (fun a2 b3 => [Sl RI64 v0 p0]) ?_ ?_
  · refine J.seq ?_
    refine J.region ?_
    refine J.quiet (Y.move rfl) rfl ?_
    refine J.quiet (Y.lenS rfl (Lent.fact 0 rfl) rfl) rfl ?_
    refine J.quiet (Y.move rfl) rfl ?_
    refine J.done ?_
    refine J.thenN ?_
    refine J.block ?_
    refine J.loopI (A := Int × List (Bool)) (B := Unit) (graph_DifferentIDs_s1 p0) (fun a7 b8 => [(3, Value.pointer (some ⟨b1, 0, none⟩)), (6, v0), (7, Value.int .i64 (List.length p0 : Int)), (8, Value.int .i64 (a7.1))]) (fun a7 b8 => [Blk b1 (cellsOf EBo a7.2) 89]) (fun a7 b8 => [Sl RI64 v0 p0]) ((0 : Int), (List.replicate 256 false)) (()) h (by repeat (first | exact SubF.nil | refine SubF.cons rfl ?_)) (SubM.refl _) (LentAll.refl _ _) ?_
    clear h
    intro k9 a7 b8 h
    unfold graph_DifferentIDs_s1 at h
    refine J.seq ?_
    refine J.region ?_
    refine J.quiet (Y.lss rfl rfl) rfl ?_
    refine J.done ?_
    refine J.thenN ?_
    refine J.seq ?_
    refine J.condD (by exact rfl) (fun hp10 => ?_) (fun hp10 => ?_)
    · replace h := ifP hp10 h
      refine J.skip ?_
      refine J.thenN ?_
      refine J.seq ?_
      refine J.block ?_
      refine J.seq ?_
      refine J.region ?_
      replace h := ck_some h; obtain ⟨hc11, h⟩ := h
      refine J.quiet (Y.indexS rfl rfl (Lent.fact 0 rfl) rfl rfl hc11) rfl ?_
      refine J.quiet (Y.loadS0 rfl (Lent.fact 0 rfl) rfl rfl rfl RI64c0 hc11) rfl ?_
      refine J.quiet (Y.assign rfl) rfl ?_
      refine J.done ?_
      refine J.thenN ?_
      refine J.seq ?_
      refine J.seq ?_
      refine J.midI (A := Bool) (B := Unit) (fun a13 => graph_DifferentIDs_k2 p0 a7 (iter (graph_DifferentIDs_s1 p0) k9) a13 = some r) (fun a13 b14 => [(3, Value.pointer (some ⟨b1, 0, none⟩)), (5, Value.int .i64 (at' p0 a7.1)), (6, v0), (7, Value.int .i64 (List.length p0 : Int)), (8, Value.int .i64 (a7.1)), (22, Value.bool (a13))]) (fun a13 b14 => [Blk b1 (cellsOf EBo a7.2) 89]) (fun a13 b14 => [Sl RI64 v0 p0]) ?_ ?_
      · refine J.region ?_
        refine J.quiet (Y.move rfl) rfl ?_
        refine J.quiet (Y.lss rfl rfl) rfl ?_
        refine J.quiet (Y.move rfl) rfl ?_
        refine J.guardD (by exact rfl) (by exact rfl) (fun hp17 => ?_) (fun hp17 => ?_)
        · replace h := ifP hp17 h
          refine J.guardN rfl rfl rfl ?_
          refine J.guardN rfl rfl rfl ?_
          refine J.quiet (Y.pickT rfl rfl) rfl ?_
          refine J.quiet (Y.move rfl) rfl ?_
          refine J.guardN rfl rfl rfl ?_
          refine J.guardN rfl rfl rfl ?_
          refine J.guardN rfl rfl rfl ?_
          refine J.quiet (Y.pickT rfl rfl) rfl ?_
          refine J.done ?_
          refine J.thenN ?_
          exact J.meetI (true) (()) h (by repeat (first | exact SubF.nil | refine SubF.cons rfl ?_)) (SubM.refl _) (LentAll.refl _ _)
        · replace h := ifN hp17 h
          refine J.guardY rfl (Y.move rfl) rfl ?_
          refine J.guardY rfl (Y.gtr rfl rfl) rfl ?_
          refine J.quiet (Y.pickF rfl rfl) rfl ?_
          refine J.quiet (Y.move rfl) rfl ?_
          refine J.guardD (by exact rfl) (by exact rfl) (fun hp18 => ?_) (fun hp18 => ?_)
          · replace h := ifP hp18 h
            refine J.guardN rfl rfl rfl ?_
            refine J.guardN rfl rfl rfl ?_
            refine J.guardN rfl rfl rfl ?_
            refine J.quiet (Y.pickT rfl rfl) rfl ?_
            refine J.done ?_
            refine J.thenN ?_
            exact J.meetI (true) (()) h (by repeat (first | exact SubF.nil | refine SubF.cons rfl ?_)) (SubM.refl _) (LentAll.refl _ _)
          · replace h := ifN hp18 h
            refine J.guardY rfl (Y.move rfl) rfl ?_
            replace h := ck_some h; obtain ⟨hc19, h⟩ := h
            refine J.guardY rfl (Y.indexArr rfl rfl rfl rfl rfl hc19.1) rfl ?_
            refine J.guardY rfl (Y.loadArr (e := EBo) rfl (Lent.res 0 rfl) rfl rfl rfl rfl hc19) rfl ?_
            refine J.quiet (Y.pickF rfl rfl) rfl ?_
            refine J.done ?_
            refine J.thenN ?_
            exact J.meetI ((at' a7.2 (at' p0 a7.1))) (()) h (by repeat (first | exact SubF.nil | refine SubF.cons rfl ?_)) (SubM.refl _) (LentAll.refl _ _)
      · clear h
        intro a13 b14 h
        unfold graph_DifferentIDs_k2 at h
        refine J.cond (by exact rfl) (fun hp15 => ?_) (fun hp15 => ?_)
        · replace h := ifP hp15 h
          refine J.seq ?_
          refine J.region ?_
          refine J.quiet (Y.assign rfl) rfl ?_
          refine J.done ?_
          refine J.thenN ?_
          refine J.ret ?_
          refine J.thenR ?_
          refine J.inR ?_
          refine J.thenR ?_
          refine J.thenR ?_
          refine J.inR ?_
          refine J.thenR ?_
          obtain rfl := Option.some.inj h
          exact J.retG1 (()) rfl rfl (RV.tmp rfl) (SubM.nil) LentAll.nil
        · replace h := ifBN hp15 h
          refine J.skip ?_
          refine J.thenN ?_
          refine J.region ?_
          refine J.quiet (Y.move rfl) rfl ?_
          replace h := ck_some h; obtain ⟨hc16, h⟩ := h
          refine J.quiet (Y.indexArr rfl rfl rfl rfl rfl hc16.1) rfl ?_
          refine J.storeArr 0 (e := EBo) true hc16 rfl rfl rfl rfl rfl rfl rfl ?_
          refine J.done ?_
          refine J.inN ?_
          refine J.thenN ?_
          refine J.region ?_
          refine J.quiet (Y.addW rfl rfl) rfl ?_
          refine J.quiet (Y.move rfl) rfl ?_
          refine J.done ?_
          refine J.thenN ?_
          exact J.againI ((wI .i64 (a7.1 + (1 : Int))), (List.set a7.2 (Int.toNat (at' p0 a7.1)) true)) (()) h (by repeat (first | exact SubF.nil | refine SubF.cons rfl ?_)) (SubM.refl _) (LentAll.refl _ _)
    · replace h := ifN hp10 h
      refine J.exit ?_
      refine J.thenX ?_
      refine J.thenX ?_
      refine J.inX ?_
      refine J.thenN ?_
      exact J.meetI (()) (()) h (by repeat (first | exact SubF.nil | refine SubF.cons rfl ?_)) (SubM.nil) (LentAll.refl _ _)
  · clear h
    intro a2 b3 h
    unfold graph_DifferentIDs_k1 at h
    refine J.seq ?_
    refine J.region ?_
    refine J.quiet (Y.assign rfl) rfl ?_
    refine J.done ?_
    refine J.thenN ?_
    refine J.ret ?_
    obtain rfl := Option.some.inj h
    exact J.retG1 (()) rfl rfl (RV.tmp rfl) (SubM.refl _) LentAll.nil

end Go.Proofs.Ytmajgimhmfeliaa
end
