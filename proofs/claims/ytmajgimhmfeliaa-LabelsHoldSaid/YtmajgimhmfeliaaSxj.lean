/- The layer Sx, part 10: rules that find their own side conditions, inside regions that draw and for loud operations. Conditions: a table of types that is right for the program. (Written by mkSxj.py.) -/
import Derived.Test.YtmajgimhmfeliaaSxi
set_option linter.unusedVariables false
set_option linter.unusedSimpArgs false
namespace Go.Sx
open Go.RowKit

theorem mixedOrders : Go.Proofs.Try.prog.follows .mixedOrders = true := by kernel_rfl

section
variable {P : Program} {rd : Option Nat} {c : Ctx} {n : Sz} {σ : Fr} {M L : List Fact} {Q : Exit → Act → World → Prop} {ops : Array Oper} {rest : List Oper}

theorem Y.buildOf {d : Option Tmp} {ty : TypeId} {pos : String} {aft : Array Edge} {g : Option (Nat × Bool)} {T : TypeId} {ps : List (Nat × Operand)} {vs : List (Nat × Value)} {r : Value} (hv : ps.map (fun p => (p.1, ev σ p.2)) = vs.map (fun p => (p.1, some p.2)))
    (hr : ∀ w, (Instr.build T vs.toArray).run P w = .ok r w) : Y P c n σ M L ⟨d, .build T ps.toArray, ty, pos, aft, g⟩ r := fun a w s _ => by
  have hps : ps.map (fun p => (p.1, a.eval p.2)) = vs := by
    clear hr
    induction ps generalizing vs with
    | nil => cases vs <;> simp_all
    | cons p ps ih =>
      cases vs with
      | nil => simp at hv
      | cons q vs =>
        simp only [List.map_cons, List.cons.injEq, Prod.mk.injEq] at hv
        simp only [List.map_cons, s.eval hv.1.2, hv.1.1, ih hv.2]
  simp only [execOp, List.map_toArray, hps]
  simp [hr w]

theorem Y.bld0 {d : Option Tmp} {ty : TypeId} {pos : String} {aft : Array Edge} {g : Option (Nat × Bool)} {T : TypeId} {r : Value} (hr : ∀ w, (Instr.build T ([] : List (Nat × Value)).toArray).run P w = .ok r w) : Y P c n σ M L ⟨d, .build T #[], ty, pos, aft, g⟩ r :=
  Y.buildOf (ps := []) (vs := []) (by simp) hr
theorem Y.bld1 {d : Option Tmp} {ty : TypeId} {pos : String} {aft : Array Edge} {g : Option (Nat × Bool)} {T : TypeId} {i0 : Nat} {x0 : Operand} {v0 : Value} {r : Value} (h0 : ev σ x0 = some v0) (hr : ∀ w, (Instr.build T ([(i0, v0)] : List (Nat × Value)).toArray).run P w = .ok r w) : Y P c n σ M L ⟨d, .build T #[(i0, x0)], ty, pos, aft, g⟩ r :=
  Y.buildOf (ps := [(i0, x0)]) (vs := [(i0, v0)]) (by simp [h0]) hr
theorem Y.bld2 {d : Option Tmp} {ty : TypeId} {pos : String} {aft : Array Edge} {g : Option (Nat × Bool)} {T : TypeId} {i0 i1 : Nat} {x0 x1 : Operand} {v0 v1 : Value} {r : Value} (h0 : ev σ x0 = some v0) (h1 : ev σ x1 = some v1) (hr : ∀ w, (Instr.build T ([(i0, v0), (i1, v1)] : List (Nat × Value)).toArray).run P w = .ok r w) : Y P c n σ M L ⟨d, .build T #[(i0, x0), (i1, x1)], ty, pos, aft, g⟩ r :=
  Y.buildOf (ps := [(i0, x0), (i1, x1)]) (vs := [(i0, v0), (i1, v1)]) (by simp [h0, h1]) hr
theorem Y.bld3 {d : Option Tmp} {ty : TypeId} {pos : String} {aft : Array Edge} {g : Option (Nat × Bool)} {T : TypeId} {i0 i1 i2 : Nat} {x0 x1 x2 : Operand} {v0 v1 v2 : Value} {r : Value} (h0 : ev σ x0 = some v0) (h1 : ev σ x1 = some v1) (h2 : ev σ x2 = some v2) (hr : ∀ w, (Instr.build T ([(i0, v0), (i1, v1), (i2, v2)] : List (Nat × Value)).toArray).run P w = .ok r w) : Y P c n σ M L ⟨d, .build T #[(i0, x0), (i1, x1), (i2, x2)], ty, pos, aft, g⟩ r :=
  Y.buildOf (ps := [(i0, x0), (i1, x1), (i2, x2)]) (vs := [(i0, v0), (i1, v1), (i2, v2)]) (by simp [h0, h1, h2]) hr
theorem Y.bld4 {d : Option Tmp} {ty : TypeId} {pos : String} {aft : Array Edge} {g : Option (Nat × Bool)} {T : TypeId} {i0 i1 i2 i3 : Nat} {x0 x1 x2 x3 : Operand} {v0 v1 v2 v3 : Value} {r : Value} (h0 : ev σ x0 = some v0) (h1 : ev σ x1 = some v1) (h2 : ev σ x2 = some v2) (h3 : ev σ x3 = some v3) (hr : ∀ w, (Instr.build T ([(i0, v0), (i1, v1), (i2, v2), (i3, v3)] : List (Nat × Value)).toArray).run P w = .ok r w) : Y P c n σ M L ⟨d, .build T #[(i0, x0), (i1, x1), (i2, x2), (i3, x3)], ty, pos, aft, g⟩ r :=
  Y.buildOf (ps := [(i0, x0), (i1, x1), (i2, x2), (i3, x3)]) (vs := [(i0, v0), (i1, v1), (i2, v2), (i3, v3)]) (by simp [h0, h1, h2, h3]) hr
theorem Y.makeFunc1 {d : Option Tmp} {ty : TypeId} {pos : String} {aft : Array Edge} {g : Option (Nat × Bool)} {fn : Fn} {x : Operand} {v : Value} (hx : ev σ x = some v) : Y P c n σ M L ⟨d, .makeFunc fn #[] #[x], ty, pos, aft, g⟩ (.func fn #[] #[v]) := fun a w s _ => by
  simp [execOp, Instr.makeFunc, s.eval hx]
theorem tdiv_bd {x y : Int} (h0 : 0 ≤ x) (h1 : 1 ≤ y) : 0 ≤ x.tdiv y ∧ x.tdiv y ≤ x := by
  rw [Int.tdiv_eq_ediv_of_nonneg h0]
  exact ⟨Int.ediv_nonneg h0 (by omega), Int.ediv_le_self y h0⟩
theorem tdiv_lo {x y : Int} (h0 : 0 ≤ x ∧ x ≤ 9223372036854775807) (h1 : 1 ≤ y) : -9223372036854775808 ≤ x.tdiv y := by have := tdiv_bd h0.1 h1; omega
theorem tdiv_hi {x y : Int} (h0 : 0 ≤ x ∧ x ≤ 9223372036854775807) (h1 : 1 ≤ y) : x.tdiv y ≤ 9223372036854775807 := by have := tdiv_bd h0.1 h1; omega
theorem cells_agg (cs : Array Value) : (Value.agg cs).cells = cs := rfl
theorem build_link (a b : Int) (w : World) : (Instr.build 40 [(0, Value.int .i64 a), (1, Value.int .i64 b)].toArray).run Go.Proofs.Try.prog w = .ok (.agg #[.int .i64 a, .int .i64 b]) w := by
  simp [Instr.build, Instr.fill, Value.cells]
theorem build_graph0 (w : World) : (Instr.build 29 ([] : List (Nat × Value)).toArray).run Go.Proofs.Try.prog w = .ok (.agg #[.slice none 0 0, .slice none 0 0]) w := by
  simp [Instr.build, Instr.fill, Value.cells]
theorem build_graph1 {v : Value} (hv : one v = true) (w : World) : (Instr.build 29 [(1, v)].toArray).run Go.Proofs.Try.prog w = .ok (.agg #[.slice none 0 0, v]) w := by
  simp [Instr.build, Instr.fill, cells_agg, one_cells hv]
theorem build_graph2 {u v : Value} (hu : one u = true) (hv : one v = true) (w : World) : (Instr.build 29 [(0, u), (1, v)].toArray).run Go.Proofs.Try.prog w = .ok (.agg #[u, v]) w := by
  simp [Instr.build, Instr.fill, cells_agg, one_cells hu, one_cells hv]

theorem J.oneSl {α : Type} {r : Rep α} {v : Value} {xs : List α} {G : Act → World → Prop} (hf : Sl r v xs ∈ L) (h : one v = true → J c n σ M L G) : J c n σ M L G := fun a w s t => h (by
  obtain ⟨S, a', cap, hv, _⟩ := t.fact hf
  subst hv; rfl) a w s t
theorem J.oneAr {α : Type} {e : Enc α} (i : Nat) {v : Value} {xs : List α} {G : Act → World → Prop} (hf : M[i]? = some (Ar e v xs)) (h : one v = true → J c n σ M L G) : J c n σ M L G := fun a w s t => h (by
  obtain ⟨S, _, _, hh⟩ := t.res hf
  rcases hh with ⟨rfl, _⟩ | ⟨b, off, cap, T, cur, rfl, _⟩ <;> rfl) a w s t
theorem J.lenAr {α : Type} {e : Enc α} (i : Nat) {v : Value} {xs : List α} {G : Act → World → Prop} (hf : M[i]? = some (Ar e v xs)) (h : xs.length ≤ 140737488355328 → J c n σ M L G) : J c n σ M L G := fun a w s t => h (by
  obtain ⟨S, hl, _⟩ := t.res hf
  exact hl) a w s t

/-- an operation that only computes; its value by looking -/
theorem J.q [Tab P] {d : Nat} {op : Op} {ty : TypeId} {pos : String} {aft : Array Edge} {v : Value}
    (hy : Y P c n σ M L ⟨some d, op, ty, pos, aft, none⟩ v := by
    first
      | ((with_reducible apply Go.Sx.Y.move); exact rfl)
      | ((with_reducible apply Go.Sx.Y.assign); exact rfl)
      | ((with_reducible apply Go.Sx.Y.lss); exact rfl; exact rfl)
      | ((with_reducible apply Go.Sx.Y.add); exact rfl; exact rfl; omega; omega)
      | ((with_reducible apply Go.Sx.Y.sub); exact rfl; exact rfl; omega; omega)
      | ((with_reducible apply Go.Sx.Y.fieldB); exact rfl; exact rfl; exact rfl; exact rfl; exact rfl)
      | ((with_reducible apply Go.Sx.Y.fieldEl); exact rfl; exact rfl; exact rfl; exact rfl; exact rfl)
      | ((with_reducible apply Go.Sx.Y.loadB 0); exact rfl; exact rfl; exact rfl; exact rfl; exact rfl)
      | ((with_reducible apply Go.Sx.Y.loadB 1); exact rfl; exact rfl; exact rfl; exact rfl; exact rfl)
      | ((with_reducible apply Go.Sx.Y.loadB 2); exact rfl; exact rfl; exact rfl; exact rfl; exact rfl)
      | ((with_reducible apply Go.Sx.Y.loadB 3); exact rfl; exact rfl; exact rfl; exact rfl; exact rfl)
      | ((with_reducible apply Go.Sx.Y.len); exact rfl; exact Go.Sx.mem1; exact rfl)
      | ((with_reducible apply Go.Sx.Y.index); exact rfl; exact rfl; exact Go.Sx.mem1; exact rfl; exact rfl; omega; omega)
      | ((with_reducible apply Go.Sx.Y.loadInt); exact rfl; exact Go.Sx.mem1; exact rfl; exact rfl; omega; omega)
      | ((with_reducible apply Go.Sx.Y.loadSl); exact rfl; exact Go.Sx.mem1; exact rfl; exact rfl; omega; omega)
      | ((with_reducible apply Go.Sx.Y.loadTo); exact rfl; exact Go.Sx.mem1; exact rfl; exact rfl; omega; omega)
      | ((with_reducible apply Go.Sx.Y.loadWeight); exact rfl; exact Go.Sx.mem1; exact rfl; exact rfl; omega; omega)
      | ((with_reducible apply Go.Sx.Y.loadLink); exact rfl; exact Go.Sx.mem1; exact rfl; exact rfl; omega; omega)
      | ((with_reducible apply Go.Sx.Y.loadBAll 0); exact rfl; exact rfl; exact rfl; exact rfl)
      | ((with_reducible apply Go.Sx.Y.loadBAll 1); exact rfl; exact rfl; exact rfl; exact rfl)
      | ((with_reducible apply Go.Sx.Y.loadBAll 2); exact rfl; exact rfl; exact rfl; exact rfl)
      | ((with_reducible apply Go.Sx.Y.loadBAll 3); exact rfl; exact rfl; exact rfl; exact rfl)
      | ((with_reducible apply Go.Sx.Y.eql); exact rfl; exact rfl)
      | ((with_reducible apply Go.Sx.Y.neq); exact rfl; exact rfl)
      | ((with_reducible apply Go.Sx.Y.leq); exact rfl; exact rfl)
      | ((with_reducible apply Go.Sx.Y.gtr); exact rfl; exact rfl)
      | ((with_reducible apply Go.Sx.Y.geq); exact rfl; exact rfl)
      | ((with_reducible apply Go.Sx.Y.notD); exact rfl)
      | ((with_reducible apply Go.Sx.Y.not); exact rfl)
      | ((with_reducible apply Go.Sx.Y.pickT); exact rfl; exact rfl)
      | ((with_reducible apply Go.Sx.Y.pickF); exact rfl; exact rfl)
      | ((with_reducible apply Go.Sx.Y.max); exact rfl; exact rfl)
      | ((with_reducible apply Go.Sx.Y.min); exact rfl; exact rfl)
      | ((with_reducible apply Go.Sx.Y.extract); exact rfl; exact rfl)
      | ((with_reducible apply Go.Sx.Y.mul); exact rfl; exact rfl; omega; omega)
      | ((with_reducible apply Go.Sx.Y.rem); exact rfl; exact rfl; omega)
      | ((with_reducible apply Go.Sx.Y.lenA 0); exact rfl; exact rfl; exact rfl)
      | ((with_reducible apply Go.Sx.Y.indexA 0); exact rfl; exact rfl; exact rfl; exact rfl; exact rfl; omega; omega)
      | ((with_reducible apply Go.Sx.Y.loadA0 (α := Int) 0); exact rfl; exact rfl; exact rfl; exact rfl; exact rfl; exact rfl; omega; omega)
      | ((with_reducible apply Go.Sx.Y.loadA0 (α := Bool) 0); exact rfl; exact rfl; exact rfl; exact rfl; exact rfl; exact rfl; omega; omega)
      | ((with_reducible apply Go.Sx.Y.loadA0 (α := Value) 0); exact rfl; exact rfl; exact rfl; exact rfl; exact rfl; exact rfl; omega; omega)
      | ((with_reducible apply Go.Sx.Y.loadA (α := Int × Int) 0); exact rfl; exact rfl; exact rfl; exact rfl; exact rfl; exact rfl; omega; omega)
      | ((with_reducible apply Go.Sx.Y.lenA 1); exact rfl; exact rfl; exact rfl)
      | ((with_reducible apply Go.Sx.Y.indexA 1); exact rfl; exact rfl; exact rfl; exact rfl; exact rfl; omega; omega)
      | ((with_reducible apply Go.Sx.Y.loadA0 (α := Int) 1); exact rfl; exact rfl; exact rfl; exact rfl; exact rfl; exact rfl; omega; omega)
      | ((with_reducible apply Go.Sx.Y.loadA0 (α := Bool) 1); exact rfl; exact rfl; exact rfl; exact rfl; exact rfl; exact rfl; omega; omega)
      | ((with_reducible apply Go.Sx.Y.loadA0 (α := Value) 1); exact rfl; exact rfl; exact rfl; exact rfl; exact rfl; exact rfl; omega; omega)
      | ((with_reducible apply Go.Sx.Y.loadA (α := Int × Int) 1); exact rfl; exact rfl; exact rfl; exact rfl; exact rfl; exact rfl; omega; omega)
      | ((with_reducible apply Go.Sx.Y.lenA 2); exact rfl; exact rfl; exact rfl)
      | ((with_reducible apply Go.Sx.Y.indexA 2); exact rfl; exact rfl; exact rfl; exact rfl; exact rfl; omega; omega)
      | ((with_reducible apply Go.Sx.Y.loadA0 (α := Int) 2); exact rfl; exact rfl; exact rfl; exact rfl; exact rfl; exact rfl; omega; omega)
      | ((with_reducible apply Go.Sx.Y.loadA0 (α := Bool) 2); exact rfl; exact rfl; exact rfl; exact rfl; exact rfl; exact rfl; omega; omega)
      | ((with_reducible apply Go.Sx.Y.loadA0 (α := Value) 2); exact rfl; exact rfl; exact rfl; exact rfl; exact rfl; exact rfl; omega; omega)
      | ((with_reducible apply Go.Sx.Y.loadA (α := Int × Int) 2); exact rfl; exact rfl; exact rfl; exact rfl; exact rfl; exact rfl; omega; omega)
      | ((with_reducible apply Go.Sx.Y.lenA 3); exact rfl; exact rfl; exact rfl)
      | ((with_reducible apply Go.Sx.Y.indexA 3); exact rfl; exact rfl; exact rfl; exact rfl; exact rfl; omega; omega)
      | ((with_reducible apply Go.Sx.Y.loadA0 (α := Int) 3); exact rfl; exact rfl; exact rfl; exact rfl; exact rfl; exact rfl; omega; omega)
      | ((with_reducible apply Go.Sx.Y.loadA0 (α := Bool) 3); exact rfl; exact rfl; exact rfl; exact rfl; exact rfl; exact rfl; omega; omega)
      | ((with_reducible apply Go.Sx.Y.loadA0 (α := Value) 3); exact rfl; exact rfl; exact rfl; exact rfl; exact rfl; exact rfl; omega; omega)
      | ((with_reducible apply Go.Sx.Y.loadA (α := Int × Int) 3); exact rfl; exact rfl; exact rfl; exact rfl; exact rfl; exact rfl; omega; omega)
      | ((with_reducible apply Go.Sx.Y.lenA 4); exact rfl; exact rfl; exact rfl)
      | ((with_reducible apply Go.Sx.Y.indexA 4); exact rfl; exact rfl; exact rfl; exact rfl; exact rfl; omega; omega)
      | ((with_reducible apply Go.Sx.Y.loadA0 (α := Int) 4); exact rfl; exact rfl; exact rfl; exact rfl; exact rfl; exact rfl; omega; omega)
      | ((with_reducible apply Go.Sx.Y.loadA0 (α := Bool) 4); exact rfl; exact rfl; exact rfl; exact rfl; exact rfl; exact rfl; omega; omega)
      | ((with_reducible apply Go.Sx.Y.loadA0 (α := Value) 4); exact rfl; exact rfl; exact rfl; exact rfl; exact rfl; exact rfl; omega; omega)
      | ((with_reducible apply Go.Sx.Y.loadA (α := Int × Int) 4); exact rfl; exact rfl; exact rfl; exact rfl; exact rfl; exact rfl; omega; omega)
      | ((with_reducible apply Go.Sx.Y.lenA 5); exact rfl; exact rfl; exact rfl)
      | ((with_reducible apply Go.Sx.Y.indexA 5); exact rfl; exact rfl; exact rfl; exact rfl; exact rfl; omega; omega)
      | ((with_reducible apply Go.Sx.Y.loadA0 (α := Int) 5); exact rfl; exact rfl; exact rfl; exact rfl; exact rfl; exact rfl; omega; omega)
      | ((with_reducible apply Go.Sx.Y.loadA0 (α := Bool) 5); exact rfl; exact rfl; exact rfl; exact rfl; exact rfl; exact rfl; omega; omega)
      | ((with_reducible apply Go.Sx.Y.loadA0 (α := Value) 5); exact rfl; exact rfl; exact rfl; exact rfl; exact rfl; exact rfl; omega; omega)
      | ((with_reducible apply Go.Sx.Y.loadA (α := Int × Int) 5); exact rfl; exact rfl; exact rfl; exact rfl; exact rfl; exact rfl; omega; omega)
      | ((with_reducible apply Go.Sx.Y.bld2); exact rfl; exact rfl; (first | exact Go.Sx.build_link _ _ | exact Go.Sx.build_graph2 (by first | rfl | assumption) (by first | rfl | assumption)))
      | ((with_reducible apply Go.Sx.Y.bld0); exact Go.Sx.build_graph0)
      | ((with_reducible apply Go.Sx.Y.bld1); exact rfl; exact Go.Sx.build_graph1 (by first | rfl | assumption))
      | ((with_reducible apply Go.Sx.Y.makeFunc1); exact rfl)
      | ((with_reducible apply Go.Sx.Y.loadBL); exact rfl; exact Go.Sx.mem1; exact rfl; exact rfl; exact rfl)
      | ((with_reducible apply Go.Sx.Y.quo); exact rfl; exact rfl; omega; (first | omega | exact Go.Sx.tdiv_lo (by omega) (by omega)); (first | omega | exact Go.Sx.tdiv_hi (by omega) (by omega)))
      | ((with_reducible apply Go.Sx.Y.loadB 4); exact rfl; exact rfl; exact rfl; exact rfl; exact rfl)
      | ((with_reducible apply Go.Sx.Y.loadB 5); exact rfl; exact rfl; exact rfl; exact rfl; exact rfl)
      | ((with_reducible apply Go.Sx.Y.loadBAll 4); exact rfl; exact rfl; exact rfl; exact rfl)
      | ((with_reducible apply Go.Sx.Y.loadBAll 5); exact rfl; exact rfl; exact rfl; exact rfl))
    (hd : Nat.blt d n.sz = true := by exact rfl) (h : J c n ((d, v) :: σ) M L (wpList P ops Q rest)) :
    J c n σ M L (wpList P ops Q (⟨some d, op, ty, pos, aft, none⟩ :: rest)) := J.quiet hy hd h

/-- a guarded operation whose guard is met -/
theorem J.qg [Tab P] {d : Nat} {op : Op} {ty : TypeId} {pos : String} {aft : Array Edge} {j : Nat} {b : Bool} {v : Value}
    (hg : gv ops σ j = some b := by exact rfl) (hy : Y P c n σ M L ⟨some d, op, ty, pos, aft, some (j, b)⟩ v := by
    first
      | ((with_reducible apply Go.Sx.Y.move); exact rfl)
      | ((with_reducible apply Go.Sx.Y.assign); exact rfl)
      | ((with_reducible apply Go.Sx.Y.lss); exact rfl; exact rfl)
      | ((with_reducible apply Go.Sx.Y.add); exact rfl; exact rfl; omega; omega)
      | ((with_reducible apply Go.Sx.Y.sub); exact rfl; exact rfl; omega; omega)
      | ((with_reducible apply Go.Sx.Y.fieldB); exact rfl; exact rfl; exact rfl; exact rfl; exact rfl)
      | ((with_reducible apply Go.Sx.Y.fieldEl); exact rfl; exact rfl; exact rfl; exact rfl; exact rfl)
      | ((with_reducible apply Go.Sx.Y.loadB 0); exact rfl; exact rfl; exact rfl; exact rfl; exact rfl)
      | ((with_reducible apply Go.Sx.Y.loadB 1); exact rfl; exact rfl; exact rfl; exact rfl; exact rfl)
      | ((with_reducible apply Go.Sx.Y.loadB 2); exact rfl; exact rfl; exact rfl; exact rfl; exact rfl)
      | ((with_reducible apply Go.Sx.Y.loadB 3); exact rfl; exact rfl; exact rfl; exact rfl; exact rfl)
      | ((with_reducible apply Go.Sx.Y.len); exact rfl; exact Go.Sx.mem1; exact rfl)
      | ((with_reducible apply Go.Sx.Y.index); exact rfl; exact rfl; exact Go.Sx.mem1; exact rfl; exact rfl; omega; omega)
      | ((with_reducible apply Go.Sx.Y.loadInt); exact rfl; exact Go.Sx.mem1; exact rfl; exact rfl; omega; omega)
      | ((with_reducible apply Go.Sx.Y.loadSl); exact rfl; exact Go.Sx.mem1; exact rfl; exact rfl; omega; omega)
      | ((with_reducible apply Go.Sx.Y.loadTo); exact rfl; exact Go.Sx.mem1; exact rfl; exact rfl; omega; omega)
      | ((with_reducible apply Go.Sx.Y.loadWeight); exact rfl; exact Go.Sx.mem1; exact rfl; exact rfl; omega; omega)
      | ((with_reducible apply Go.Sx.Y.loadLink); exact rfl; exact Go.Sx.mem1; exact rfl; exact rfl; omega; omega)
      | ((with_reducible apply Go.Sx.Y.loadBAll 0); exact rfl; exact rfl; exact rfl; exact rfl)
      | ((with_reducible apply Go.Sx.Y.loadBAll 1); exact rfl; exact rfl; exact rfl; exact rfl)
      | ((with_reducible apply Go.Sx.Y.loadBAll 2); exact rfl; exact rfl; exact rfl; exact rfl)
      | ((with_reducible apply Go.Sx.Y.loadBAll 3); exact rfl; exact rfl; exact rfl; exact rfl)
      | ((with_reducible apply Go.Sx.Y.eql); exact rfl; exact rfl)
      | ((with_reducible apply Go.Sx.Y.neq); exact rfl; exact rfl)
      | ((with_reducible apply Go.Sx.Y.leq); exact rfl; exact rfl)
      | ((with_reducible apply Go.Sx.Y.gtr); exact rfl; exact rfl)
      | ((with_reducible apply Go.Sx.Y.geq); exact rfl; exact rfl)
      | ((with_reducible apply Go.Sx.Y.notD); exact rfl)
      | ((with_reducible apply Go.Sx.Y.not); exact rfl)
      | ((with_reducible apply Go.Sx.Y.pickT); exact rfl; exact rfl)
      | ((with_reducible apply Go.Sx.Y.pickF); exact rfl; exact rfl)
      | ((with_reducible apply Go.Sx.Y.max); exact rfl; exact rfl)
      | ((with_reducible apply Go.Sx.Y.min); exact rfl; exact rfl)
      | ((with_reducible apply Go.Sx.Y.extract); exact rfl; exact rfl)
      | ((with_reducible apply Go.Sx.Y.mul); exact rfl; exact rfl; omega; omega)
      | ((with_reducible apply Go.Sx.Y.rem); exact rfl; exact rfl; omega)
      | ((with_reducible apply Go.Sx.Y.lenA 0); exact rfl; exact rfl; exact rfl)
      | ((with_reducible apply Go.Sx.Y.indexA 0); exact rfl; exact rfl; exact rfl; exact rfl; exact rfl; omega; omega)
      | ((with_reducible apply Go.Sx.Y.loadA0 (α := Int) 0); exact rfl; exact rfl; exact rfl; exact rfl; exact rfl; exact rfl; omega; omega)
      | ((with_reducible apply Go.Sx.Y.loadA0 (α := Bool) 0); exact rfl; exact rfl; exact rfl; exact rfl; exact rfl; exact rfl; omega; omega)
      | ((with_reducible apply Go.Sx.Y.loadA0 (α := Value) 0); exact rfl; exact rfl; exact rfl; exact rfl; exact rfl; exact rfl; omega; omega)
      | ((with_reducible apply Go.Sx.Y.loadA (α := Int × Int) 0); exact rfl; exact rfl; exact rfl; exact rfl; exact rfl; exact rfl; omega; omega)
      | ((with_reducible apply Go.Sx.Y.lenA 1); exact rfl; exact rfl; exact rfl)
      | ((with_reducible apply Go.Sx.Y.indexA 1); exact rfl; exact rfl; exact rfl; exact rfl; exact rfl; omega; omega)
      | ((with_reducible apply Go.Sx.Y.loadA0 (α := Int) 1); exact rfl; exact rfl; exact rfl; exact rfl; exact rfl; exact rfl; omega; omega)
      | ((with_reducible apply Go.Sx.Y.loadA0 (α := Bool) 1); exact rfl; exact rfl; exact rfl; exact rfl; exact rfl; exact rfl; omega; omega)
      | ((with_reducible apply Go.Sx.Y.loadA0 (α := Value) 1); exact rfl; exact rfl; exact rfl; exact rfl; exact rfl; exact rfl; omega; omega)
      | ((with_reducible apply Go.Sx.Y.loadA (α := Int × Int) 1); exact rfl; exact rfl; exact rfl; exact rfl; exact rfl; exact rfl; omega; omega)
      | ((with_reducible apply Go.Sx.Y.lenA 2); exact rfl; exact rfl; exact rfl)
      | ((with_reducible apply Go.Sx.Y.indexA 2); exact rfl; exact rfl; exact rfl; exact rfl; exact rfl; omega; omega)
      | ((with_reducible apply Go.Sx.Y.loadA0 (α := Int) 2); exact rfl; exact rfl; exact rfl; exact rfl; exact rfl; exact rfl; omega; omega)
      | ((with_reducible apply Go.Sx.Y.loadA0 (α := Bool) 2); exact rfl; exact rfl; exact rfl; exact rfl; exact rfl; exact rfl; omega; omega)
      | ((with_reducible apply Go.Sx.Y.loadA0 (α := Value) 2); exact rfl; exact rfl; exact rfl; exact rfl; exact rfl; exact rfl; omega; omega)
      | ((with_reducible apply Go.Sx.Y.loadA (α := Int × Int) 2); exact rfl; exact rfl; exact rfl; exact rfl; exact rfl; exact rfl; omega; omega)
      | ((with_reducible apply Go.Sx.Y.lenA 3); exact rfl; exact rfl; exact rfl)
      | ((with_reducible apply Go.Sx.Y.indexA 3); exact rfl; exact rfl; exact rfl; exact rfl; exact rfl; omega; omega)
      | ((with_reducible apply Go.Sx.Y.loadA0 (α := Int) 3); exact rfl; exact rfl; exact rfl; exact rfl; exact rfl; exact rfl; omega; omega)
      | ((with_reducible apply Go.Sx.Y.loadA0 (α := Bool) 3); exact rfl; exact rfl; exact rfl; exact rfl; exact rfl; exact rfl; omega; omega)
      | ((with_reducible apply Go.Sx.Y.loadA0 (α := Value) 3); exact rfl; exact rfl; exact rfl; exact rfl; exact rfl; exact rfl; omega; omega)
      | ((with_reducible apply Go.Sx.Y.loadA (α := Int × Int) 3); exact rfl; exact rfl; exact rfl; exact rfl; exact rfl; exact rfl; omega; omega)
      | ((with_reducible apply Go.Sx.Y.lenA 4); exact rfl; exact rfl; exact rfl)
      | ((with_reducible apply Go.Sx.Y.indexA 4); exact rfl; exact rfl; exact rfl; exact rfl; exact rfl; omega; omega)
      | ((with_reducible apply Go.Sx.Y.loadA0 (α := Int) 4); exact rfl; exact rfl; exact rfl; exact rfl; exact rfl; exact rfl; omega; omega)
      | ((with_reducible apply Go.Sx.Y.loadA0 (α := Bool) 4); exact rfl; exact rfl; exact rfl; exact rfl; exact rfl; exact rfl; omega; omega)
      | ((with_reducible apply Go.Sx.Y.loadA0 (α := Value) 4); exact rfl; exact rfl; exact rfl; exact rfl; exact rfl; exact rfl; omega; omega)
      | ((with_reducible apply Go.Sx.Y.loadA (α := Int × Int) 4); exact rfl; exact rfl; exact rfl; exact rfl; exact rfl; exact rfl; omega; omega)
      | ((with_reducible apply Go.Sx.Y.lenA 5); exact rfl; exact rfl; exact rfl)
      | ((with_reducible apply Go.Sx.Y.indexA 5); exact rfl; exact rfl; exact rfl; exact rfl; exact rfl; omega; omega)
      | ((with_reducible apply Go.Sx.Y.loadA0 (α := Int) 5); exact rfl; exact rfl; exact rfl; exact rfl; exact rfl; exact rfl; omega; omega)
      | ((with_reducible apply Go.Sx.Y.loadA0 (α := Bool) 5); exact rfl; exact rfl; exact rfl; exact rfl; exact rfl; exact rfl; omega; omega)
      | ((with_reducible apply Go.Sx.Y.loadA0 (α := Value) 5); exact rfl; exact rfl; exact rfl; exact rfl; exact rfl; exact rfl; omega; omega)
      | ((with_reducible apply Go.Sx.Y.loadA (α := Int × Int) 5); exact rfl; exact rfl; exact rfl; exact rfl; exact rfl; exact rfl; omega; omega)
      | ((with_reducible apply Go.Sx.Y.bld2); exact rfl; exact rfl; (first | exact Go.Sx.build_link _ _ | exact Go.Sx.build_graph2 (by first | rfl | assumption) (by first | rfl | assumption)))
      | ((with_reducible apply Go.Sx.Y.bld0); exact Go.Sx.build_graph0)
      | ((with_reducible apply Go.Sx.Y.bld1); exact rfl; exact Go.Sx.build_graph1 (by first | rfl | assumption))
      | ((with_reducible apply Go.Sx.Y.makeFunc1); exact rfl)
      | ((with_reducible apply Go.Sx.Y.loadBL); exact rfl; exact Go.Sx.mem1; exact rfl; exact rfl; exact rfl)
      | ((with_reducible apply Go.Sx.Y.quo); exact rfl; exact rfl; omega; (first | omega | exact Go.Sx.tdiv_lo (by omega) (by omega)); (first | omega | exact Go.Sx.tdiv_hi (by omega) (by omega)))
      | ((with_reducible apply Go.Sx.Y.loadB 4); exact rfl; exact rfl; exact rfl; exact rfl; exact rfl)
      | ((with_reducible apply Go.Sx.Y.loadB 5); exact rfl; exact rfl; exact rfl; exact rfl; exact rfl)
      | ((with_reducible apply Go.Sx.Y.loadBAll 4); exact rfl; exact rfl; exact rfl; exact rfl)
      | ((with_reducible apply Go.Sx.Y.loadBAll 5); exact rfl; exact rfl; exact rfl; exact rfl))
    (hd : Nat.blt d n.sz = true := by exact rfl) (h : J c n ((d, v) :: σ) M L (wpList P ops Q rest)) :
    J c n σ M L (wpList P ops Q (⟨some d, op, ty, pos, aft, some (j, b)⟩ :: rest)) := J.guardY hg hy hd h

/-- a guarded operation whose guard is not met -/
theorem J.qn {d : Nat} {op : Op} {ty : TypeId} {pos : String} {aft : Array Edge} {j : Nat} {b b' : Bool}
    (hg : gv ops σ j = some b' := by exact rfl) (hb : (b' == b) = false := by exact rfl) (hd : Nat.blt d n.sz = true := by exact rfl) (h : J c n ((d, undef) :: σ) M L (wpList P ops Q rest)) :
    J c n σ M L (wpList P ops Q (⟨some d, op, ty, pos, aft, some (j, b)⟩ :: rest)) := J.guardN hg hb hd h
end

section
variable {P : Program} {rd : Option Nat} {c : Ctx} {n : Sz} {σ : Fr} {M L : List Fact} {Q : Exit → Act → World → Prop} {l : List Oper} {m : List Nat} {k0 : Nat} {H Bs : List (Nat × List Fact × List Fact)} {rest : List Nat}

theorem JR.q0 [Tab P] {i d : Nat} {op : Op} {ty : TypeId} {pos : String} {aft : Array Edge} {v : Value}
    (hi : l[i]? = some ⟨some d, op, ty, pos, aft, none⟩ := by exact rfl) (hy : Y P c n σ [] [] ⟨some d, op, ty, pos, aft, none⟩ v := by
    first
      | ((with_reducible apply Go.Sx.Y.move); exact rfl)
      | ((with_reducible apply Go.Sx.Y.assign); exact rfl)
      | ((with_reducible apply Go.Sx.Y.lss); exact rfl; exact rfl)
      | ((with_reducible apply Go.Sx.Y.add); exact rfl; exact rfl; omega; omega)
      | ((with_reducible apply Go.Sx.Y.sub); exact rfl; exact rfl; omega; omega)
      | ((with_reducible apply Go.Sx.Y.fieldB); exact rfl; exact rfl; exact rfl; exact rfl; exact rfl)
      | ((with_reducible apply Go.Sx.Y.fieldEl); exact rfl; exact rfl; exact rfl; exact rfl; exact rfl)
      | ((with_reducible apply Go.Sx.Y.loadB 0); exact rfl; exact rfl; exact rfl; exact rfl; exact rfl)
      | ((with_reducible apply Go.Sx.Y.loadB 1); exact rfl; exact rfl; exact rfl; exact rfl; exact rfl)
      | ((with_reducible apply Go.Sx.Y.loadB 2); exact rfl; exact rfl; exact rfl; exact rfl; exact rfl)
      | ((with_reducible apply Go.Sx.Y.loadB 3); exact rfl; exact rfl; exact rfl; exact rfl; exact rfl)
      | ((with_reducible apply Go.Sx.Y.len); exact rfl; exact Go.Sx.mem1; exact rfl)
      | ((with_reducible apply Go.Sx.Y.index); exact rfl; exact rfl; exact Go.Sx.mem1; exact rfl; exact rfl; omega; omega)
      | ((with_reducible apply Go.Sx.Y.loadInt); exact rfl; exact Go.Sx.mem1; exact rfl; exact rfl; omega; omega)
      | ((with_reducible apply Go.Sx.Y.loadSl); exact rfl; exact Go.Sx.mem1; exact rfl; exact rfl; omega; omega)
      | ((with_reducible apply Go.Sx.Y.loadTo); exact rfl; exact Go.Sx.mem1; exact rfl; exact rfl; omega; omega)
      | ((with_reducible apply Go.Sx.Y.loadWeight); exact rfl; exact Go.Sx.mem1; exact rfl; exact rfl; omega; omega)
      | ((with_reducible apply Go.Sx.Y.loadLink); exact rfl; exact Go.Sx.mem1; exact rfl; exact rfl; omega; omega)
      | ((with_reducible apply Go.Sx.Y.loadBAll 0); exact rfl; exact rfl; exact rfl; exact rfl)
      | ((with_reducible apply Go.Sx.Y.loadBAll 1); exact rfl; exact rfl; exact rfl; exact rfl)
      | ((with_reducible apply Go.Sx.Y.loadBAll 2); exact rfl; exact rfl; exact rfl; exact rfl)
      | ((with_reducible apply Go.Sx.Y.loadBAll 3); exact rfl; exact rfl; exact rfl; exact rfl)
      | ((with_reducible apply Go.Sx.Y.eql); exact rfl; exact rfl)
      | ((with_reducible apply Go.Sx.Y.neq); exact rfl; exact rfl)
      | ((with_reducible apply Go.Sx.Y.leq); exact rfl; exact rfl)
      | ((with_reducible apply Go.Sx.Y.gtr); exact rfl; exact rfl)
      | ((with_reducible apply Go.Sx.Y.geq); exact rfl; exact rfl)
      | ((with_reducible apply Go.Sx.Y.notD); exact rfl)
      | ((with_reducible apply Go.Sx.Y.not); exact rfl)
      | ((with_reducible apply Go.Sx.Y.pickT); exact rfl; exact rfl)
      | ((with_reducible apply Go.Sx.Y.pickF); exact rfl; exact rfl)
      | ((with_reducible apply Go.Sx.Y.max); exact rfl; exact rfl)
      | ((with_reducible apply Go.Sx.Y.min); exact rfl; exact rfl)
      | ((with_reducible apply Go.Sx.Y.extract); exact rfl; exact rfl)
      | ((with_reducible apply Go.Sx.Y.mul); exact rfl; exact rfl; omega; omega)
      | ((with_reducible apply Go.Sx.Y.rem); exact rfl; exact rfl; omega)
      | ((with_reducible apply Go.Sx.Y.lenA 0); exact rfl; exact rfl; exact rfl)
      | ((with_reducible apply Go.Sx.Y.indexA 0); exact rfl; exact rfl; exact rfl; exact rfl; exact rfl; omega; omega)
      | ((with_reducible apply Go.Sx.Y.loadA0 (α := Int) 0); exact rfl; exact rfl; exact rfl; exact rfl; exact rfl; exact rfl; omega; omega)
      | ((with_reducible apply Go.Sx.Y.loadA0 (α := Bool) 0); exact rfl; exact rfl; exact rfl; exact rfl; exact rfl; exact rfl; omega; omega)
      | ((with_reducible apply Go.Sx.Y.loadA0 (α := Value) 0); exact rfl; exact rfl; exact rfl; exact rfl; exact rfl; exact rfl; omega; omega)
      | ((with_reducible apply Go.Sx.Y.loadA (α := Int × Int) 0); exact rfl; exact rfl; exact rfl; exact rfl; exact rfl; exact rfl; omega; omega)
      | ((with_reducible apply Go.Sx.Y.lenA 1); exact rfl; exact rfl; exact rfl)
      | ((with_reducible apply Go.Sx.Y.indexA 1); exact rfl; exact rfl; exact rfl; exact rfl; exact rfl; omega; omega)
      | ((with_reducible apply Go.Sx.Y.loadA0 (α := Int) 1); exact rfl; exact rfl; exact rfl; exact rfl; exact rfl; exact rfl; omega; omega)
      | ((with_reducible apply Go.Sx.Y.loadA0 (α := Bool) 1); exact rfl; exact rfl; exact rfl; exact rfl; exact rfl; exact rfl; omega; omega)
      | ((with_reducible apply Go.Sx.Y.loadA0 (α := Value) 1); exact rfl; exact rfl; exact rfl; exact rfl; exact rfl; exact rfl; omega; omega)
      | ((with_reducible apply Go.Sx.Y.loadA (α := Int × Int) 1); exact rfl; exact rfl; exact rfl; exact rfl; exact rfl; exact rfl; omega; omega)
      | ((with_reducible apply Go.Sx.Y.lenA 2); exact rfl; exact rfl; exact rfl)
      | ((with_reducible apply Go.Sx.Y.indexA 2); exact rfl; exact rfl; exact rfl; exact rfl; exact rfl; omega; omega)
      | ((with_reducible apply Go.Sx.Y.loadA0 (α := Int) 2); exact rfl; exact rfl; exact rfl; exact rfl; exact rfl; exact rfl; omega; omega)
      | ((with_reducible apply Go.Sx.Y.loadA0 (α := Bool) 2); exact rfl; exact rfl; exact rfl; exact rfl; exact rfl; exact rfl; omega; omega)
      | ((with_reducible apply Go.Sx.Y.loadA0 (α := Value) 2); exact rfl; exact rfl; exact rfl; exact rfl; exact rfl; exact rfl; omega; omega)
      | ((with_reducible apply Go.Sx.Y.loadA (α := Int × Int) 2); exact rfl; exact rfl; exact rfl; exact rfl; exact rfl; exact rfl; omega; omega)
      | ((with_reducible apply Go.Sx.Y.lenA 3); exact rfl; exact rfl; exact rfl)
      | ((with_reducible apply Go.Sx.Y.indexA 3); exact rfl; exact rfl; exact rfl; exact rfl; exact rfl; omega; omega)
      | ((with_reducible apply Go.Sx.Y.loadA0 (α := Int) 3); exact rfl; exact rfl; exact rfl; exact rfl; exact rfl; exact rfl; omega; omega)
      | ((with_reducible apply Go.Sx.Y.loadA0 (α := Bool) 3); exact rfl; exact rfl; exact rfl; exact rfl; exact rfl; exact rfl; omega; omega)
      | ((with_reducible apply Go.Sx.Y.loadA0 (α := Value) 3); exact rfl; exact rfl; exact rfl; exact rfl; exact rfl; exact rfl; omega; omega)
      | ((with_reducible apply Go.Sx.Y.loadA (α := Int × Int) 3); exact rfl; exact rfl; exact rfl; exact rfl; exact rfl; exact rfl; omega; omega)
      | ((with_reducible apply Go.Sx.Y.lenA 4); exact rfl; exact rfl; exact rfl)
      | ((with_reducible apply Go.Sx.Y.indexA 4); exact rfl; exact rfl; exact rfl; exact rfl; exact rfl; omega; omega)
      | ((with_reducible apply Go.Sx.Y.loadA0 (α := Int) 4); exact rfl; exact rfl; exact rfl; exact rfl; exact rfl; exact rfl; omega; omega)
      | ((with_reducible apply Go.Sx.Y.loadA0 (α := Bool) 4); exact rfl; exact rfl; exact rfl; exact rfl; exact rfl; exact rfl; omega; omega)
      | ((with_reducible apply Go.Sx.Y.loadA0 (α := Value) 4); exact rfl; exact rfl; exact rfl; exact rfl; exact rfl; exact rfl; omega; omega)
      | ((with_reducible apply Go.Sx.Y.loadA (α := Int × Int) 4); exact rfl; exact rfl; exact rfl; exact rfl; exact rfl; exact rfl; omega; omega)
      | ((with_reducible apply Go.Sx.Y.lenA 5); exact rfl; exact rfl; exact rfl)
      | ((with_reducible apply Go.Sx.Y.indexA 5); exact rfl; exact rfl; exact rfl; exact rfl; exact rfl; omega; omega)
      | ((with_reducible apply Go.Sx.Y.loadA0 (α := Int) 5); exact rfl; exact rfl; exact rfl; exact rfl; exact rfl; exact rfl; omega; omega)
      | ((with_reducible apply Go.Sx.Y.loadA0 (α := Bool) 5); exact rfl; exact rfl; exact rfl; exact rfl; exact rfl; exact rfl; omega; omega)
      | ((with_reducible apply Go.Sx.Y.loadA0 (α := Value) 5); exact rfl; exact rfl; exact rfl; exact rfl; exact rfl; exact rfl; omega; omega)
      | ((with_reducible apply Go.Sx.Y.loadA (α := Int × Int) 5); exact rfl; exact rfl; exact rfl; exact rfl; exact rfl; exact rfl; omega; omega)
      | ((with_reducible apply Go.Sx.Y.bld2); exact rfl; exact rfl; (first | exact Go.Sx.build_link _ _ | exact Go.Sx.build_graph2 (by first | rfl | assumption) (by first | rfl | assumption)))
      | ((with_reducible apply Go.Sx.Y.bld0); exact Go.Sx.build_graph0)
      | ((with_reducible apply Go.Sx.Y.bld1); exact rfl; exact Go.Sx.build_graph1 (by first | rfl | assumption))
      | ((with_reducible apply Go.Sx.Y.makeFunc1); exact rfl)
      | ((with_reducible apply Go.Sx.Y.loadBL); exact rfl; exact Go.Sx.mem1; exact rfl; exact rfl; exact rfl)
      | ((with_reducible apply Go.Sx.Y.quo); exact rfl; exact rfl; omega; (first | omega | exact Go.Sx.tdiv_lo (by omega) (by omega)); (first | omega | exact Go.Sx.tdiv_hi (by omega) (by omega)))
      | ((with_reducible apply Go.Sx.Y.loadB 4); exact rfl; exact rfl; exact rfl; exact rfl; exact rfl)
      | ((with_reducible apply Go.Sx.Y.loadB 5); exact rfl; exact rfl; exact rfl; exact rfl; exact rfl)
      | ((with_reducible apply Go.Sx.Y.loadBAll 4); exact rfl; exact rfl; exact rfl; exact rfl)
      | ((with_reducible apply Go.Sx.Y.loadBAll 5); exact rfl; exact rfl; exact rfl; exact rfl))
    (hk : Nat.blt i k0 = true := by exact rfl) (hl : loudOp op = false := by exact rfl) (hH : HistOk (before m i) [] [] H := by repeat (first | exact True.intro | refine And.intro (Or.inl rfl) ?_ | refine And.intro (Or.inr (Go.Sx.Holds2.mk (by first | exact Go.Sx.SubM.nil | exact Go.Sx.SubM.refl _ | repeat (first | exact Go.Sx.SubM.nil | refine Go.Sx.SubM.cons 0 rfl ?_ | refine Go.Sx.SubM.cons 1 rfl ?_ | refine Go.Sx.SubM.cons 2 rfl ?_ | refine Go.Sx.SubM.cons 3 rfl ?_ | refine Go.Sx.SubM.cons 4 rfl ?_ | refine Go.Sx.SubM.cons 5 rfl ?_)) (by first | exact Go.Sx.SubL.nil | exact Go.Sx.SubL.refl _ | repeat (first | exact Go.Sx.SubL.nil | refine Go.Sx.SubL.cons Go.Sx.mem1 ?_)))) ?_)) (hd : Nat.blt d n.sz = true := by exact rfl)
    (h : JR c n ((d, v) :: σ) M L H ((i, [], []) :: Bs) (RW P l.toArray Q (before m) (louds l) k0 rest)) : JR c n σ M L H Bs (RW P l.toArray Q (before m) (louds l) k0 (i :: rest)) :=
  JR.quiet [] [] hi hk hl hy ⟨SubM.nil, SubL.nil⟩ hH hd h

theorem JR.qg0 [Tab P] {i d : Nat} {op : Op} {ty : TypeId} {pos : String} {aft : Array Edge} {j : Nat} {b : Bool} {v : Value}
    (hi : l[i]? = some ⟨some d, op, ty, pos, aft, some (j, b)⟩ := by exact rfl) (hg : gv l.toArray σ j = some b := by exact rfl) (hy : Y P c n σ [] [] ⟨some d, op, ty, pos, aft, some (j, b)⟩ v := by
    first
      | ((with_reducible apply Go.Sx.Y.move); exact rfl)
      | ((with_reducible apply Go.Sx.Y.assign); exact rfl)
      | ((with_reducible apply Go.Sx.Y.lss); exact rfl; exact rfl)
      | ((with_reducible apply Go.Sx.Y.add); exact rfl; exact rfl; omega; omega)
      | ((with_reducible apply Go.Sx.Y.sub); exact rfl; exact rfl; omega; omega)
      | ((with_reducible apply Go.Sx.Y.fieldB); exact rfl; exact rfl; exact rfl; exact rfl; exact rfl)
      | ((with_reducible apply Go.Sx.Y.fieldEl); exact rfl; exact rfl; exact rfl; exact rfl; exact rfl)
      | ((with_reducible apply Go.Sx.Y.loadB 0); exact rfl; exact rfl; exact rfl; exact rfl; exact rfl)
      | ((with_reducible apply Go.Sx.Y.loadB 1); exact rfl; exact rfl; exact rfl; exact rfl; exact rfl)
      | ((with_reducible apply Go.Sx.Y.loadB 2); exact rfl; exact rfl; exact rfl; exact rfl; exact rfl)
      | ((with_reducible apply Go.Sx.Y.loadB 3); exact rfl; exact rfl; exact rfl; exact rfl; exact rfl)
      | ((with_reducible apply Go.Sx.Y.len); exact rfl; exact Go.Sx.mem1; exact rfl)
      | ((with_reducible apply Go.Sx.Y.index); exact rfl; exact rfl; exact Go.Sx.mem1; exact rfl; exact rfl; omega; omega)
      | ((with_reducible apply Go.Sx.Y.loadInt); exact rfl; exact Go.Sx.mem1; exact rfl; exact rfl; omega; omega)
      | ((with_reducible apply Go.Sx.Y.loadSl); exact rfl; exact Go.Sx.mem1; exact rfl; exact rfl; omega; omega)
      | ((with_reducible apply Go.Sx.Y.loadTo); exact rfl; exact Go.Sx.mem1; exact rfl; exact rfl; omega; omega)
      | ((with_reducible apply Go.Sx.Y.loadWeight); exact rfl; exact Go.Sx.mem1; exact rfl; exact rfl; omega; omega)
      | ((with_reducible apply Go.Sx.Y.loadLink); exact rfl; exact Go.Sx.mem1; exact rfl; exact rfl; omega; omega)
      | ((with_reducible apply Go.Sx.Y.loadBAll 0); exact rfl; exact rfl; exact rfl; exact rfl)
      | ((with_reducible apply Go.Sx.Y.loadBAll 1); exact rfl; exact rfl; exact rfl; exact rfl)
      | ((with_reducible apply Go.Sx.Y.loadBAll 2); exact rfl; exact rfl; exact rfl; exact rfl)
      | ((with_reducible apply Go.Sx.Y.loadBAll 3); exact rfl; exact rfl; exact rfl; exact rfl)
      | ((with_reducible apply Go.Sx.Y.eql); exact rfl; exact rfl)
      | ((with_reducible apply Go.Sx.Y.neq); exact rfl; exact rfl)
      | ((with_reducible apply Go.Sx.Y.leq); exact rfl; exact rfl)
      | ((with_reducible apply Go.Sx.Y.gtr); exact rfl; exact rfl)
      | ((with_reducible apply Go.Sx.Y.geq); exact rfl; exact rfl)
      | ((with_reducible apply Go.Sx.Y.notD); exact rfl)
      | ((with_reducible apply Go.Sx.Y.not); exact rfl)
      | ((with_reducible apply Go.Sx.Y.pickT); exact rfl; exact rfl)
      | ((with_reducible apply Go.Sx.Y.pickF); exact rfl; exact rfl)
      | ((with_reducible apply Go.Sx.Y.max); exact rfl; exact rfl)
      | ((with_reducible apply Go.Sx.Y.min); exact rfl; exact rfl)
      | ((with_reducible apply Go.Sx.Y.extract); exact rfl; exact rfl)
      | ((with_reducible apply Go.Sx.Y.mul); exact rfl; exact rfl; omega; omega)
      | ((with_reducible apply Go.Sx.Y.rem); exact rfl; exact rfl; omega)
      | ((with_reducible apply Go.Sx.Y.lenA 0); exact rfl; exact rfl; exact rfl)
      | ((with_reducible apply Go.Sx.Y.indexA 0); exact rfl; exact rfl; exact rfl; exact rfl; exact rfl; omega; omega)
      | ((with_reducible apply Go.Sx.Y.loadA0 (α := Int) 0); exact rfl; exact rfl; exact rfl; exact rfl; exact rfl; exact rfl; omega; omega)
      | ((with_reducible apply Go.Sx.Y.loadA0 (α := Bool) 0); exact rfl; exact rfl; exact rfl; exact rfl; exact rfl; exact rfl; omega; omega)
      | ((with_reducible apply Go.Sx.Y.loadA0 (α := Value) 0); exact rfl; exact rfl; exact rfl; exact rfl; exact rfl; exact rfl; omega; omega)
      | ((with_reducible apply Go.Sx.Y.loadA (α := Int × Int) 0); exact rfl; exact rfl; exact rfl; exact rfl; exact rfl; exact rfl; omega; omega)
      | ((with_reducible apply Go.Sx.Y.lenA 1); exact rfl; exact rfl; exact rfl)
      | ((with_reducible apply Go.Sx.Y.indexA 1); exact rfl; exact rfl; exact rfl; exact rfl; exact rfl; omega; omega)
      | ((with_reducible apply Go.Sx.Y.loadA0 (α := Int) 1); exact rfl; exact rfl; exact rfl; exact rfl; exact rfl; exact rfl; omega; omega)
      | ((with_reducible apply Go.Sx.Y.loadA0 (α := Bool) 1); exact rfl; exact rfl; exact rfl; exact rfl; exact rfl; exact rfl; omega; omega)
      | ((with_reducible apply Go.Sx.Y.loadA0 (α := Value) 1); exact rfl; exact rfl; exact rfl; exact rfl; exact rfl; exact rfl; omega; omega)
      | ((with_reducible apply Go.Sx.Y.loadA (α := Int × Int) 1); exact rfl; exact rfl; exact rfl; exact rfl; exact rfl; exact rfl; omega; omega)
      | ((with_reducible apply Go.Sx.Y.lenA 2); exact rfl; exact rfl; exact rfl)
      | ((with_reducible apply Go.Sx.Y.indexA 2); exact rfl; exact rfl; exact rfl; exact rfl; exact rfl; omega; omega)
      | ((with_reducible apply Go.Sx.Y.loadA0 (α := Int) 2); exact rfl; exact rfl; exact rfl; exact rfl; exact rfl; exact rfl; omega; omega)
      | ((with_reducible apply Go.Sx.Y.loadA0 (α := Bool) 2); exact rfl; exact rfl; exact rfl; exact rfl; exact rfl; exact rfl; omega; omega)
      | ((with_reducible apply Go.Sx.Y.loadA0 (α := Value) 2); exact rfl; exact rfl; exact rfl; exact rfl; exact rfl; exact rfl; omega; omega)
      | ((with_reducible apply Go.Sx.Y.loadA (α := Int × Int) 2); exact rfl; exact rfl; exact rfl; exact rfl; exact rfl; exact rfl; omega; omega)
      | ((with_reducible apply Go.Sx.Y.lenA 3); exact rfl; exact rfl; exact rfl)
      | ((with_reducible apply Go.Sx.Y.indexA 3); exact rfl; exact rfl; exact rfl; exact rfl; exact rfl; omega; omega)
      | ((with_reducible apply Go.Sx.Y.loadA0 (α := Int) 3); exact rfl; exact rfl; exact rfl; exact rfl; exact rfl; exact rfl; omega; omega)
      | ((with_reducible apply Go.Sx.Y.loadA0 (α := Bool) 3); exact rfl; exact rfl; exact rfl; exact rfl; exact rfl; exact rfl; omega; omega)
      | ((with_reducible apply Go.Sx.Y.loadA0 (α := Value) 3); exact rfl; exact rfl; exact rfl; exact rfl; exact rfl; exact rfl; omega; omega)
      | ((with_reducible apply Go.Sx.Y.loadA (α := Int × Int) 3); exact rfl; exact rfl; exact rfl; exact rfl; exact rfl; exact rfl; omega; omega)
      | ((with_reducible apply Go.Sx.Y.lenA 4); exact rfl; exact rfl; exact rfl)
      | ((with_reducible apply Go.Sx.Y.indexA 4); exact rfl; exact rfl; exact rfl; exact rfl; exact rfl; omega; omega)
      | ((with_reducible apply Go.Sx.Y.loadA0 (α := Int) 4); exact rfl; exact rfl; exact rfl; exact rfl; exact rfl; exact rfl; omega; omega)
      | ((with_reducible apply Go.Sx.Y.loadA0 (α := Bool) 4); exact rfl; exact rfl; exact rfl; exact rfl; exact rfl; exact rfl; omega; omega)
      | ((with_reducible apply Go.Sx.Y.loadA0 (α := Value) 4); exact rfl; exact rfl; exact rfl; exact rfl; exact rfl; exact rfl; omega; omega)
      | ((with_reducible apply Go.Sx.Y.loadA (α := Int × Int) 4); exact rfl; exact rfl; exact rfl; exact rfl; exact rfl; exact rfl; omega; omega)
      | ((with_reducible apply Go.Sx.Y.lenA 5); exact rfl; exact rfl; exact rfl)
      | ((with_reducible apply Go.Sx.Y.indexA 5); exact rfl; exact rfl; exact rfl; exact rfl; exact rfl; omega; omega)
      | ((with_reducible apply Go.Sx.Y.loadA0 (α := Int) 5); exact rfl; exact rfl; exact rfl; exact rfl; exact rfl; exact rfl; omega; omega)
      | ((with_reducible apply Go.Sx.Y.loadA0 (α := Bool) 5); exact rfl; exact rfl; exact rfl; exact rfl; exact rfl; exact rfl; omega; omega)
      | ((with_reducible apply Go.Sx.Y.loadA0 (α := Value) 5); exact rfl; exact rfl; exact rfl; exact rfl; exact rfl; exact rfl; omega; omega)
      | ((with_reducible apply Go.Sx.Y.loadA (α := Int × Int) 5); exact rfl; exact rfl; exact rfl; exact rfl; exact rfl; exact rfl; omega; omega)
      | ((with_reducible apply Go.Sx.Y.bld2); exact rfl; exact rfl; (first | exact Go.Sx.build_link _ _ | exact Go.Sx.build_graph2 (by first | rfl | assumption) (by first | rfl | assumption)))
      | ((with_reducible apply Go.Sx.Y.bld0); exact Go.Sx.build_graph0)
      | ((with_reducible apply Go.Sx.Y.bld1); exact rfl; exact Go.Sx.build_graph1 (by first | rfl | assumption))
      | ((with_reducible apply Go.Sx.Y.makeFunc1); exact rfl)
      | ((with_reducible apply Go.Sx.Y.loadBL); exact rfl; exact Go.Sx.mem1; exact rfl; exact rfl; exact rfl)
      | ((with_reducible apply Go.Sx.Y.quo); exact rfl; exact rfl; omega; (first | omega | exact Go.Sx.tdiv_lo (by omega) (by omega)); (first | omega | exact Go.Sx.tdiv_hi (by omega) (by omega)))
      | ((with_reducible apply Go.Sx.Y.loadB 4); exact rfl; exact rfl; exact rfl; exact rfl; exact rfl)
      | ((with_reducible apply Go.Sx.Y.loadB 5); exact rfl; exact rfl; exact rfl; exact rfl; exact rfl)
      | ((with_reducible apply Go.Sx.Y.loadBAll 4); exact rfl; exact rfl; exact rfl; exact rfl)
      | ((with_reducible apply Go.Sx.Y.loadBAll 5); exact rfl; exact rfl; exact rfl; exact rfl))
    (hk : Nat.blt i k0 = true := by exact rfl) (hl : loudOp op = false := by exact rfl) (hH : HistOk (before m i) [] [] H := by repeat (first | exact True.intro | refine And.intro (Or.inl rfl) ?_ | refine And.intro (Or.inr (Go.Sx.Holds2.mk (by first | exact Go.Sx.SubM.nil | exact Go.Sx.SubM.refl _ | repeat (first | exact Go.Sx.SubM.nil | refine Go.Sx.SubM.cons 0 rfl ?_ | refine Go.Sx.SubM.cons 1 rfl ?_ | refine Go.Sx.SubM.cons 2 rfl ?_ | refine Go.Sx.SubM.cons 3 rfl ?_ | refine Go.Sx.SubM.cons 4 rfl ?_ | refine Go.Sx.SubM.cons 5 rfl ?_)) (by first | exact Go.Sx.SubL.nil | exact Go.Sx.SubL.refl _ | repeat (first | exact Go.Sx.SubL.nil | refine Go.Sx.SubL.cons Go.Sx.mem1 ?_)))) ?_)) (hd : Nat.blt d n.sz = true := by exact rfl)
    (h : JR c n ((d, v) :: σ) M L H ((i, [], []) :: Bs) (RW P l.toArray Q (before m) (louds l) k0 rest)) : JR c n σ M L H Bs (RW P l.toArray Q (before m) (louds l) k0 (i :: rest)) :=
  JR.guardY [] [] hi hk hl hg hy ⟨SubM.nil, SubL.nil⟩ hH hd h

theorem JR.qM [Tab P] (q : Nat) {r : Fact} {i d : Nat} {op : Op} {ty : TypeId} {pos : String} {aft : Array Edge} {v : Value}
    (hi : l[i]? = some ⟨some d, op, ty, pos, aft, none⟩ := by exact rfl) (hr : M[q]? = some r := by exact rfl) (hy : Y P c n σ [r] [] ⟨some d, op, ty, pos, aft, none⟩ v := by
    first
      | ((with_reducible apply Go.Sx.Y.move); exact rfl)
      | ((with_reducible apply Go.Sx.Y.assign); exact rfl)
      | ((with_reducible apply Go.Sx.Y.lss); exact rfl; exact rfl)
      | ((with_reducible apply Go.Sx.Y.add); exact rfl; exact rfl; omega; omega)
      | ((with_reducible apply Go.Sx.Y.sub); exact rfl; exact rfl; omega; omega)
      | ((with_reducible apply Go.Sx.Y.fieldB); exact rfl; exact rfl; exact rfl; exact rfl; exact rfl)
      | ((with_reducible apply Go.Sx.Y.fieldEl); exact rfl; exact rfl; exact rfl; exact rfl; exact rfl)
      | ((with_reducible apply Go.Sx.Y.loadB 0); exact rfl; exact rfl; exact rfl; exact rfl; exact rfl)
      | ((with_reducible apply Go.Sx.Y.loadB 1); exact rfl; exact rfl; exact rfl; exact rfl; exact rfl)
      | ((with_reducible apply Go.Sx.Y.loadB 2); exact rfl; exact rfl; exact rfl; exact rfl; exact rfl)
      | ((with_reducible apply Go.Sx.Y.loadB 3); exact rfl; exact rfl; exact rfl; exact rfl; exact rfl)
      | ((with_reducible apply Go.Sx.Y.len); exact rfl; exact Go.Sx.mem1; exact rfl)
      | ((with_reducible apply Go.Sx.Y.index); exact rfl; exact rfl; exact Go.Sx.mem1; exact rfl; exact rfl; omega; omega)
      | ((with_reducible apply Go.Sx.Y.loadInt); exact rfl; exact Go.Sx.mem1; exact rfl; exact rfl; omega; omega)
      | ((with_reducible apply Go.Sx.Y.loadSl); exact rfl; exact Go.Sx.mem1; exact rfl; exact rfl; omega; omega)
      | ((with_reducible apply Go.Sx.Y.loadTo); exact rfl; exact Go.Sx.mem1; exact rfl; exact rfl; omega; omega)
      | ((with_reducible apply Go.Sx.Y.loadWeight); exact rfl; exact Go.Sx.mem1; exact rfl; exact rfl; omega; omega)
      | ((with_reducible apply Go.Sx.Y.loadLink); exact rfl; exact Go.Sx.mem1; exact rfl; exact rfl; omega; omega)
      | ((with_reducible apply Go.Sx.Y.loadBAll 0); exact rfl; exact rfl; exact rfl; exact rfl)
      | ((with_reducible apply Go.Sx.Y.loadBAll 1); exact rfl; exact rfl; exact rfl; exact rfl)
      | ((with_reducible apply Go.Sx.Y.loadBAll 2); exact rfl; exact rfl; exact rfl; exact rfl)
      | ((with_reducible apply Go.Sx.Y.loadBAll 3); exact rfl; exact rfl; exact rfl; exact rfl)
      | ((with_reducible apply Go.Sx.Y.eql); exact rfl; exact rfl)
      | ((with_reducible apply Go.Sx.Y.neq); exact rfl; exact rfl)
      | ((with_reducible apply Go.Sx.Y.leq); exact rfl; exact rfl)
      | ((with_reducible apply Go.Sx.Y.gtr); exact rfl; exact rfl)
      | ((with_reducible apply Go.Sx.Y.geq); exact rfl; exact rfl)
      | ((with_reducible apply Go.Sx.Y.notD); exact rfl)
      | ((with_reducible apply Go.Sx.Y.not); exact rfl)
      | ((with_reducible apply Go.Sx.Y.pickT); exact rfl; exact rfl)
      | ((with_reducible apply Go.Sx.Y.pickF); exact rfl; exact rfl)
      | ((with_reducible apply Go.Sx.Y.max); exact rfl; exact rfl)
      | ((with_reducible apply Go.Sx.Y.min); exact rfl; exact rfl)
      | ((with_reducible apply Go.Sx.Y.extract); exact rfl; exact rfl)
      | ((with_reducible apply Go.Sx.Y.mul); exact rfl; exact rfl; omega; omega)
      | ((with_reducible apply Go.Sx.Y.rem); exact rfl; exact rfl; omega)
      | ((with_reducible apply Go.Sx.Y.lenA 0); exact rfl; exact rfl; exact rfl)
      | ((with_reducible apply Go.Sx.Y.indexA 0); exact rfl; exact rfl; exact rfl; exact rfl; exact rfl; omega; omega)
      | ((with_reducible apply Go.Sx.Y.loadA0 (α := Int) 0); exact rfl; exact rfl; exact rfl; exact rfl; exact rfl; exact rfl; omega; omega)
      | ((with_reducible apply Go.Sx.Y.loadA0 (α := Bool) 0); exact rfl; exact rfl; exact rfl; exact rfl; exact rfl; exact rfl; omega; omega)
      | ((with_reducible apply Go.Sx.Y.loadA0 (α := Value) 0); exact rfl; exact rfl; exact rfl; exact rfl; exact rfl; exact rfl; omega; omega)
      | ((with_reducible apply Go.Sx.Y.loadA (α := Int × Int) 0); exact rfl; exact rfl; exact rfl; exact rfl; exact rfl; exact rfl; omega; omega)
      | ((with_reducible apply Go.Sx.Y.lenA 1); exact rfl; exact rfl; exact rfl)
      | ((with_reducible apply Go.Sx.Y.indexA 1); exact rfl; exact rfl; exact rfl; exact rfl; exact rfl; omega; omega)
      | ((with_reducible apply Go.Sx.Y.loadA0 (α := Int) 1); exact rfl; exact rfl; exact rfl; exact rfl; exact rfl; exact rfl; omega; omega)
      | ((with_reducible apply Go.Sx.Y.loadA0 (α := Bool) 1); exact rfl; exact rfl; exact rfl; exact rfl; exact rfl; exact rfl; omega; omega)
      | ((with_reducible apply Go.Sx.Y.loadA0 (α := Value) 1); exact rfl; exact rfl; exact rfl; exact rfl; exact rfl; exact rfl; omega; omega)
      | ((with_reducible apply Go.Sx.Y.loadA (α := Int × Int) 1); exact rfl; exact rfl; exact rfl; exact rfl; exact rfl; exact rfl; omega; omega)
      | ((with_reducible apply Go.Sx.Y.lenA 2); exact rfl; exact rfl; exact rfl)
      | ((with_reducible apply Go.Sx.Y.indexA 2); exact rfl; exact rfl; exact rfl; exact rfl; exact rfl; omega; omega)
      | ((with_reducible apply Go.Sx.Y.loadA0 (α := Int) 2); exact rfl; exact rfl; exact rfl; exact rfl; exact rfl; exact rfl; omega; omega)
      | ((with_reducible apply Go.Sx.Y.loadA0 (α := Bool) 2); exact rfl; exact rfl; exact rfl; exact rfl; exact rfl; exact rfl; omega; omega)
      | ((with_reducible apply Go.Sx.Y.loadA0 (α := Value) 2); exact rfl; exact rfl; exact rfl; exact rfl; exact rfl; exact rfl; omega; omega)
      | ((with_reducible apply Go.Sx.Y.loadA (α := Int × Int) 2); exact rfl; exact rfl; exact rfl; exact rfl; exact rfl; exact rfl; omega; omega)
      | ((with_reducible apply Go.Sx.Y.lenA 3); exact rfl; exact rfl; exact rfl)
      | ((with_reducible apply Go.Sx.Y.indexA 3); exact rfl; exact rfl; exact rfl; exact rfl; exact rfl; omega; omega)
      | ((with_reducible apply Go.Sx.Y.loadA0 (α := Int) 3); exact rfl; exact rfl; exact rfl; exact rfl; exact rfl; exact rfl; omega; omega)
      | ((with_reducible apply Go.Sx.Y.loadA0 (α := Bool) 3); exact rfl; exact rfl; exact rfl; exact rfl; exact rfl; exact rfl; omega; omega)
      | ((with_reducible apply Go.Sx.Y.loadA0 (α := Value) 3); exact rfl; exact rfl; exact rfl; exact rfl; exact rfl; exact rfl; omega; omega)
      | ((with_reducible apply Go.Sx.Y.loadA (α := Int × Int) 3); exact rfl; exact rfl; exact rfl; exact rfl; exact rfl; exact rfl; omega; omega)
      | ((with_reducible apply Go.Sx.Y.lenA 4); exact rfl; exact rfl; exact rfl)
      | ((with_reducible apply Go.Sx.Y.indexA 4); exact rfl; exact rfl; exact rfl; exact rfl; exact rfl; omega; omega)
      | ((with_reducible apply Go.Sx.Y.loadA0 (α := Int) 4); exact rfl; exact rfl; exact rfl; exact rfl; exact rfl; exact rfl; omega; omega)
      | ((with_reducible apply Go.Sx.Y.loadA0 (α := Bool) 4); exact rfl; exact rfl; exact rfl; exact rfl; exact rfl; exact rfl; omega; omega)
      | ((with_reducible apply Go.Sx.Y.loadA0 (α := Value) 4); exact rfl; exact rfl; exact rfl; exact rfl; exact rfl; exact rfl; omega; omega)
      | ((with_reducible apply Go.Sx.Y.loadA (α := Int × Int) 4); exact rfl; exact rfl; exact rfl; exact rfl; exact rfl; exact rfl; omega; omega)
      | ((with_reducible apply Go.Sx.Y.lenA 5); exact rfl; exact rfl; exact rfl)
      | ((with_reducible apply Go.Sx.Y.indexA 5); exact rfl; exact rfl; exact rfl; exact rfl; exact rfl; omega; omega)
      | ((with_reducible apply Go.Sx.Y.loadA0 (α := Int) 5); exact rfl; exact rfl; exact rfl; exact rfl; exact rfl; exact rfl; omega; omega)
      | ((with_reducible apply Go.Sx.Y.loadA0 (α := Bool) 5); exact rfl; exact rfl; exact rfl; exact rfl; exact rfl; exact rfl; omega; omega)
      | ((with_reducible apply Go.Sx.Y.loadA0 (α := Value) 5); exact rfl; exact rfl; exact rfl; exact rfl; exact rfl; exact rfl; omega; omega)
      | ((with_reducible apply Go.Sx.Y.loadA (α := Int × Int) 5); exact rfl; exact rfl; exact rfl; exact rfl; exact rfl; exact rfl; omega; omega)
      | ((with_reducible apply Go.Sx.Y.bld2); exact rfl; exact rfl; (first | exact Go.Sx.build_link _ _ | exact Go.Sx.build_graph2 (by first | rfl | assumption) (by first | rfl | assumption)))
      | ((with_reducible apply Go.Sx.Y.bld0); exact Go.Sx.build_graph0)
      | ((with_reducible apply Go.Sx.Y.bld1); exact rfl; exact Go.Sx.build_graph1 (by first | rfl | assumption))
      | ((with_reducible apply Go.Sx.Y.makeFunc1); exact rfl)
      | ((with_reducible apply Go.Sx.Y.loadBL); exact rfl; exact Go.Sx.mem1; exact rfl; exact rfl; exact rfl)
      | ((with_reducible apply Go.Sx.Y.quo); exact rfl; exact rfl; omega; (first | omega | exact Go.Sx.tdiv_lo (by omega) (by omega)); (first | omega | exact Go.Sx.tdiv_hi (by omega) (by omega)))
      | ((with_reducible apply Go.Sx.Y.loadB 4); exact rfl; exact rfl; exact rfl; exact rfl; exact rfl)
      | ((with_reducible apply Go.Sx.Y.loadB 5); exact rfl; exact rfl; exact rfl; exact rfl; exact rfl)
      | ((with_reducible apply Go.Sx.Y.loadBAll 4); exact rfl; exact rfl; exact rfl; exact rfl)
      | ((with_reducible apply Go.Sx.Y.loadBAll 5); exact rfl; exact rfl; exact rfl; exact rfl))
    (hk : Nat.blt i k0 = true := by exact rfl) (hl : loudOp op = false := by exact rfl) (hH : HistOk (before m i) [r] [] H := by repeat (first | exact True.intro | refine And.intro (Or.inl rfl) ?_ | refine And.intro (Or.inr (Go.Sx.Holds2.mk (by first | exact Go.Sx.SubM.nil | exact Go.Sx.SubM.refl _ | repeat (first | exact Go.Sx.SubM.nil | refine Go.Sx.SubM.cons 0 rfl ?_ | refine Go.Sx.SubM.cons 1 rfl ?_ | refine Go.Sx.SubM.cons 2 rfl ?_ | refine Go.Sx.SubM.cons 3 rfl ?_ | refine Go.Sx.SubM.cons 4 rfl ?_ | refine Go.Sx.SubM.cons 5 rfl ?_)) (by first | exact Go.Sx.SubL.nil | exact Go.Sx.SubL.refl _ | repeat (first | exact Go.Sx.SubL.nil | refine Go.Sx.SubL.cons Go.Sx.mem1 ?_)))) ?_)) (hd : Nat.blt d n.sz = true := by exact rfl)
    (h : JR c n ((d, v) :: σ) M L H ((i, [r], []) :: Bs) (RW P l.toArray Q (before m) (louds l) k0 rest)) : JR c n σ M L H Bs (RW P l.toArray Q (before m) (louds l) k0 (i :: rest)) :=
  JR.quiet [r] [] hi hk hl hy ⟨SubM.cons q hr SubM.nil, SubL.nil⟩ hH hd h

theorem JR.qgM [Tab P] (q : Nat) {r : Fact} {i d : Nat} {op : Op} {ty : TypeId} {pos : String} {aft : Array Edge} {j : Nat} {b : Bool} {v : Value}
    (hi : l[i]? = some ⟨some d, op, ty, pos, aft, some (j, b)⟩ := by exact rfl) (hg : gv l.toArray σ j = some b := by exact rfl) (hr : M[q]? = some r := by exact rfl) (hy : Y P c n σ [r] [] ⟨some d, op, ty, pos, aft, some (j, b)⟩ v := by
    first
      | ((with_reducible apply Go.Sx.Y.move); exact rfl)
      | ((with_reducible apply Go.Sx.Y.assign); exact rfl)
      | ((with_reducible apply Go.Sx.Y.lss); exact rfl; exact rfl)
      | ((with_reducible apply Go.Sx.Y.add); exact rfl; exact rfl; omega; omega)
      | ((with_reducible apply Go.Sx.Y.sub); exact rfl; exact rfl; omega; omega)
      | ((with_reducible apply Go.Sx.Y.fieldB); exact rfl; exact rfl; exact rfl; exact rfl; exact rfl)
      | ((with_reducible apply Go.Sx.Y.fieldEl); exact rfl; exact rfl; exact rfl; exact rfl; exact rfl)
      | ((with_reducible apply Go.Sx.Y.loadB 0); exact rfl; exact rfl; exact rfl; exact rfl; exact rfl)
      | ((with_reducible apply Go.Sx.Y.loadB 1); exact rfl; exact rfl; exact rfl; exact rfl; exact rfl)
      | ((with_reducible apply Go.Sx.Y.loadB 2); exact rfl; exact rfl; exact rfl; exact rfl; exact rfl)
      | ((with_reducible apply Go.Sx.Y.loadB 3); exact rfl; exact rfl; exact rfl; exact rfl; exact rfl)
      | ((with_reducible apply Go.Sx.Y.len); exact rfl; exact Go.Sx.mem1; exact rfl)
      | ((with_reducible apply Go.Sx.Y.index); exact rfl; exact rfl; exact Go.Sx.mem1; exact rfl; exact rfl; omega; omega)
      | ((with_reducible apply Go.Sx.Y.loadInt); exact rfl; exact Go.Sx.mem1; exact rfl; exact rfl; omega; omega)
      | ((with_reducible apply Go.Sx.Y.loadSl); exact rfl; exact Go.Sx.mem1; exact rfl; exact rfl; omega; omega)
      | ((with_reducible apply Go.Sx.Y.loadTo); exact rfl; exact Go.Sx.mem1; exact rfl; exact rfl; omega; omega)
      | ((with_reducible apply Go.Sx.Y.loadWeight); exact rfl; exact Go.Sx.mem1; exact rfl; exact rfl; omega; omega)
      | ((with_reducible apply Go.Sx.Y.loadLink); exact rfl; exact Go.Sx.mem1; exact rfl; exact rfl; omega; omega)
      | ((with_reducible apply Go.Sx.Y.loadBAll 0); exact rfl; exact rfl; exact rfl; exact rfl)
      | ((with_reducible apply Go.Sx.Y.loadBAll 1); exact rfl; exact rfl; exact rfl; exact rfl)
      | ((with_reducible apply Go.Sx.Y.loadBAll 2); exact rfl; exact rfl; exact rfl; exact rfl)
      | ((with_reducible apply Go.Sx.Y.loadBAll 3); exact rfl; exact rfl; exact rfl; exact rfl)
      | ((with_reducible apply Go.Sx.Y.eql); exact rfl; exact rfl)
      | ((with_reducible apply Go.Sx.Y.neq); exact rfl; exact rfl)
      | ((with_reducible apply Go.Sx.Y.leq); exact rfl; exact rfl)
      | ((with_reducible apply Go.Sx.Y.gtr); exact rfl; exact rfl)
      | ((with_reducible apply Go.Sx.Y.geq); exact rfl; exact rfl)
      | ((with_reducible apply Go.Sx.Y.notD); exact rfl)
      | ((with_reducible apply Go.Sx.Y.not); exact rfl)
      | ((with_reducible apply Go.Sx.Y.pickT); exact rfl; exact rfl)
      | ((with_reducible apply Go.Sx.Y.pickF); exact rfl; exact rfl)
      | ((with_reducible apply Go.Sx.Y.max); exact rfl; exact rfl)
      | ((with_reducible apply Go.Sx.Y.min); exact rfl; exact rfl)
      | ((with_reducible apply Go.Sx.Y.extract); exact rfl; exact rfl)
      | ((with_reducible apply Go.Sx.Y.mul); exact rfl; exact rfl; omega; omega)
      | ((with_reducible apply Go.Sx.Y.rem); exact rfl; exact rfl; omega)
      | ((with_reducible apply Go.Sx.Y.lenA 0); exact rfl; exact rfl; exact rfl)
      | ((with_reducible apply Go.Sx.Y.indexA 0); exact rfl; exact rfl; exact rfl; exact rfl; exact rfl; omega; omega)
      | ((with_reducible apply Go.Sx.Y.loadA0 (α := Int) 0); exact rfl; exact rfl; exact rfl; exact rfl; exact rfl; exact rfl; omega; omega)
      | ((with_reducible apply Go.Sx.Y.loadA0 (α := Bool) 0); exact rfl; exact rfl; exact rfl; exact rfl; exact rfl; exact rfl; omega; omega)
      | ((with_reducible apply Go.Sx.Y.loadA0 (α := Value) 0); exact rfl; exact rfl; exact rfl; exact rfl; exact rfl; exact rfl; omega; omega)
      | ((with_reducible apply Go.Sx.Y.loadA (α := Int × Int) 0); exact rfl; exact rfl; exact rfl; exact rfl; exact rfl; exact rfl; omega; omega)
      | ((with_reducible apply Go.Sx.Y.lenA 1); exact rfl; exact rfl; exact rfl)
      | ((with_reducible apply Go.Sx.Y.indexA 1); exact rfl; exact rfl; exact rfl; exact rfl; exact rfl; omega; omega)
      | ((with_reducible apply Go.Sx.Y.loadA0 (α := Int) 1); exact rfl; exact rfl; exact rfl; exact rfl; exact rfl; exact rfl; omega; omega)
      | ((with_reducible apply Go.Sx.Y.loadA0 (α := Bool) 1); exact rfl; exact rfl; exact rfl; exact rfl; exact rfl; exact rfl; omega; omega)
      | ((with_reducible apply Go.Sx.Y.loadA0 (α := Value) 1); exact rfl; exact rfl; exact rfl; exact rfl; exact rfl; exact rfl; omega; omega)
      | ((with_reducible apply Go.Sx.Y.loadA (α := Int × Int) 1); exact rfl; exact rfl; exact rfl; exact rfl; exact rfl; exact rfl; omega; omega)
      | ((with_reducible apply Go.Sx.Y.lenA 2); exact rfl; exact rfl; exact rfl)
      | ((with_reducible apply Go.Sx.Y.indexA 2); exact rfl; exact rfl; exact rfl; exact rfl; exact rfl; omega; omega)
      | ((with_reducible apply Go.Sx.Y.loadA0 (α := Int) 2); exact rfl; exact rfl; exact rfl; exact rfl; exact rfl; exact rfl; omega; omega)
      | ((with_reducible apply Go.Sx.Y.loadA0 (α := Bool) 2); exact rfl; exact rfl; exact rfl; exact rfl; exact rfl; exact rfl; omega; omega)
      | ((with_reducible apply Go.Sx.Y.loadA0 (α := Value) 2); exact rfl; exact rfl; exact rfl; exact rfl; exact rfl; exact rfl; omega; omega)
      | ((with_reducible apply Go.Sx.Y.loadA (α := Int × Int) 2); exact rfl; exact rfl; exact rfl; exact rfl; exact rfl; exact rfl; omega; omega)
      | ((with_reducible apply Go.Sx.Y.lenA 3); exact rfl; exact rfl; exact rfl)
      | ((with_reducible apply Go.Sx.Y.indexA 3); exact rfl; exact rfl; exact rfl; exact rfl; exact rfl; omega; omega)
      | ((with_reducible apply Go.Sx.Y.loadA0 (α := Int) 3); exact rfl; exact rfl; exact rfl; exact rfl; exact rfl; exact rfl; omega; omega)
      | ((with_reducible apply Go.Sx.Y.loadA0 (α := Bool) 3); exact rfl; exact rfl; exact rfl; exact rfl; exact rfl; exact rfl; omega; omega)
      | ((with_reducible apply Go.Sx.Y.loadA0 (α := Value) 3); exact rfl; exact rfl; exact rfl; exact rfl; exact rfl; exact rfl; omega; omega)
      | ((with_reducible apply Go.Sx.Y.loadA (α := Int × Int) 3); exact rfl; exact rfl; exact rfl; exact rfl; exact rfl; exact rfl; omega; omega)
      | ((with_reducible apply Go.Sx.Y.lenA 4); exact rfl; exact rfl; exact rfl)
      | ((with_reducible apply Go.Sx.Y.indexA 4); exact rfl; exact rfl; exact rfl; exact rfl; exact rfl; omega; omega)
      | ((with_reducible apply Go.Sx.Y.loadA0 (α := Int) 4); exact rfl; exact rfl; exact rfl; exact rfl; exact rfl; exact rfl; omega; omega)
      | ((with_reducible apply Go.Sx.Y.loadA0 (α := Bool) 4); exact rfl; exact rfl; exact rfl; exact rfl; exact rfl; exact rfl; omega; omega)
      | ((with_reducible apply Go.Sx.Y.loadA0 (α := Value) 4); exact rfl; exact rfl; exact rfl; exact rfl; exact rfl; exact rfl; omega; omega)
      | ((with_reducible apply Go.Sx.Y.loadA (α := Int × Int) 4); exact rfl; exact rfl; exact rfl; exact rfl; exact rfl; exact rfl; omega; omega)
      | ((with_reducible apply Go.Sx.Y.lenA 5); exact rfl; exact rfl; exact rfl)
      | ((with_reducible apply Go.Sx.Y.indexA 5); exact rfl; exact rfl; exact rfl; exact rfl; exact rfl; omega; omega)
      | ((with_reducible apply Go.Sx.Y.loadA0 (α := Int) 5); exact rfl; exact rfl; exact rfl; exact rfl; exact rfl; exact rfl; omega; omega)
      | ((with_reducible apply Go.Sx.Y.loadA0 (α := Bool) 5); exact rfl; exact rfl; exact rfl; exact rfl; exact rfl; exact rfl; omega; omega)
      | ((with_reducible apply Go.Sx.Y.loadA0 (α := Value) 5); exact rfl; exact rfl; exact rfl; exact rfl; exact rfl; exact rfl; omega; omega)
      | ((with_reducible apply Go.Sx.Y.loadA (α := Int × Int) 5); exact rfl; exact rfl; exact rfl; exact rfl; exact rfl; exact rfl; omega; omega)
      | ((with_reducible apply Go.Sx.Y.bld2); exact rfl; exact rfl; (first | exact Go.Sx.build_link _ _ | exact Go.Sx.build_graph2 (by first | rfl | assumption) (by first | rfl | assumption)))
      | ((with_reducible apply Go.Sx.Y.bld0); exact Go.Sx.build_graph0)
      | ((with_reducible apply Go.Sx.Y.bld1); exact rfl; exact Go.Sx.build_graph1 (by first | rfl | assumption))
      | ((with_reducible apply Go.Sx.Y.makeFunc1); exact rfl)
      | ((with_reducible apply Go.Sx.Y.loadBL); exact rfl; exact Go.Sx.mem1; exact rfl; exact rfl; exact rfl)
      | ((with_reducible apply Go.Sx.Y.quo); exact rfl; exact rfl; omega; (first | omega | exact Go.Sx.tdiv_lo (by omega) (by omega)); (first | omega | exact Go.Sx.tdiv_hi (by omega) (by omega)))
      | ((with_reducible apply Go.Sx.Y.loadB 4); exact rfl; exact rfl; exact rfl; exact rfl; exact rfl)
      | ((with_reducible apply Go.Sx.Y.loadB 5); exact rfl; exact rfl; exact rfl; exact rfl; exact rfl)
      | ((with_reducible apply Go.Sx.Y.loadBAll 4); exact rfl; exact rfl; exact rfl; exact rfl)
      | ((with_reducible apply Go.Sx.Y.loadBAll 5); exact rfl; exact rfl; exact rfl; exact rfl))
    (hk : Nat.blt i k0 = true := by exact rfl) (hl : loudOp op = false := by exact rfl) (hH : HistOk (before m i) [r] [] H := by repeat (first | exact True.intro | refine And.intro (Or.inl rfl) ?_ | refine And.intro (Or.inr (Go.Sx.Holds2.mk (by first | exact Go.Sx.SubM.nil | exact Go.Sx.SubM.refl _ | repeat (first | exact Go.Sx.SubM.nil | refine Go.Sx.SubM.cons 0 rfl ?_ | refine Go.Sx.SubM.cons 1 rfl ?_ | refine Go.Sx.SubM.cons 2 rfl ?_ | refine Go.Sx.SubM.cons 3 rfl ?_ | refine Go.Sx.SubM.cons 4 rfl ?_ | refine Go.Sx.SubM.cons 5 rfl ?_)) (by first | exact Go.Sx.SubL.nil | exact Go.Sx.SubL.refl _ | repeat (first | exact Go.Sx.SubL.nil | refine Go.Sx.SubL.cons Go.Sx.mem1 ?_)))) ?_)) (hd : Nat.blt d n.sz = true := by exact rfl)
    (h : JR c n ((d, v) :: σ) M L H ((i, [r], []) :: Bs) (RW P l.toArray Q (before m) (louds l) k0 rest)) : JR c n σ M L H Bs (RW P l.toArray Q (before m) (louds l) k0 (i :: rest)) :=
  JR.guardY [r] [] hi hk hl hg hy ⟨SubM.cons q hr SubM.nil, SubL.nil⟩ hH hd h

theorem JR.qL [Tab P] (q : Nat) {r : Fact} {i d : Nat} {op : Op} {ty : TypeId} {pos : String} {aft : Array Edge} {v : Value}
    (hi : l[i]? = some ⟨some d, op, ty, pos, aft, none⟩ := by exact rfl) (hr : L[q]? = some r := by exact rfl) (hy : Y P c n σ [] [r] ⟨some d, op, ty, pos, aft, none⟩ v := by
    first
      | ((with_reducible apply Go.Sx.Y.move); exact rfl)
      | ((with_reducible apply Go.Sx.Y.assign); exact rfl)
      | ((with_reducible apply Go.Sx.Y.lss); exact rfl; exact rfl)
      | ((with_reducible apply Go.Sx.Y.add); exact rfl; exact rfl; omega; omega)
      | ((with_reducible apply Go.Sx.Y.sub); exact rfl; exact rfl; omega; omega)
      | ((with_reducible apply Go.Sx.Y.fieldB); exact rfl; exact rfl; exact rfl; exact rfl; exact rfl)
      | ((with_reducible apply Go.Sx.Y.fieldEl); exact rfl; exact rfl; exact rfl; exact rfl; exact rfl)
      | ((with_reducible apply Go.Sx.Y.loadB 0); exact rfl; exact rfl; exact rfl; exact rfl; exact rfl)
      | ((with_reducible apply Go.Sx.Y.loadB 1); exact rfl; exact rfl; exact rfl; exact rfl; exact rfl)
      | ((with_reducible apply Go.Sx.Y.loadB 2); exact rfl; exact rfl; exact rfl; exact rfl; exact rfl)
      | ((with_reducible apply Go.Sx.Y.loadB 3); exact rfl; exact rfl; exact rfl; exact rfl; exact rfl)
      | ((with_reducible apply Go.Sx.Y.len); exact rfl; exact Go.Sx.mem1; exact rfl)
      | ((with_reducible apply Go.Sx.Y.index); exact rfl; exact rfl; exact Go.Sx.mem1; exact rfl; exact rfl; omega; omega)
      | ((with_reducible apply Go.Sx.Y.loadInt); exact rfl; exact Go.Sx.mem1; exact rfl; exact rfl; omega; omega)
      | ((with_reducible apply Go.Sx.Y.loadSl); exact rfl; exact Go.Sx.mem1; exact rfl; exact rfl; omega; omega)
      | ((with_reducible apply Go.Sx.Y.loadTo); exact rfl; exact Go.Sx.mem1; exact rfl; exact rfl; omega; omega)
      | ((with_reducible apply Go.Sx.Y.loadWeight); exact rfl; exact Go.Sx.mem1; exact rfl; exact rfl; omega; omega)
      | ((with_reducible apply Go.Sx.Y.loadLink); exact rfl; exact Go.Sx.mem1; exact rfl; exact rfl; omega; omega)
      | ((with_reducible apply Go.Sx.Y.loadBAll 0); exact rfl; exact rfl; exact rfl; exact rfl)
      | ((with_reducible apply Go.Sx.Y.loadBAll 1); exact rfl; exact rfl; exact rfl; exact rfl)
      | ((with_reducible apply Go.Sx.Y.loadBAll 2); exact rfl; exact rfl; exact rfl; exact rfl)
      | ((with_reducible apply Go.Sx.Y.loadBAll 3); exact rfl; exact rfl; exact rfl; exact rfl)
      | ((with_reducible apply Go.Sx.Y.eql); exact rfl; exact rfl)
      | ((with_reducible apply Go.Sx.Y.neq); exact rfl; exact rfl)
      | ((with_reducible apply Go.Sx.Y.leq); exact rfl; exact rfl)
      | ((with_reducible apply Go.Sx.Y.gtr); exact rfl; exact rfl)
      | ((with_reducible apply Go.Sx.Y.geq); exact rfl; exact rfl)
      | ((with_reducible apply Go.Sx.Y.notD); exact rfl)
      | ((with_reducible apply Go.Sx.Y.not); exact rfl)
      | ((with_reducible apply Go.Sx.Y.pickT); exact rfl; exact rfl)
      | ((with_reducible apply Go.Sx.Y.pickF); exact rfl; exact rfl)
      | ((with_reducible apply Go.Sx.Y.max); exact rfl; exact rfl)
      | ((with_reducible apply Go.Sx.Y.min); exact rfl; exact rfl)
      | ((with_reducible apply Go.Sx.Y.extract); exact rfl; exact rfl)
      | ((with_reducible apply Go.Sx.Y.mul); exact rfl; exact rfl; omega; omega)
      | ((with_reducible apply Go.Sx.Y.rem); exact rfl; exact rfl; omega)
      | ((with_reducible apply Go.Sx.Y.lenA 0); exact rfl; exact rfl; exact rfl)
      | ((with_reducible apply Go.Sx.Y.indexA 0); exact rfl; exact rfl; exact rfl; exact rfl; exact rfl; omega; omega)
      | ((with_reducible apply Go.Sx.Y.loadA0 (α := Int) 0); exact rfl; exact rfl; exact rfl; exact rfl; exact rfl; exact rfl; omega; omega)
      | ((with_reducible apply Go.Sx.Y.loadA0 (α := Bool) 0); exact rfl; exact rfl; exact rfl; exact rfl; exact rfl; exact rfl; omega; omega)
      | ((with_reducible apply Go.Sx.Y.loadA0 (α := Value) 0); exact rfl; exact rfl; exact rfl; exact rfl; exact rfl; exact rfl; omega; omega)
      | ((with_reducible apply Go.Sx.Y.loadA (α := Int × Int) 0); exact rfl; exact rfl; exact rfl; exact rfl; exact rfl; exact rfl; omega; omega)
      | ((with_reducible apply Go.Sx.Y.lenA 1); exact rfl; exact rfl; exact rfl)
      | ((with_reducible apply Go.Sx.Y.indexA 1); exact rfl; exact rfl; exact rfl; exact rfl; exact rfl; omega; omega)
      | ((with_reducible apply Go.Sx.Y.loadA0 (α := Int) 1); exact rfl; exact rfl; exact rfl; exact rfl; exact rfl; exact rfl; omega; omega)
      | ((with_reducible apply Go.Sx.Y.loadA0 (α := Bool) 1); exact rfl; exact rfl; exact rfl; exact rfl; exact rfl; exact rfl; omega; omega)
      | ((with_reducible apply Go.Sx.Y.loadA0 (α := Value) 1); exact rfl; exact rfl; exact rfl; exact rfl; exact rfl; exact rfl; omega; omega)
      | ((with_reducible apply Go.Sx.Y.loadA (α := Int × Int) 1); exact rfl; exact rfl; exact rfl; exact rfl; exact rfl; exact rfl; omega; omega)
      | ((with_reducible apply Go.Sx.Y.lenA 2); exact rfl; exact rfl; exact rfl)
      | ((with_reducible apply Go.Sx.Y.indexA 2); exact rfl; exact rfl; exact rfl; exact rfl; exact rfl; omega; omega)
      | ((with_reducible apply Go.Sx.Y.loadA0 (α := Int) 2); exact rfl; exact rfl; exact rfl; exact rfl; exact rfl; exact rfl; omega; omega)
      | ((with_reducible apply Go.Sx.Y.loadA0 (α := Bool) 2); exact rfl; exact rfl; exact rfl; exact rfl; exact rfl; exact rfl; omega; omega)
      | ((with_reducible apply Go.Sx.Y.loadA0 (α := Value) 2); exact rfl; exact rfl; exact rfl; exact rfl; exact rfl; exact rfl; omega; omega)
      | ((with_reducible apply Go.Sx.Y.loadA (α := Int × Int) 2); exact rfl; exact rfl; exact rfl; exact rfl; exact rfl; exact rfl; omega; omega)
      | ((with_reducible apply Go.Sx.Y.lenA 3); exact rfl; exact rfl; exact rfl)
      | ((with_reducible apply Go.Sx.Y.indexA 3); exact rfl; exact rfl; exact rfl; exact rfl; exact rfl; omega; omega)
      | ((with_reducible apply Go.Sx.Y.loadA0 (α := Int) 3); exact rfl; exact rfl; exact rfl; exact rfl; exact rfl; exact rfl; omega; omega)
      | ((with_reducible apply Go.Sx.Y.loadA0 (α := Bool) 3); exact rfl; exact rfl; exact rfl; exact rfl; exact rfl; exact rfl; omega; omega)
      | ((with_reducible apply Go.Sx.Y.loadA0 (α := Value) 3); exact rfl; exact rfl; exact rfl; exact rfl; exact rfl; exact rfl; omega; omega)
      | ((with_reducible apply Go.Sx.Y.loadA (α := Int × Int) 3); exact rfl; exact rfl; exact rfl; exact rfl; exact rfl; exact rfl; omega; omega)
      | ((with_reducible apply Go.Sx.Y.lenA 4); exact rfl; exact rfl; exact rfl)
      | ((with_reducible apply Go.Sx.Y.indexA 4); exact rfl; exact rfl; exact rfl; exact rfl; exact rfl; omega; omega)
      | ((with_reducible apply Go.Sx.Y.loadA0 (α := Int) 4); exact rfl; exact rfl; exact rfl; exact rfl; exact rfl; exact rfl; omega; omega)
      | ((with_reducible apply Go.Sx.Y.loadA0 (α := Bool) 4); exact rfl; exact rfl; exact rfl; exact rfl; exact rfl; exact rfl; omega; omega)
      | ((with_reducible apply Go.Sx.Y.loadA0 (α := Value) 4); exact rfl; exact rfl; exact rfl; exact rfl; exact rfl; exact rfl; omega; omega)
      | ((with_reducible apply Go.Sx.Y.loadA (α := Int × Int) 4); exact rfl; exact rfl; exact rfl; exact rfl; exact rfl; exact rfl; omega; omega)
      | ((with_reducible apply Go.Sx.Y.lenA 5); exact rfl; exact rfl; exact rfl)
      | ((with_reducible apply Go.Sx.Y.indexA 5); exact rfl; exact rfl; exact rfl; exact rfl; exact rfl; omega; omega)
      | ((with_reducible apply Go.Sx.Y.loadA0 (α := Int) 5); exact rfl; exact rfl; exact rfl; exact rfl; exact rfl; exact rfl; omega; omega)
      | ((with_reducible apply Go.Sx.Y.loadA0 (α := Bool) 5); exact rfl; exact rfl; exact rfl; exact rfl; exact rfl; exact rfl; omega; omega)
      | ((with_reducible apply Go.Sx.Y.loadA0 (α := Value) 5); exact rfl; exact rfl; exact rfl; exact rfl; exact rfl; exact rfl; omega; omega)
      | ((with_reducible apply Go.Sx.Y.loadA (α := Int × Int) 5); exact rfl; exact rfl; exact rfl; exact rfl; exact rfl; exact rfl; omega; omega)
      | ((with_reducible apply Go.Sx.Y.bld2); exact rfl; exact rfl; (first | exact Go.Sx.build_link _ _ | exact Go.Sx.build_graph2 (by first | rfl | assumption) (by first | rfl | assumption)))
      | ((with_reducible apply Go.Sx.Y.bld0); exact Go.Sx.build_graph0)
      | ((with_reducible apply Go.Sx.Y.bld1); exact rfl; exact Go.Sx.build_graph1 (by first | rfl | assumption))
      | ((with_reducible apply Go.Sx.Y.makeFunc1); exact rfl)
      | ((with_reducible apply Go.Sx.Y.loadBL); exact rfl; exact Go.Sx.mem1; exact rfl; exact rfl; exact rfl)
      | ((with_reducible apply Go.Sx.Y.quo); exact rfl; exact rfl; omega; (first | omega | exact Go.Sx.tdiv_lo (by omega) (by omega)); (first | omega | exact Go.Sx.tdiv_hi (by omega) (by omega)))
      | ((with_reducible apply Go.Sx.Y.loadB 4); exact rfl; exact rfl; exact rfl; exact rfl; exact rfl)
      | ((with_reducible apply Go.Sx.Y.loadB 5); exact rfl; exact rfl; exact rfl; exact rfl; exact rfl)
      | ((with_reducible apply Go.Sx.Y.loadBAll 4); exact rfl; exact rfl; exact rfl; exact rfl)
      | ((with_reducible apply Go.Sx.Y.loadBAll 5); exact rfl; exact rfl; exact rfl; exact rfl))
    (hk : Nat.blt i k0 = true := by exact rfl) (hl : loudOp op = false := by exact rfl) (hH : HistOk (before m i) [] [r] H := by repeat (first | exact True.intro | refine And.intro (Or.inl rfl) ?_ | refine And.intro (Or.inr (Go.Sx.Holds2.mk (by first | exact Go.Sx.SubM.nil | exact Go.Sx.SubM.refl _ | repeat (first | exact Go.Sx.SubM.nil | refine Go.Sx.SubM.cons 0 rfl ?_ | refine Go.Sx.SubM.cons 1 rfl ?_ | refine Go.Sx.SubM.cons 2 rfl ?_ | refine Go.Sx.SubM.cons 3 rfl ?_ | refine Go.Sx.SubM.cons 4 rfl ?_ | refine Go.Sx.SubM.cons 5 rfl ?_)) (by first | exact Go.Sx.SubL.nil | exact Go.Sx.SubL.refl _ | repeat (first | exact Go.Sx.SubL.nil | refine Go.Sx.SubL.cons Go.Sx.mem1 ?_)))) ?_)) (hd : Nat.blt d n.sz = true := by exact rfl)
    (h : JR c n ((d, v) :: σ) M L H ((i, [], [r]) :: Bs) (RW P l.toArray Q (before m) (louds l) k0 rest)) : JR c n σ M L H Bs (RW P l.toArray Q (before m) (louds l) k0 (i :: rest)) :=
  JR.quiet [] [r] hi hk hl hy ⟨SubM.nil, SubL.cons (List.mem_of_getElem? hr) SubL.nil⟩ hH hd h

theorem JR.qgL [Tab P] (q : Nat) {r : Fact} {i d : Nat} {op : Op} {ty : TypeId} {pos : String} {aft : Array Edge} {j : Nat} {b : Bool} {v : Value}
    (hi : l[i]? = some ⟨some d, op, ty, pos, aft, some (j, b)⟩ := by exact rfl) (hg : gv l.toArray σ j = some b := by exact rfl) (hr : L[q]? = some r := by exact rfl) (hy : Y P c n σ [] [r] ⟨some d, op, ty, pos, aft, some (j, b)⟩ v := by
    first
      | ((with_reducible apply Go.Sx.Y.move); exact rfl)
      | ((with_reducible apply Go.Sx.Y.assign); exact rfl)
      | ((with_reducible apply Go.Sx.Y.lss); exact rfl; exact rfl)
      | ((with_reducible apply Go.Sx.Y.add); exact rfl; exact rfl; omega; omega)
      | ((with_reducible apply Go.Sx.Y.sub); exact rfl; exact rfl; omega; omega)
      | ((with_reducible apply Go.Sx.Y.fieldB); exact rfl; exact rfl; exact rfl; exact rfl; exact rfl)
      | ((with_reducible apply Go.Sx.Y.fieldEl); exact rfl; exact rfl; exact rfl; exact rfl; exact rfl)
      | ((with_reducible apply Go.Sx.Y.loadB 0); exact rfl; exact rfl; exact rfl; exact rfl; exact rfl)
      | ((with_reducible apply Go.Sx.Y.loadB 1); exact rfl; exact rfl; exact rfl; exact rfl; exact rfl)
      | ((with_reducible apply Go.Sx.Y.loadB 2); exact rfl; exact rfl; exact rfl; exact rfl; exact rfl)
      | ((with_reducible apply Go.Sx.Y.loadB 3); exact rfl; exact rfl; exact rfl; exact rfl; exact rfl)
      | ((with_reducible apply Go.Sx.Y.len); exact rfl; exact Go.Sx.mem1; exact rfl)
      | ((with_reducible apply Go.Sx.Y.index); exact rfl; exact rfl; exact Go.Sx.mem1; exact rfl; exact rfl; omega; omega)
      | ((with_reducible apply Go.Sx.Y.loadInt); exact rfl; exact Go.Sx.mem1; exact rfl; exact rfl; omega; omega)
      | ((with_reducible apply Go.Sx.Y.loadSl); exact rfl; exact Go.Sx.mem1; exact rfl; exact rfl; omega; omega)
      | ((with_reducible apply Go.Sx.Y.loadTo); exact rfl; exact Go.Sx.mem1; exact rfl; exact rfl; omega; omega)
      | ((with_reducible apply Go.Sx.Y.loadWeight); exact rfl; exact Go.Sx.mem1; exact rfl; exact rfl; omega; omega)
      | ((with_reducible apply Go.Sx.Y.loadLink); exact rfl; exact Go.Sx.mem1; exact rfl; exact rfl; omega; omega)
      | ((with_reducible apply Go.Sx.Y.loadBAll 0); exact rfl; exact rfl; exact rfl; exact rfl)
      | ((with_reducible apply Go.Sx.Y.loadBAll 1); exact rfl; exact rfl; exact rfl; exact rfl)
      | ((with_reducible apply Go.Sx.Y.loadBAll 2); exact rfl; exact rfl; exact rfl; exact rfl)
      | ((with_reducible apply Go.Sx.Y.loadBAll 3); exact rfl; exact rfl; exact rfl; exact rfl)
      | ((with_reducible apply Go.Sx.Y.eql); exact rfl; exact rfl)
      | ((with_reducible apply Go.Sx.Y.neq); exact rfl; exact rfl)
      | ((with_reducible apply Go.Sx.Y.leq); exact rfl; exact rfl)
      | ((with_reducible apply Go.Sx.Y.gtr); exact rfl; exact rfl)
      | ((with_reducible apply Go.Sx.Y.geq); exact rfl; exact rfl)
      | ((with_reducible apply Go.Sx.Y.notD); exact rfl)
      | ((with_reducible apply Go.Sx.Y.not); exact rfl)
      | ((with_reducible apply Go.Sx.Y.pickT); exact rfl; exact rfl)
      | ((with_reducible apply Go.Sx.Y.pickF); exact rfl; exact rfl)
      | ((with_reducible apply Go.Sx.Y.max); exact rfl; exact rfl)
      | ((with_reducible apply Go.Sx.Y.min); exact rfl; exact rfl)
      | ((with_reducible apply Go.Sx.Y.extract); exact rfl; exact rfl)
      | ((with_reducible apply Go.Sx.Y.mul); exact rfl; exact rfl; omega; omega)
      | ((with_reducible apply Go.Sx.Y.rem); exact rfl; exact rfl; omega)
      | ((with_reducible apply Go.Sx.Y.lenA 0); exact rfl; exact rfl; exact rfl)
      | ((with_reducible apply Go.Sx.Y.indexA 0); exact rfl; exact rfl; exact rfl; exact rfl; exact rfl; omega; omega)
      | ((with_reducible apply Go.Sx.Y.loadA0 (α := Int) 0); exact rfl; exact rfl; exact rfl; exact rfl; exact rfl; exact rfl; omega; omega)
      | ((with_reducible apply Go.Sx.Y.loadA0 (α := Bool) 0); exact rfl; exact rfl; exact rfl; exact rfl; exact rfl; exact rfl; omega; omega)
      | ((with_reducible apply Go.Sx.Y.loadA0 (α := Value) 0); exact rfl; exact rfl; exact rfl; exact rfl; exact rfl; exact rfl; omega; omega)
      | ((with_reducible apply Go.Sx.Y.loadA (α := Int × Int) 0); exact rfl; exact rfl; exact rfl; exact rfl; exact rfl; exact rfl; omega; omega)
      | ((with_reducible apply Go.Sx.Y.lenA 1); exact rfl; exact rfl; exact rfl)
      | ((with_reducible apply Go.Sx.Y.indexA 1); exact rfl; exact rfl; exact rfl; exact rfl; exact rfl; omega; omega)
      | ((with_reducible apply Go.Sx.Y.loadA0 (α := Int) 1); exact rfl; exact rfl; exact rfl; exact rfl; exact rfl; exact rfl; omega; omega)
      | ((with_reducible apply Go.Sx.Y.loadA0 (α := Bool) 1); exact rfl; exact rfl; exact rfl; exact rfl; exact rfl; exact rfl; omega; omega)
      | ((with_reducible apply Go.Sx.Y.loadA0 (α := Value) 1); exact rfl; exact rfl; exact rfl; exact rfl; exact rfl; exact rfl; omega; omega)
      | ((with_reducible apply Go.Sx.Y.loadA (α := Int × Int) 1); exact rfl; exact rfl; exact rfl; exact rfl; exact rfl; exact rfl; omega; omega)
      | ((with_reducible apply Go.Sx.Y.lenA 2); exact rfl; exact rfl; exact rfl)
      | ((with_reducible apply Go.Sx.Y.indexA 2); exact rfl; exact rfl; exact rfl; exact rfl; exact rfl; omega; omega)
      | ((with_reducible apply Go.Sx.Y.loadA0 (α := Int) 2); exact rfl; exact rfl; exact rfl; exact rfl; exact rfl; exact rfl; omega; omega)
      | ((with_reducible apply Go.Sx.Y.loadA0 (α := Bool) 2); exact rfl; exact rfl; exact rfl; exact rfl; exact rfl; exact rfl; omega; omega)
      | ((with_reducible apply Go.Sx.Y.loadA0 (α := Value) 2); exact rfl; exact rfl; exact rfl; exact rfl; exact rfl; exact rfl; omega; omega)
      | ((with_reducible apply Go.Sx.Y.loadA (α := Int × Int) 2); exact rfl; exact rfl; exact rfl; exact rfl; exact rfl; exact rfl; omega; omega)
      | ((with_reducible apply Go.Sx.Y.lenA 3); exact rfl; exact rfl; exact rfl)
      | ((with_reducible apply Go.Sx.Y.indexA 3); exact rfl; exact rfl; exact rfl; exact rfl; exact rfl; omega; omega)
      | ((with_reducible apply Go.Sx.Y.loadA0 (α := Int) 3); exact rfl; exact rfl; exact rfl; exact rfl; exact rfl; exact rfl; omega; omega)
      | ((with_reducible apply Go.Sx.Y.loadA0 (α := Bool) 3); exact rfl; exact rfl; exact rfl; exact rfl; exact rfl; exact rfl; omega; omega)
      | ((with_reducible apply Go.Sx.Y.loadA0 (α := Value) 3); exact rfl; exact rfl; exact rfl; exact rfl; exact rfl; exact rfl; omega; omega)
      | ((with_reducible apply Go.Sx.Y.loadA (α := Int × Int) 3); exact rfl; exact rfl; exact rfl; exact rfl; exact rfl; exact rfl; omega; omega)
      | ((with_reducible apply Go.Sx.Y.lenA 4); exact rfl; exact rfl; exact rfl)
      | ((with_reducible apply Go.Sx.Y.indexA 4); exact rfl; exact rfl; exact rfl; exact rfl; exact rfl; omega; omega)
      | ((with_reducible apply Go.Sx.Y.loadA0 (α := Int) 4); exact rfl; exact rfl; exact rfl; exact rfl; exact rfl; exact rfl; omega; omega)
      | ((with_reducible apply Go.Sx.Y.loadA0 (α := Bool) 4); exact rfl; exact rfl; exact rfl; exact rfl; exact rfl; exact rfl; omega; omega)
      | ((with_reducible apply Go.Sx.Y.loadA0 (α := Value) 4); exact rfl; exact rfl; exact rfl; exact rfl; exact rfl; exact rfl; omega; omega)
      | ((with_reducible apply Go.Sx.Y.loadA (α := Int × Int) 4); exact rfl; exact rfl; exact rfl; exact rfl; exact rfl; exact rfl; omega; omega)
      | ((with_reducible apply Go.Sx.Y.lenA 5); exact rfl; exact rfl; exact rfl)
      | ((with_reducible apply Go.Sx.Y.indexA 5); exact rfl; exact rfl; exact rfl; exact rfl; exact rfl; omega; omega)
      | ((with_reducible apply Go.Sx.Y.loadA0 (α := Int) 5); exact rfl; exact rfl; exact rfl; exact rfl; exact rfl; exact rfl; omega; omega)
      | ((with_reducible apply Go.Sx.Y.loadA0 (α := Bool) 5); exact rfl; exact rfl; exact rfl; exact rfl; exact rfl; exact rfl; omega; omega)
      | ((with_reducible apply Go.Sx.Y.loadA0 (α := Value) 5); exact rfl; exact rfl; exact rfl; exact rfl; exact rfl; exact rfl; omega; omega)
      | ((with_reducible apply Go.Sx.Y.loadA (α := Int × Int) 5); exact rfl; exact rfl; exact rfl; exact rfl; exact rfl; exact rfl; omega; omega)
      | ((with_reducible apply Go.Sx.Y.bld2); exact rfl; exact rfl; (first | exact Go.Sx.build_link _ _ | exact Go.Sx.build_graph2 (by first | rfl | assumption) (by first | rfl | assumption)))
      | ((with_reducible apply Go.Sx.Y.bld0); exact Go.Sx.build_graph0)
      | ((with_reducible apply Go.Sx.Y.bld1); exact rfl; exact Go.Sx.build_graph1 (by first | rfl | assumption))
      | ((with_reducible apply Go.Sx.Y.makeFunc1); exact rfl)
      | ((with_reducible apply Go.Sx.Y.loadBL); exact rfl; exact Go.Sx.mem1; exact rfl; exact rfl; exact rfl)
      | ((with_reducible apply Go.Sx.Y.quo); exact rfl; exact rfl; omega; (first | omega | exact Go.Sx.tdiv_lo (by omega) (by omega)); (first | omega | exact Go.Sx.tdiv_hi (by omega) (by omega)))
      | ((with_reducible apply Go.Sx.Y.loadB 4); exact rfl; exact rfl; exact rfl; exact rfl; exact rfl)
      | ((with_reducible apply Go.Sx.Y.loadB 5); exact rfl; exact rfl; exact rfl; exact rfl; exact rfl)
      | ((with_reducible apply Go.Sx.Y.loadBAll 4); exact rfl; exact rfl; exact rfl; exact rfl)
      | ((with_reducible apply Go.Sx.Y.loadBAll 5); exact rfl; exact rfl; exact rfl; exact rfl))
    (hk : Nat.blt i k0 = true := by exact rfl) (hl : loudOp op = false := by exact rfl) (hH : HistOk (before m i) [] [r] H := by repeat (first | exact True.intro | refine And.intro (Or.inl rfl) ?_ | refine And.intro (Or.inr (Go.Sx.Holds2.mk (by first | exact Go.Sx.SubM.nil | exact Go.Sx.SubM.refl _ | repeat (first | exact Go.Sx.SubM.nil | refine Go.Sx.SubM.cons 0 rfl ?_ | refine Go.Sx.SubM.cons 1 rfl ?_ | refine Go.Sx.SubM.cons 2 rfl ?_ | refine Go.Sx.SubM.cons 3 rfl ?_ | refine Go.Sx.SubM.cons 4 rfl ?_ | refine Go.Sx.SubM.cons 5 rfl ?_)) (by first | exact Go.Sx.SubL.nil | exact Go.Sx.SubL.refl _ | repeat (first | exact Go.Sx.SubL.nil | refine Go.Sx.SubL.cons Go.Sx.mem1 ?_)))) ?_)) (hd : Nat.blt d n.sz = true := by exact rfl)
    (h : JR c n ((d, v) :: σ) M L H ((i, [], [r]) :: Bs) (RW P l.toArray Q (before m) (louds l) k0 rest)) : JR c n σ M L H Bs (RW P l.toArray Q (before m) (louds l) k0 (i :: rest)) :=
  JR.guardY [] [r] hi hk hl hg hy ⟨SubM.nil, SubL.cons (List.mem_of_getElem? hr) SubL.nil⟩ hH hd h

theorem JR.qn {i d : Nat} {op : Op} {ty : TypeId} {pos : String} {aft : Array Edge} {j : Nat} {b b' : Bool}
    (hi : l[i]? = some ⟨some d, op, ty, pos, aft, some (j, b)⟩ := by exact rfl) (hg : gv l.toArray σ j = some b' := by exact rfl) (hb : (b' == b) = false := by exact rfl) (hd : Nat.blt d n.sz = true := by exact rfl)
    (h : JR c n ((d, undef) :: σ) M L H Bs (RW P l.toArray Q (before m) (louds l) k0 rest)) : JR c n σ M L H Bs (RW P l.toArray Q (before m) (louds l) k0 (i :: rest)) := JR.guardN hi hg hb hd h

/-- a guarded operation whose guard was itself passed over -/
theorem JR.qu {i d dj : Nat} {op : Op} {ty : TypeId} {pos : String} {aft : Array Edge} {j : Nat} {b : Bool}
    (hi : l[i]? = some ⟨some d, op, ty, pos, aft, some (j, b)⟩ := by exact rfl) (hj : (l[j]?).bind (·.dst) = some dj := by exact rfl) (hg : lk σ dj = some undef := by exact rfl) (hd : Nat.blt d n.sz = true := by exact rfl)
    (h : JR c n ((d, undef) :: σ) M L H Bs (RW P l.toArray Q (before m) (louds l) k0 rest)) : JR c n σ M L H Bs (RW P l.toArray Q (before m) (louds l) k0 (i :: rest)) := fun a w X Y s t hX hY => by
  have hi' : l.toArray[i]? = some ⟨some d, op, ty, pos, aft, some (j, b)⟩ := by simpa using hi
  have hy : yielded l.toArray a.tmps j = none := by
    unfold yielded
    have : (l.toArray[j]?).bind (·.dst) = some dj := by simpa using hj
    rw [this, Option.bind_some, s.slot dj _ hg]
    rfl
  simp only [RW, hi']
  rw [if_neg (by simp [Region.wanted, hy])]
  exact h _ w X Y (s.put d undef hd) t hX hY

theorem J.qu {ops : Array Oper} {rest : List Oper} {d dj : Nat} {op : Op} {ty : TypeId} {pos : String} {aft : Array Edge} {j : Nat} {b : Bool}
    (hj : (ops[j]?).bind (·.dst) = some dj := by exact rfl) (hg : lk σ dj = some undef := by exact rfl) (hd : Nat.blt d n.sz = true := by exact rfl) (h : J c n ((d, undef) :: σ) M L (wpList P ops Q rest)) :
    J c n σ M L (wpList P ops Q (⟨some d, op, ty, pos, aft, some (j, b)⟩ :: rest)) := fun a w s t => by
  have hy : yielded ops a.tmps j = none := by
    unfold yielded
    rw [hj, Option.bind_some, s.slot dj _ hg]
    rfl
  unfold wpList
  rw [if_neg (by simp [Region.wanted, hy])]
  exact h _ w (s.put d undef hd) t

/-- the range of a region's operations, written out -/
theorem JR.open {r : List Nat} (e : List.range l.length = r) (h : JR c n σ M L H Bs (RW P l.toArray Q (before m) (louds l) k0 r)) : JR c n σ M L H Bs (RW P l.toArray Q (before m) (louds l) k0 (List.range l.length)) := by rw [e]; exact h

theorem JR.tail1 {i0 : Nat} {o0 : Oper} (h0 : l[i0]? = some o0 := by exact rfl) (hk : [i0].all (Nat.ble k0) = true := by exact rfl) (h : J c n σ M L (wpList P l.toArray Q [o0])) : JR c n σ M L H Bs (RW P l.toArray Q (before m) (louds l) k0 [i0]) :=
  JR.tail hk (by simp [h0]) h

theorem JR.tail2 {i0 i1 : Nat} {o0 o1 : Oper} (h0 : l[i0]? = some o0 := by exact rfl) (h1 : l[i1]? = some o1 := by exact rfl) (hk : [i0, i1].all (Nat.ble k0) = true := by exact rfl) (h : J c n σ M L (wpList P l.toArray Q [o0, o1])) : JR c n σ M L H Bs (RW P l.toArray Q (before m) (louds l) k0 [i0, i1]) :=
  JR.tail hk (by simp [h0, h1]) h

theorem JR.tail3 {i0 i1 i2 : Nat} {o0 o1 o2 : Oper} (h0 : l[i0]? = some o0 := by exact rfl) (h1 : l[i1]? = some o1 := by exact rfl) (h2 : l[i2]? = some o2 := by exact rfl) (hk : [i0, i1, i2].all (Nat.ble k0) = true := by exact rfl) (h : J c n σ M L (wpList P l.toArray Q [o0, o1, o2])) : JR c n σ M L H Bs (RW P l.toArray Q (before m) (louds l) k0 [i0, i1, i2]) :=
  JR.tail hk (by simp [h0, h1, h2]) h

theorem JR.tail4 {i0 i1 i2 i3 : Nat} {o0 o1 o2 o3 : Oper} (h0 : l[i0]? = some o0 := by exact rfl) (h1 : l[i1]? = some o1 := by exact rfl) (h2 : l[i2]? = some o2 := by exact rfl) (h3 : l[i3]? = some o3 := by exact rfl) (hk : [i0, i1, i2, i3].all (Nat.ble k0) = true := by exact rfl) (h : J c n σ M L (wpList P l.toArray Q [o0, o1, o2, o3])) : JR c n σ M L H Bs (RW P l.toArray Q (before m) (louds l) k0 [i0, i1, i2, i3]) :=
  JR.tail hk (by simp [h0, h1, h2, h3]) h

theorem JR.loudq {A : Type} {val : A → Value} {M' L' : A → List Fact} {i : Nat} {d : Nat} {op : Op} {ty : TypeId} {pos : String} {aft : Array Edge}
    (hi : l[i]? = some ⟨some d, op, ty, pos, aft, none⟩ := by exact rfl) (ho : Loud P c n σ M L ⟨some d, op, ty, pos, aft, none⟩ val M' L') (hk : Nat.blt i k0 = true := by exact rfl) (hl : loudOp op = true := by exact rfl) (hd : Nat.blt d n.sz = true := by exact rfl)
    (hB : ∀ x, BsOk (before m i) (M' x) (L' x) Bs := by intro x; repeat (first | exact True.intro | refine And.intro (Or.inl rfl) ?_ | refine And.intro (Or.inr (Go.Sx.Holds2.mk (by first | exact Go.Sx.SubM.nil | exact Go.Sx.SubM.refl _ | repeat (first | exact Go.Sx.SubM.nil | refine Go.Sx.SubM.cons 0 rfl ?_ | refine Go.Sx.SubM.cons 1 rfl ?_ | refine Go.Sx.SubM.cons 2 rfl ?_ | refine Go.Sx.SubM.cons 3 rfl ?_ | refine Go.Sx.SubM.cons 4 rfl ?_ | refine Go.Sx.SubM.cons 5 rfl ?_)) (by first | exact Go.Sx.SubL.nil | exact Go.Sx.SubL.refl _ | repeat (first | exact Go.Sx.SubL.nil | refine Go.Sx.SubL.cons Go.Sx.mem1 ?_)))) ?_)) (h : ∀ x, JR c n ((d, val x) :: σ) (M' x) (L' x) ((i, M, L) :: H) Bs (RW P l.toArray Q (before m) (louds l) k0 rest)) :
    JR c n σ M L H Bs (RW P l.toArray Q (before m) (louds l) k0 (i :: rest)) := JR.loud hi hk hl ho hd hB h
end
end Go.Sx
