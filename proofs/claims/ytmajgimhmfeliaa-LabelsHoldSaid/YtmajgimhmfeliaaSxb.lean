/- The layer Sx, part 2: the table of types; what single operations yield. Conditions: a table of types that is right for the program. -/
import Derived.Test.YtmajgimhmfeliaaSxa
set_option linter.unusedVariables false
set_option linter.unusedSimpArgs false
namespace Go.Sx
open Go.RowKit

/-! ## The table of types -/
structure Ty where
  desc : TypeDesc
  size : Nat
  bytes : Nat
  zero : Value

structure TyOk (P : Program) (T : Nat) (d : Ty) : Prop where
  und : P.underlying T = some d.desc
  info : ∃ i, P.info? T = some i ∧ i.size = d.size ∧ i.bytes = d.bytes ∧ i.zero = some d.zero

class Tab (P : Program) where
  tab : Nat → Option Ty
  ok : ∀ {T d}, tab T = some d → TyOk P T d

section
variable {P : Program} {T : Nat} {d : Ty} (w : World)
theorem TyOk.run_und (h : TyOk P T d) : (underlying T).run P w = .ok d.desc w := run_underlying h.und w
theorem TyOk.run_size (h : TyOk P T d) : (sizeOf T).run P w = .ok d.size w := by
  obtain ⟨i, hi, hs, _, _⟩ := h.info
  simp [sizeOf, typeInfo, hi, hs]
theorem TyOk.run_zero (h : TyOk P T d) : (zeroValue T).run P w = .ok d.zero w := by
  obtain ⟨i, hi, _, _, hz⟩ := h.info
  simp [zeroValue, typeInfo, hi, hz]
def aggD : TypeDesc → Bool
  | .struct _ | .array _ _ => true
  | _ => false
theorem TyOk.run_agg (h : TyOk P T d) : (isAgg T).run P w = .ok (aggD d.desc) w := by
  simp only [isAgg]
  simp [h.run_und w]
  cases d.desc <;> rfl
end

/-! ## Operations that only compute -/
section
variable {P : Program} {rd : Option Nat} {c : Ctx} {n : Sz} {σ : Fr} {M L : List Fact}
variable {d : Option Tmp} {ty : TypeId} {pos : String} {aft : Array Edge} {g : Option (Nat × Bool)}

theorem Y.move {x : Operand} {v : Value} (hx : ev σ x = some v) : Y P c n σ M L ⟨d, .move x, ty, pos, aft, g⟩ v := fun a w s _ => by
  simp [execOp, s.eval hx]
theorem Y.assign {x : Operand} {v : Value} (hx : ev σ x = some v) : Y P c n σ M L ⟨d, .assign x, ty, pos, aft, g⟩ v := fun a w s _ => by
  simp [execOp, s.eval hx]
theorem Y.pickT {x y z : Operand} {v : Value} (hx : ev σ x = some (.bool true)) (hy : ev σ y = some v) : Y P c n σ M L ⟨d, .pick x y z, ty, pos, aft, g⟩ v := fun a w s _ => by
  simp [execOp, s.eval hx, s.eval hy, asBool]
theorem Y.pickF {x y z : Operand} {v : Value} (hx : ev σ x = some (.bool false)) (hy : ev σ z = some v) : Y P c n σ M L ⟨d, .pick x y z, ty, pos, aft, g⟩ v := fun a w s _ => by
  simp [execOp, s.eval hx, s.eval hy, asBool]
theorem Y.pick {x y z : Operand} {b : Bool} {u v : Value} (hx : ev σ x = some (.bool b)) (hy : ev σ y = some u) (hz : ev σ z = some v) :
    Y P c n σ M L ⟨d, .pick x y z, ty, pos, aft, g⟩ (if b then u else v) := fun a w s _ => by
  cases b <;> simp [execOp, s.eval hx, s.eval hy, s.eval hz, asBool]

theorem wrap64_in {x : Int} (h1 : -9223372036854775808 ≤ x) (h2 : x ≤ 9223372036854775807) : IntKind.i64.wrap x = x := by
  unfold IntKind.wrap
  simp only [IntKind.bits, IntKind.signed]
  simp
  omega

theorem guard_int {op : BinOp} {t : TypeId} {x y : Operand} {k k' : IntKind} {p q : Int} (w : World) : (eqGuard op t x y (.int k p) (.int k' q)).run P w = .ok () w := by
  unfold eqGuard
  cases op <;> simp

theorem Y.add {t t' : TypeId} {x y : Operand} {p q : Int} (hx : ev σ x = some (.int .i64 p)) (hy : ev σ y = some (.int .i64 q)) (h1 : -9223372036854775808 ≤ p + q) (h2 : p + q ≤ 9223372036854775807) :
    Y P c n σ M L ⟨d, .binOp .add t x y t', ty, pos, aft, g⟩ (.int .i64 (p + q)) := fun a w s _ => by
  simp [execOp, s.eval hx, s.eval hy, binOp, Op.intArith, guard_int, wrap64_in h1 h2]
theorem Y.sub {t t' : TypeId} {x y : Operand} {p q : Int} (hx : ev σ x = some (.int .i64 p)) (hy : ev σ y = some (.int .i64 q)) (h1 : -9223372036854775808 ≤ p - q) (h2 : p - q ≤ 9223372036854775807) :
    Y P c n σ M L ⟨d, .binOp .sub t x y t', ty, pos, aft, g⟩ (.int .i64 (p - q)) := fun a w s _ => by
  simp [execOp, s.eval hx, s.eval hy, binOp, Op.intArith, guard_int, wrap64_in h1 h2]
theorem Y.mul {t t' : TypeId} {x y : Operand} {p q : Int} (hx : ev σ x = some (.int .i64 p)) (hy : ev σ y = some (.int .i64 q)) (h1 : -9223372036854775808 ≤ p * q) (h2 : p * q ≤ 9223372036854775807) :
    Y P c n σ M L ⟨d, .binOp .mul t x y t', ty, pos, aft, g⟩ (.int .i64 (p * q)) := fun a w s _ => by
  simp [execOp, s.eval hx, s.eval hy, binOp, Op.intArith, guard_int, wrap64_in h1 h2]
theorem Y.rem {t t' : TypeId} {x y : Operand} {k : IntKind} {p q : Int} (hx : ev σ x = some (.int k p)) (hy : ev σ y = some (.int k q)) (h : q ≠ 0) :
    Y P c n σ M L ⟨d, .binOp .rem t x y t', ty, pos, aft, g⟩ (.int k (p.tmod q)) := fun a w s _ => by
  simp [execOp, s.eval hx, s.eval hy, binOp, Op.intDiv, guard_int, h]
theorem Y.quo {t t' : TypeId} {x y : Operand} {p q : Int} (hx : ev σ x = some (.int .i64 p)) (hy : ev σ y = some (.int .i64 q)) (h : q ≠ 0) (h1 : -9223372036854775808 ≤ p.tdiv q) (h2 : p.tdiv q ≤ 9223372036854775807) :
    Y P c n σ M L ⟨d, .binOp .quo t x y t', ty, pos, aft, g⟩ (.int .i64 (p.tdiv q)) := fun a w s _ => by
  simp [execOp, s.eval hx, s.eval hy, binOp, Op.intDiv, guard_int, h, wrap64_in h1 h2]

theorem Y.lss {t t' : TypeId} {x y : Operand} {k : IntKind} {p q : Int} (hx : ev σ x = some (.int k p)) (hy : ev σ y = some (.int k q)) :
    Y P c n σ M L ⟨d, .binOp .lss t x y t', ty, pos, aft, g⟩ (.bool (decide (p < q))) := fun a w s _ => by
  simp [execOp, s.eval hx, s.eval hy, binOp, Op.intCmp, guard_int]
theorem Y.leq {t t' : TypeId} {x y : Operand} {k : IntKind} {p q : Int} (hx : ev σ x = some (.int k p)) (hy : ev σ y = some (.int k q)) :
    Y P c n σ M L ⟨d, .binOp .leq t x y t', ty, pos, aft, g⟩ (.bool (decide (p ≤ q))) := fun a w s _ => by
  simp [execOp, s.eval hx, s.eval hy, binOp, Op.intCmp, guard_int]
theorem Y.gtr {t t' : TypeId} {x y : Operand} {k : IntKind} {p q : Int} (hx : ev σ x = some (.int k p)) (hy : ev σ y = some (.int k q)) :
    Y P c n σ M L ⟨d, .binOp .gtr t x y t', ty, pos, aft, g⟩ (.bool (decide (q < p))) := fun a w s _ => by
  simp [execOp, s.eval hx, s.eval hy, binOp, Op.intCmp, guard_int]
theorem Y.geq {t t' : TypeId} {x y : Operand} {k : IntKind} {p q : Int} (hx : ev σ x = some (.int k p)) (hy : ev σ y = some (.int k q)) :
    Y P c n σ M L ⟨d, .binOp .geq t x y t', ty, pos, aft, g⟩ (.bool (decide (q ≤ p))) := fun a w s _ => by
  simp [execOp, s.eval hx, s.eval hy, binOp, Op.intCmp, guard_int]
theorem Y.eql {t t' : TypeId} {x y : Operand} {k : IntKind} {p q : Int} (hx : ev σ x = some (.int k p)) (hy : ev σ y = some (.int k q)) :
    Y P c n σ M L ⟨d, .binOp .eql t x y t', ty, pos, aft, g⟩ (.bool (decide (p = q))) := fun a w s _ => by
  simp [execOp, s.eval hx, s.eval hy, binOp, Op.intCmp, guard_int]
  by_cases h : p = q <;> simp [h]
theorem Y.neq {t t' : TypeId} {x y : Operand} {k : IntKind} {p q : Int} (hx : ev σ x = some (.int k p)) (hy : ev σ y = some (.int k q)) :
    Y P c n σ M L ⟨d, .binOp .neq t x y t', ty, pos, aft, g⟩ (.bool (decide (p ≠ q))) := fun a w s _ => by
  simp [execOp, s.eval hx, s.eval hy, binOp, Op.intCmp, guard_int]
  by_cases h : p = q <;> simp [h]
theorem Y.not {t : TypeId} {x : Operand} {b : Bool} (hx : ev σ x = some (.bool b)) : Y P c n σ M L ⟨d, .unOp .not t x, ty, pos, aft, g⟩ (.bool (!b)) := fun a w s _ => by
  simp [execOp, s.eval hx, Op.unary]
theorem Y.notD {t : TypeId} {x : Operand} {p : Prop} {_ : Decidable p} (hx : ev σ x = some (.bool (decide p))) : Y P c n σ M L ⟨d, .unOp .not t x, ty, pos, aft, g⟩ (.bool (decide (¬ p))) := fun a w s _ => by
  simp [execOp, s.eval hx, Op.unary]
theorem Y.extract {x : Operand} {vs : List Value} {i : Nat} {v : Value} (hx : ev σ x = some (.tuple vs.toArray)) (hv : vs[i]? = some v) : Y P c n σ M L ⟨d, .extract x i, ty, pos, aft, g⟩ v := fun a w s _ => by
  simp [execOp, s.eval hx, Instr.extract, hv]
theorem Y.max {t t' : TypeId} {x y : Operand} {k : IntKind} {p q : Int} (hx : ev σ x = some (.int k p)) (hy : ev σ y = some (.int k q)) :
    Y P c n σ M L ⟨d, .call ⟨.builtin .max, #[x, y], #[t, t']⟩, ty, pos, aft, g⟩ (.int k (max p q)) := fun a w s _ => by
  simp [execOp, resolve, invoke, builtin, s.eval hx, s.eval hy, Builtin.max_, Builtin.max2]
  split <;> omega
theorem Y.min {t t' : TypeId} {x y : Operand} {k : IntKind} {p q : Int} (hx : ev σ x = some (.int k p)) (hy : ev σ y = some (.int k q)) :
    Y P c n σ M L ⟨d, .call ⟨.builtin .min, #[x, y], #[t, t']⟩, ty, pos, aft, g⟩ (.int k (min p q)) := fun a w s _ => by
  simp [execOp, resolve, invoke, builtin, s.eval hx, s.eval hy, Builtin.min_, Builtin.min2]
  split <;> omega
theorem Y.makeFunc {fn : Fn} {cs : List Operand} {vs : List Value} (hc : cs.map (ev σ) = vs.map some) : Y P c n σ M L ⟨d, .makeFunc fn #[] cs.toArray, ty, pos, aft, g⟩ (.func fn #[] vs.toArray) := fun a w s _ => by
  have : cs.map a.eval = vs := by
    induction cs generalizing vs with
    | nil => cases vs <;> simp_all
    | cons x cs ih =>
      cases vs with
      | nil => simp at hc
      | cons v vs => simp at hc; simp [s.eval hc.1, ih hc.2]
  simp [execOp, Instr.makeFunc, this]
end
end Go.Sx
