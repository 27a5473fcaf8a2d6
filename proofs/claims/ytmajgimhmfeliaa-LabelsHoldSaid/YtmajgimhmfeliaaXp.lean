/- Encodings of the types, by program (gen/xt.py). Conditions: none. -/
import Derived.Test.YtmajgimhmfeliaaSxz
namespace Go.Proofs.Ytmajgimhmfeliaa
open Go.Sx
set_option linter.unusedVariables false
set_option linter.unusedSimpArgs false

abbrev EI64 : Enc Int := Enc.int .i64
abbrev RI64 : Rep Int := Rep.int .i64
theorem FI64 : EI64.Fits RI64 := Enc.int_fits .i64
theorem RI64c0 : RI64.Cell 0 (fun x => .int .i64 x) := Rep.int_cell .i64
abbrev EI64I64p : Enc (Int × Int) := Enc.pair EI64 (EI64)
abbrev RI64I64p : Rep (Int × Int) := Rep.pair RI64 (RI64)
theorem FI64I64p : EI64I64p.Fits RI64I64p := Enc.pair_fits FI64 (FI64)
theorem RI64I64pc0 : RI64I64p.Cell 0 (fun x => .int .i64 x.1) := Rep.pair_cell1 (RI64c0)
theorem RI64I64pc1 : RI64I64p.Cell 1 (fun x => .int .i64 x.2) := Rep.pair_cell2 (RI64c0)
abbrev EBo : Enc Bool := Enc.bool
abbrev RBo : Rep Bool := Rep.bool
theorem FBo : EBo.Fits RBo := Enc.bool_fits
theorem RBoc0 : RBo.Cell 0 (fun x => .bool x) := fun h => by simp [show _ = [_] from h]
def vI64 (x : Int) : Value := Value.int .i64 (x)
def vI64I64p (x : Int × Int) : Value := Value.agg #[Value.int .i64 (x.1), Value.int .i64 (x.2)]
theorem key_T42 (x y : Int × Int) (m : Nat) (w : World) : (Op.equalIn (m + 2) 42 (.agg #[.int .i64 x.1, .int .i64 x.2]) (.agg #[.int .i64 y.1, .int .i64 y.2])).run Try.prog w = .ok (decide (x = y)) w := by
  have h3 : ∀ a b : Int, (Op.equalIn (m + 1) 3 (.int .i64 a) (.int .i64 b)).run Try.prog w = .ok (a == b) w := by
    intro a b
    simp [Op.equalIn]
  unfold Op.equalIn
  simp [show List.range' 0 2 = [0, 1] from rfl, part, isAgg, h3]
  obtain ⟨a0, a1⟩ := x
  obtain ⟨c0, c1⟩ := y
  by_cases e0 : a0 = c0 <;> by_cases e1 : a1 = c1 <;> simp [e0, e1, h3]
theorem guard_T42 (x y : Operand) (u v : Array Value) (op : BinOp) (w : World) : (eqGuard op 42 x y (.agg u) (.agg v)).run Try.prog w = .ok () w := by
  have hg : Try.prog.eqGuardType Try.prog.depth 42 = false := by kernel_rfl
  unfold eqGuard
  cases op <;> simp [hg]
theorem eq_T42 (x y : Int × Int) (p q : Operand) (w : World) : (eqGuard .eql 42 p q (.agg #[.int .i64 x.1, .int .i64 x.2]) (.agg #[.int .i64 y.1, .int .i64 y.2])).run Try.prog w = .ok () w ∧ (binOp .eql 42 (.agg #[.int .i64 x.1, .int .i64 x.2]) (.agg #[.int .i64 y.1, .int .i64 y.2])).run Try.prog w = .ok (.bool (decide (x = y))) w := by
  refine ⟨guard_T42 _ _ _ _ _ _, ?_⟩
  have h : (Op.equal 42 (.agg #[.int .i64 x.1, .int .i64 x.2]) (.agg #[.int .i64 y.1, .int .i64 y.2])).run Try.prog w = .ok (decide (x = y)) w := key_T42 x y 9998 w
  simp [binOp, h]
theorem eq_T42N (x y : Int × Int) (p q : Operand) (w : World) : (eqGuard .neq 42 p q (.agg #[.int .i64 x.1, .int .i64 x.2]) (.agg #[.int .i64 y.1, .int .i64 y.2])).run Try.prog w = .ok () w ∧ (binOp .neq 42 (.agg #[.int .i64 x.1, .int .i64 x.2]) (.agg #[.int .i64 y.1, .int .i64 y.2])).run Try.prog w = .ok (.bool (decide (x ≠ y))) w := by
  refine ⟨guard_T42 _ _ _ _ _ _, ?_⟩
  have h : (Op.equal 42 (.agg #[.int .i64 x.1, .int .i64 x.2]) (.agg #[.int .i64 y.1, .int .i64 y.2])).run Try.prog w = .ok (decide (x = y)) w := key_T42 x y 9998 w
  simp [binOp, h]
theorem chk_T42 (b : Bool) (k : Int × Int) (w : World) : (Instr.checkKey b 10000 42 (vI64I64p k)).run Try.prog w = .ok () w := by
  have key : ∀ m : Nat, (Instr.checkKey b (m + 2) 42 (vI64I64p k)).run Try.prog w = .ok () w := by
    intro m
    simp [Instr.checkKey, vI64I64p, part, isAgg, show List.range' 0 2 = [0, 1] from rfl]
  exact key 9998
theorem kok_42 : KeyOk Try.prog 42 vI64I64p := KeyOk.deep Try.underlying42 chk_T42 (fun _ _ => rfl) (fun a b w => key_T42 a b 9998 w) (fun k => by
  have key : ∀ m : Nat, Instr.sameBits (m + 2) (vI64I64p k) (vI64I64p k) = true := fun m => by simp [Instr.sameBits, vI64I64p]
  exact key 9998)
theorem fill_1_1 (u0 : Value) (h0 : one u0 = true) (init : Array Value) (h : init.size = 1 * 1) : Instr.fill (fun i => some (i * 1, 1)) init [(0, u0)] = some [u0].toArray := by
  obtain ⟨l⟩ := init
  match l, h with
  | [z0], _ => simp [Instr.fill, one_cells h0]
theorem fill_1_2 (u0 u1 : Value) (init : Array Value) (h : init.size = 1 * 2) : Instr.fill (fun i => some (i * 2, 2)) init [(0, .agg #[u0, u1])] = some [u0, u1].toArray := by
  obtain ⟨l⟩ := init
  match l, h with
  | [z0, z1], _ => simp [Instr.fill, Value.cells]
theorem fill_2_1 (u0 u1 : Value) (h0 : one u0 = true) (h1 : one u1 = true) (init : Array Value) (h : init.size = 2 * 1) : Instr.fill (fun i => some (i * 1, 1)) init [(0, u0), (1, u1)] = some [u0, u1].toArray := by
  obtain ⟨l⟩ := init
  match l, h with
  | [z0, z1], _ => simp [Instr.fill, one_cells h0, one_cells h1]
theorem fill_3_1 (u0 u1 u2 : Value) (h0 : one u0 = true) (h1 : one u1 = true) (h2 : one u2 = true) (init : Array Value) (h : init.size = 3 * 1) : Instr.fill (fun i => some (i * 1, 1)) init [(0, u0), (1, u1), (2, u2)] = some [u0, u1, u2].toArray := by
  obtain ⟨l⟩ := init
  match l, h with
  | [z0, z1, z2], _ => simp [Instr.fill, one_cells h0, one_cells h1, one_cells h2]
theorem fill_3_2 (u0 u1 u2 u3 u4 u5 : Value) (init : Array Value) (h : init.size = 3 * 2) : Instr.fill (fun i => some (i * 2, 2)) init [(0, .agg #[u0, u1]), (1, .agg #[u2, u3]), (2, .agg #[u4, u5])] = some [u0, u1, u2, u3, u4, u5].toArray := by
  obtain ⟨l⟩ := init
  match l, h with
  | [z0, z1, z2, z3, z4, z5], _ => simp [Instr.fill, Value.cells]
end Go.Proofs.Ytmajgimhmfeliaa
