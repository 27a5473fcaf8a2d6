/- The model of selfstablaw01.awake and the proof that the function meets it, by program (gen/xt.py). Conditions: none. -/
import Derived.Test.YtemhmmcakmidkaaX36
import Derived.Test.YtemhmmcakmidkaaX40
import Derived.Test.YtemhmmcakmidkaaX64
namespace Go.Proofs.Ytemhmmcakmidkaa
open Go.Sx
set_option linter.unusedVariables false
set_option linter.unusedSimpArgs false

def law01_awake_k1  (a13 : Bool) : Option (Bool) :=
  some (a13)
def m_law01_awake (fuel : Nat)  : Option (Bool) :=
  Option.bind (m_graph_Valid fuel ((([ (7 : Int), (3 : Int)]), ([ ([ ((1 : Int), (5 : Int))]), ([ ((0 : Int), (5 : Int))])])))) fun r15 => (if r15 = true then (Option.bind (m_graph_Diameter fuel ((([ (7 : Int), (3 : Int)]), ([ ([ ((1 : Int), (5 : Int))]), ([ ((0 : Int), (5 : Int))])])))) fun r19 => (if r19 = (1 : Int) then (Option.bind (m_graph_Degree fuel ((([ (7 : Int), (3 : Int)]), ([ ([ ((1 : Int), (5 : Int))]), ([ ((0 : Int), (5 : Int))])]))) (1 : Int)) fun r23 => (law01_awake_k1  (decide (r23 = (1 : Int))))) else (law01_awake_k1  (false)))) else (law01_awake_k1  (false)))

theorem body33 : HasBody Try.prog 33 := Try.call33

set_option maxHeartbeats 4000000 in
set_option maxRecDepth 20000 in
theorem t_law01_awake (fuel : Nat)  (r : Bool) (h : m_law01_awake fuel  = some r) :
    Meets Try.prog 33 #[] [] (fun x : Unit => Value.bool (r)) (fun x l => l) (fun _ l => l) := by
  refine Meets.of (vs := []) Try.func33 rfl Try.ntmps33 rfl fun c => ?_
  unfold m_law01_awake at h
  refine J.seq ?_
  refine J.region ?_
  refine J.quiet (Y.assign rfl) rfl ?_
  refine J.done ?_
  refine J.thenN ?_
  refine J.seq ?_
  refine J.region ?_
  refine J.loud (Loud.buildS (e := EI64) [(7 : Int), (3 : Int)] [(0, Value.int .i64 (7 : Int)), (1, Value.int .i64 (3 : Int))] rfl rfl rfl rfl (fill_2_1 (Value.int .i64 (7 : Int)) (Value.int .i64 (3 : Int)) rfl rfl) rfl rfl rfl) rfl fun u1 => ?_
  refine J.quiet (Y.bld2 (r := Value.agg #[Value.int .i64 (1 : Int), Value.int .i64 (5 : Int)]) rfl rfl (by intro w; simp [Instr.build, Instr.fill, cells_intV, cells_boolV, cells_sliceV, cells_ptrV, cells_strV, cells_funcV, cells_agg])) rfl ?_
  refine J.loud (Loud.buildS (e := EI64I64p) [(((1 : Int), (5 : Int)))] [(0, Value.agg #[Value.int .i64 (1 : Int), Value.int .i64 (5 : Int)])] rfl rfl rfl rfl (fill_1_2 (Value.int .i64 (1 : Int)) (Value.int .i64 (5 : Int))) rfl rfl rfl) rfl fun u2 => ?_
  refine J.quiet (Y.bld2 (r := Value.agg #[Value.int .i64 (0 : Int), Value.int .i64 (5 : Int)]) rfl rfl (by intro w; simp [Instr.build, Instr.fill, cells_intV, cells_boolV, cells_sliceV, cells_ptrV, cells_strV, cells_funcV, cells_agg])) rfl ?_
  refine J.loud (Loud.buildS (e := EI64I64p) [(((0 : Int), (5 : Int)))] [(0, Value.agg #[Value.int .i64 (0 : Int), Value.int .i64 (5 : Int)])] rfl rfl rfl rfl (fill_1_2 (Value.int .i64 (0 : Int)) (Value.int .i64 (5 : Int))) rfl rfl rfl) rfl fun u3 => ?_
  refine J.stp (Stp.rowsNil EI64I64p) ?_
  refine J.know (Know.one ((Lent.ar (Lent.res 2 rfl) FI64I64p))) fun ho4 => ?_
  refine J.know (Know.one ((Lent.ar (Lent.res 1 rfl) FI64I64p))) fun ho5 => ?_
  refine J.stp (Stp.addRow 0 2 rfl rfl rfl) ?_
  refine J.stp (Stp.addRow 0 1 rfl rfl rfl) ?_
  refine J.loud (Loud.buildS (e := Enc.raw) [u2, u3] [(0, u2), (1, u3)] rfl rfl rfl rfl (fill_2_1 (u2) (u3) ho4 ho5) rfl rfl (by simp [cellsOf, Enc.raw, ho4, ho5])) rfl fun u6 => ?_
  refine J.know (Know.one ((Lent.ar (Lent.res 2 rfl) FI64))) fun ho7 => ?_
  refine J.know (Know.one (Lent.sl (Lent.rows (i := 0) (j := 1) rfl rfl FI64I64p))) fun ho8 => ?_
  refine J.quiet (Y.bld2 (r := Value.agg #[u1, u6]) rfl rfl (by intro w; simp [Instr.build, Instr.fill, cells_intV, cells_boolV, cells_sliceV, cells_ptrV, cells_strV, cells_funcV, cells_agg, one_cells ho7, one_cells ho8])) rfl ?_
  refine J.loud (Loud.alloc (cs := [Value.slice none 0 0, Value.slice none 0 0]) rfl rfl) rfl fun b9 => ?_
  refine J.know (Know.one ((Lent.ar (Lent.res 3 rfl) FI64))) fun ho10 => ?_
  refine J.know (Know.one (Lent.sl (Lent.rows (i := 1) (j := 2) rfl rfl FI64I64p))) fun ho11 => ?_
  refine J.storeAll 0 (vs := [u1, u6]) rfl rfl (all1 ho10 (all1 ho11 rfl)) rfl rfl rfl ?_
  refine J.done ?_
  refine J.thenN ?_
  refine J.seq ?_
  refine J.midI (A := Bool) (B := Unit) (fun a13 => law01_awake_k1  a13 = some r) (fun a13 b14 => [(0, Value.bool (a13))]) (fun a13 b14 => []) (fun a13 b14 => []) ?_ ?_
  · refine J.region ?_
    refine J.quiet (Y.loadBAll 0 rfl rfl rfl rfl) rfl ?_
    replace h := bnd h; obtain ⟨r15, hr16, h⟩ := h
    refine J.loud (Loud.callL body64 (t_graph_Valid fuel u1 u6 (List.zip ([u2, u3]) ([ ([ ((1 : Int), (5 : Int))]), ([ ((0 : Int), (5 : Int))])])) r15 hr16) rfl (LentAll.cons (Lent.ar (Lent.res 3 rfl) FI64) (LentAll.cons (Lent.rows (i := 1) (j := 2) rfl rfl FI64I64p) (LentAll.nil))) (fun _ _ => rfl)) rfl fun x17 => ?_
    refine J.quiet (Y.move rfl) rfl ?_
    refine J.guard (by exact rfl) (by exact rfl) (fun hp18 => ?_) (fun hp18 => ?_)
    · replace h := ifP hp18 h
      refine J.guardY rfl (Y.loadBAll 0 rfl rfl rfl rfl) rfl ?_
      replace h := bnd h; obtain ⟨r19, hr20, h⟩ := h
      refine J.loudG rfl (Loud.callL body36 (t_graph_Diameter fuel u1 u6 (List.zip ([u2, u3]) ([ ([ ((1 : Int), (5 : Int))]), ([ ((0 : Int), (5 : Int))])])) r19 hr20) rfl (LentAll.cons (Lent.ar (Lent.res 3 rfl) FI64) (LentAll.cons (Lent.rows (i := 1) (j := 2) rfl rfl FI64I64p) (LentAll.nil))) (fun _ _ => rfl)) rfl fun x21 => ?_
      refine J.guardY rfl (Y.eql rfl rfl) rfl ?_
      refine J.quiet (Y.pickT rfl rfl) rfl ?_
      refine J.quiet (Y.move rfl) rfl ?_
      refine J.guardD (by exact rfl) (by exact rfl) (fun hp22 => ?_) (fun hp22 => ?_)
      · replace h := ifP hp22 h
        refine J.guardY rfl (Y.loadBAll 0 rfl rfl rfl rfl) rfl ?_
        replace h := bnd h; obtain ⟨r23, hr24, h⟩ := h
        refine J.loudG rfl (Loud.callL body40 (t_graph_Degree fuel u1 u6 (List.zip ([u2, u3]) ([ ([ ((1 : Int), (5 : Int))]), ([ ((0 : Int), (5 : Int))])])) r23 hr24) rfl (LentAll.cons (Lent.ar (Lent.res 3 rfl) FI64) (LentAll.cons (Lent.rows (i := 1) (j := 2) rfl rfl FI64I64p) (LentAll.nil))) (fun _ _ => rfl)) rfl fun x25 => ?_
        refine J.guardY rfl (Y.eql rfl rfl) rfl ?_
        refine J.quiet (Y.pickT rfl rfl) rfl ?_
        refine J.quiet (Y.assign rfl) rfl ?_
        refine J.done ?_
        refine J.thenN ?_
        exact J.meetI (decide (r23 = (1 : Int))) (()) h (by repeat (first | exact SubF.nil | refine SubF.cons rfl ?_)) (SubM.nil) (LentAll.refl _ _)
      · replace h := ifN hp22 h
        refine J.guardN rfl rfl rfl ?_
        refine J.guardN rfl rfl rfl ?_
        refine J.guardN rfl rfl rfl ?_
        refine J.quiet (Y.pickF rfl rfl) rfl ?_
        refine J.quiet (Y.assign rfl) rfl ?_
        refine J.done ?_
        refine J.thenN ?_
        exact J.meetI (false) (()) h (by repeat (first | exact SubF.nil | refine SubF.cons rfl ?_)) (SubM.nil) (LentAll.refl _ _)
    · replace h := ifBN hp18 h
      refine J.guardN rfl rfl rfl ?_
      refine J.guardN rfl rfl rfl ?_
      refine J.guardN rfl rfl rfl ?_
      refine J.quiet (Y.pickF rfl rfl) rfl ?_
      refine J.quiet (Y.move rfl) rfl ?_
      refine J.guardN rfl rfl rfl ?_
      refine J.guardN rfl rfl rfl ?_
      refine J.guardN rfl rfl rfl ?_
      refine J.quiet (Y.pickF rfl rfl) rfl ?_
      refine J.quiet (Y.assign rfl) rfl ?_
      refine J.done ?_
      refine J.thenN ?_
      exact J.meetI (false) (()) h (by repeat (first | exact SubF.nil | refine SubF.cons rfl ?_)) (SubM.nil) (LentAll.refl _ _)
  · clear h
    intro a13 b14 h
    unfold law01_awake_k1 at h
    refine J.ret ?_
    obtain rfl := Option.some.inj h
    exact J.retG1 (()) rfl rfl (RV.tmp rfl) (SubM.refl _) LentAll.nil

end Go.Proofs.Ytemhmmcakmidkaa
