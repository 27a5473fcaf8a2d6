/- Models of functions with their proofs, by program (gen/xt.py), and plain laws, in one text. Conditions: none. -/
import Derived.Test.YtmajgimhmfeliaaZLWh2
import Derived.KernelRfl
section
set_option linter.unusedVariables false
set_option linter.unusedSimpArgs false
namespace Go.Proofs.Ytmajgimhmfeliaa
open Go.Sx
set_option linter.unusedVariables false
set_option linter.unusedSimpArgs false
def graph_symmetric_s1 (a3 : (List ((Int × Int) × Int))) (kv6 : (Int × Int) × Int) (xa9 : Option (Bool)) : Option (Bool) :=
  if (Option.getD (mget (kv6.1.2, kv6.1.1) a3) (0 : Int)) ≠ kv6.2 then (some (false)) else (xa9)
def graph_symmetric_k1  (a3 : (List ((Int × Int) × Int))) : Option (Bool) :=
  mrun (graph_symmetric_s1 a3) (some (true)) a3
def graph_symmetric_k2 (a17 : Int × (List ((Int × Int) × Int))) (ag16 : (Int × (List ((Int × Int) × Int))) → Option (Bool)) (a22 : (List ((Int × Int) × Int))) : Option (Bool) :=
  ag16 ((wI .i64 (a17.1 + (1 : Int))), a22)
def graph_symmetric_k4 (p0 : List (List (Int × Int))) (a17 : Int × (List ((Int × Int) × Int))) (a28 : Int × (List ((Int × Int) × Int))) (ag27 : (Int × (List ((Int × Int) × Int))) → Option (Bool)) (a39 : Bool) : Option (Bool) :=
  if a39 = true then (some (false)) else (if (Option.isSome (mget (a17.1, ((at' (at' p0 a17.1) a28.1).1)) a28.2)) = true then (some (false)) else (ag27 ((wI .i64 (a28.1 + (1 : Int))), (mset (a17.1, ((at' (at' p0 a17.1) a28.1).1)) ((at' (at' p0 a17.1) a28.1).2) a28.2))))
def graph_symmetric_k3 (p0 : List (List (Int × Int))) (a17 : Int × (List ((Int × Int) × Int))) (a28 : Int × (List ((Int × Int) × Int))) (ag27 : (Int × (List ((Int × Int) × Int))) → Option (Bool)) (a35 : Bool) : Option (Bool) :=
  if a35 = true then (some (false)) else (if ((at' (at' p0 a17.1) a28.1).2) < (1 : Int) then (graph_symmetric_k4 p0 a17 a28 ag27 (true)) else (graph_symmetric_k4 p0 a17 a28 ag27 (decide ((15 : Int) < ((at' (at' p0 a17.1) a28.1).2)))))
def graph_symmetric_s3 (p0 : List (List (Int × Int))) (a17 : Int × (List ((Int × Int) × Int))) (ag16 : (Int × (List ((Int × Int) × Int))) → Option (Bool)) (a28 : Int × (List ((Int × Int) × Int))) (ag27 : (Int × (List ((Int × Int) × Int))) → Option (Bool)) : Option (Bool) :=
  if a28.1 < (List.length (at' p0 a17.1) : Int) then (ck (0 ≤ a28.1 ∧ a28.1 < (List.length (at' p0 a17.1) : Int)) (if ((at' (at' p0 a17.1) a28.1).1) < (0 : Int) then (graph_symmetric_k3 p0 a17 a28 ag27 (true)) else (if (List.length p0 : Int) ≤ ((at' (at' p0 a17.1) a28.1).1) then (graph_symmetric_k3 p0 a17 a28 ag27 (true)) else (graph_symmetric_k3 p0 a17 a28 ag27 (decide (((at' (at' p0 a17.1) a28.1).1) = a17.1)))))) else (graph_symmetric_k2 a17 ag16 (a28.2))
def graph_symmetric_s2 (fuel : Nat) (p0 : List (List (Int × Int))) (a17 : Int × (List ((Int × Int) × Int))) (ag16 : (Int × (List ((Int × Int) × Int))) → Option (Bool)) : Option (Bool) :=
  if a17.1 < (List.length p0 : Int) then (ck (0 ≤ a17.1 ∧ a17.1 < (List.length p0 : Int)) (iter (graph_symmetric_s3 p0 a17 ag16) fuel ((0 : Int), a17.2))) else (graph_symmetric_k1  (a17.2))
def m_graph_symmetric (fuel : Nat) (p0 : List (List (Int × Int))) : Option (Bool) :=
  iter (graph_symmetric_s2 fuel p0) fuel ((0 : Int), ([] : List ((Int × Int) × Int)))

theorem body62 : HasBody Try.prog 62 := Try.call62

set_option maxHeartbeats 4000000 in
set_option maxRecDepth 20000 in
theorem t_graph_symmetric (fuel : Nat) {p0 : List (List (Int × Int))} (v0 : Value)  (z1 : List (Value × List (Int × Int))) (r : Bool) (h : m_graph_symmetric fuel p0 = some r) :
    Meets Try.prog 62 #[v0] [S2 RI64I64p v0 z1 p0] (fun x : Unit => Value.bool (r)) (fun x l => l) (fun _ l => l) := by
  refine Meets.of (vs := [v0]) Try.func62 rfl Try.ntmps62 rfl fun c => ?_
  unfold m_graph_symmetric at h
  refine J.seq ?_
  refine J.region ?_
  refine J.quiet (Y.assign rfl) rfl ?_
  refine J.done ?_
  refine J.thenN ?_
  refine J.seq ?_
  refine J.region ?_
  refine J.loud (Loud.makeMap vI64I64p vI64) rfl fun b1 => ?_
  refine J.quiet (Y.assign rfl) rfl ?_
  refine J.done ?_
  refine J.thenN ?_
  refine J.seq ?_
  refine J.midI (A := (List ((Int × Int) × Int))) (B := Unit) (fun a3 => graph_symmetric_k1  a3 = some r) (fun a3 b4 => [(3, Value.map (some b1))]) (fun a3 b4 => [Mp vI64I64p vI64 b1 a3]) (fun a3 b4 => [S2 RI64I64p v0 z1 p0]) ?_ ?_
  · refine J.seq ?_
    refine J.region ?_
    refine J.quiet (Y.move rfl) rfl ?_
    refine J.quiet (Y.lenN rfl (Lent.fact 0 rfl) rfl) rfl ?_
    refine J.quiet (Y.move rfl) rfl ?_
    refine J.done ?_
    refine J.thenN ?_
    refine J.block ?_
    refine J.loopI (A := Int × (List ((Int × Int) × Int))) (B := Unit) (graph_symmetric_s2 fuel p0) (fun a17 b18 => [(0, v0), (3, Value.map (some b1)), (14, v0), (15, Value.int .i64 (List.length p0 : Int)), (16, Value.int .i64 (a17.1))]) (fun a17 b18 => [Mp vI64I64p vI64 b1 a17.2]) (fun a17 b18 => [S2 RI64I64p v0 z1 p0]) ((0 : Int), ([] : List ((Int × Int) × Int))) (()) h (by repeat (first | exact SubF.nil | refine SubF.cons rfl ?_)) (SubM.refl _) (LentAll.refl _ _) ?_
    clear h
    intro k19 a17 b18 h
    unfold graph_symmetric_s2 at h
    refine J.seq ?_
    refine J.region ?_
    refine J.quiet (Y.lss rfl rfl) rfl ?_
    refine J.done ?_
    refine J.thenN ?_
    refine J.seq ?_
    refine J.condD (by exact rfl) (fun hp20 => ?_) (fun hp20 => ?_)
    · replace h := ifP hp20 h
      refine J.skip ?_
      refine J.thenN ?_
      refine J.seq ?_
      refine J.midI (A := (List ((Int × Int) × Int))) (B := Unit) (fun a22 => graph_symmetric_k2 a17 (iter (graph_symmetric_s2 fuel p0) k19) a22 = some r) (fun a22 b23 => [(0, v0), (3, Value.map (some b1)), (14, v0), (15, Value.int .i64 (List.length p0 : Int)), (16, Value.int .i64 (a17.1))]) (fun a22 b23 => [Mp vI64I64p vI64 b1 a22]) (fun a22 b23 => [S2 RI64I64p v0 z1 p0]) ?_ ?_
      · refine J.block ?_
        refine J.seq ?_
        refine J.region ?_
        refine J.quiet (Y.move rfl) rfl ?_
        replace h := ck_some h; obtain ⟨hc24, h⟩ := h
        refine J.quiet (Y.indexN rfl rfl (Lent.fact 0 rfl) rfl rfl hc24) rfl ?_
        refine J.quiet (Y.loadRow rfl (Lent.fact 0 rfl) rfl rfl hc24) rfl ?_
        refine J.quiet (Y.assign rfl) rfl ?_
        refine J.quiet (Y.assign rfl) rfl ?_
        refine J.done ?_
        refine J.thenN ?_
        refine J.seq ?_
        refine J.region ?_
        refine J.quiet (Y.move rfl) rfl ?_
        refine J.quiet (Y.lenS rfl (Lent.el (Lent.fact 0 rfl) hc24.1 hc24.2) rfl) rfl ?_
        refine J.quiet (Y.move rfl) rfl ?_
        refine J.done ?_
        refine J.thenN ?_
        refine J.block ?_
        refine J.loopI (A := Int × (List ((Int × Int) × Int))) (B := Unit) (graph_symmetric_s3 p0 a17 (iter (graph_symmetric_s2 fuel p0) k19)) (fun a28 b29 => [(0, v0), (3, Value.map (some b1)), (4, Value.int .i64 (a17.1)), (14, v0), (15, Value.int .i64 (List.length p0 : Int)), (16, Value.int .i64 (a17.1)), (21, (at' z1 a17.1).1), (22, Value.int .i64 (List.length (at' p0 a17.1) : Int)), (23, Value.int .i64 (a28.1))]) (fun a28 b29 => [Mp vI64I64p vI64 b1 a28.2]) (fun a28 b29 => [S2 RI64I64p v0 z1 p0]) ((0 : Int), a17.2) (()) h (by repeat (first | exact SubF.nil | refine SubF.cons rfl ?_)) (SubM.refl _) (LentAll.refl _ _) ?_
        clear h
        intro k30 a28 b29 h
        unfold graph_symmetric_s3 at h
        refine J.seq ?_
        refine J.region ?_
        refine J.quiet (Y.lss rfl rfl) rfl ?_
        refine J.done ?_
        refine J.thenN ?_
        refine J.seq ?_
        refine J.condD (by exact rfl) (fun hp31 => ?_) (fun hp31 => ?_)
        · replace h := ifP hp31 h
          refine J.skip ?_
          refine J.thenN ?_
          refine J.seq ?_
          refine J.block ?_
          refine J.seq ?_
          refine J.region ?_
          replace h := ck_some h; obtain ⟨hc32, h⟩ := h
          refine J.quiet (Y.indexS rfl rfl (Lent.el (Lent.fact 0 rfl) hc24.1 hc24.2) rfl rfl hc32) rfl ?_
          refine J.quiet (Y.loadAggS (cs := [Value.int .i64 ((at' (at' p0 a17.1) a28.1).1), Value.int .i64 ((at' (at' p0 a17.1) a28.1).2)]) rfl (Lent.el (Lent.fact 0 rfl) hc24.1 hc24.2) FI64I64p rfl rfl rfl rfl hc32) rfl ?_
          refine J.loud (Loud.alloc (cs := [Value.int .i64 (0 : Int), Value.int .i64 (0 : Int)]) rfl rfl) rfl fun b33 => ?_
          refine J.storeAll 0 (vs := [Value.int .i64 ((at' (at' p0 a17.1) a28.1).1), Value.int .i64 ((at' (at' p0 a17.1) a28.1).2)]) rfl rfl rfl rfl rfl rfl ?_
          refine J.done ?_
          refine J.thenN ?_
          refine J.seq ?_
          refine J.seq ?_
          refine J.midI (A := Bool) (B := Unit) (fun a35 => graph_symmetric_k3 p0 a17 a28 (iter (graph_symmetric_s3 p0 a17 (iter (graph_symmetric_s2 fuel p0) k19)) k30) a35 = some r) (fun a35 b36 => [(0, v0), (3, Value.map (some b1)), (4, Value.int .i64 (a17.1)), (7, Value.pointer (some ⟨b33, 0, none⟩)), (14, v0), (15, Value.int .i64 (List.length p0 : Int)), (16, Value.int .i64 (a17.1)), (21, (at' z1 a17.1).1), (22, Value.int .i64 (List.length (at' p0 a17.1) : Int)), (23, Value.int .i64 (a28.1)), (42, Value.bool (a35))]) (fun a35 b36 => [Blk b33 [Value.int .i64 ((at' (at' p0 a17.1) a28.1).1), Value.int .i64 ((at' (at' p0 a17.1) a28.1).2)] 40, Mp vI64I64p vI64 b1 a28.2]) (fun a35 b36 => [S2 RI64I64p v0 z1 p0]) ?_ ?_
          · refine J.region ?_
            refine J.quiet (Y.fieldB rfl rfl rfl rfl rfl) rfl ?_
            refine J.quiet (Y.loadB 0 rfl rfl rfl rfl rfl) rfl ?_
            refine J.quiet (Y.lss rfl rfl) rfl ?_
            refine J.quiet (Y.move rfl) rfl ?_
            refine J.guardD (by exact rfl) (by exact rfl) (fun hp45 => ?_) (fun hp45 => ?_)
            · replace h := ifP hp45 h
              refine J.guardN rfl rfl rfl ?_
              refine J.guardN rfl rfl rfl ?_
              refine J.guardN rfl rfl rfl ?_
              refine J.guardN rfl rfl rfl ?_
              refine J.guardN rfl rfl rfl ?_
              refine J.quiet (Y.pickT rfl rfl) rfl ?_
              refine J.quiet (Y.move rfl) rfl ?_
              refine J.guardN rfl rfl rfl ?_
              refine J.guardN rfl rfl rfl ?_
              refine J.guardN rfl rfl rfl ?_
              refine J.guardN rfl rfl rfl ?_
              refine J.quiet (Y.pickT rfl rfl) rfl ?_
              refine J.done ?_
              refine J.thenN ?_
              exact J.meetI (true) (()) h (by repeat (first | exact SubF.nil | refine SubF.cons rfl ?_)) (SubM.refl _) (LentAll.refl _ _)
            · replace h := ifN hp45 h
              refine J.guardY rfl (Y.fieldB rfl rfl rfl rfl rfl) rfl ?_
              refine J.guardY rfl (Y.loadB 0 rfl rfl rfl rfl rfl) rfl ?_
              refine J.guardY rfl (Y.move rfl) rfl ?_
              refine J.guardY rfl (Y.lenN rfl (Lent.fact 0 rfl) rfl) rfl ?_
              refine J.guardY rfl (Y.geq rfl rfl) rfl ?_
              refine J.quiet (Y.pickF rfl rfl) rfl ?_
              refine J.quiet (Y.move rfl) rfl ?_
              refine J.guardD (by exact rfl) (by exact rfl) (fun hp46 => ?_) (fun hp46 => ?_)
              · replace h := ifP hp46 h
                refine J.guardN rfl rfl rfl ?_
                refine J.guardN rfl rfl rfl ?_
                refine J.guardN rfl rfl rfl ?_
                refine J.guardN rfl rfl rfl ?_
                refine J.quiet (Y.pickT rfl rfl) rfl ?_
                refine J.done ?_
                refine J.thenN ?_
                exact J.meetI (true) (()) h (by repeat (first | exact SubF.nil | refine SubF.cons rfl ?_)) (SubM.refl _) (LentAll.refl _ _)
              · replace h := ifN hp46 h
                refine J.guardY rfl (Y.fieldB rfl rfl rfl rfl rfl) rfl ?_
                refine J.guardY rfl (Y.loadB 0 rfl rfl rfl rfl rfl) rfl ?_
                refine J.guardY rfl (Y.move rfl) rfl ?_
                refine J.guardY rfl (Y.eql rfl rfl) rfl ?_
                refine J.quiet (Y.pickF rfl rfl) rfl ?_
                refine J.done ?_
                refine J.thenN ?_
                exact J.meetI (decide (((at' (at' p0 a17.1) a28.1).1) = a17.1)) (()) h (by repeat (first | exact SubF.nil | refine SubF.cons rfl ?_)) (SubM.refl _) (LentAll.refl _ _)
          · clear h
            intro a35 b36 h
            unfold graph_symmetric_k3 at h
            refine J.cond (by exact rfl) (fun hp37 => ?_) (fun hp37 => ?_)
            · replace h := ifP hp37 h
              refine J.seq ?_
              refine J.region ?_
              refine J.quiet (Y.assign rfl) rfl ?_
              refine J.done ?_
              refine J.thenN ?_
              refine J.ret ?_
              refine J.thenR ?_
              refine J.inR ?_
              refine J.thenR ?_
              refine J.thenR ?_
              refine J.inR ?_
              refine J.inR ?_
              refine J.thenR ?_
              refine J.thenR ?_
              refine J.inR ?_
              refine J.thenR ?_
              obtain rfl := Option.some.inj h
              exact J.retG1 (()) rfl rfl (RV.tmp rfl) (SubM.nil) LentAll.nil
            · replace h := ifBN hp37 h
              refine J.skip ?_
              refine J.thenN ?_
              refine J.seq ?_
              refine J.seq ?_
              refine J.midI (A := Bool) (B := Unit) (fun a39 => graph_symmetric_k4 p0 a17 a28 (iter (graph_symmetric_s3 p0 a17 (iter (graph_symmetric_s2 fuel p0) k19)) k30) a39 = some r) (fun a39 b40 => [(0, v0), (3, Value.map (some b1)), (4, Value.int .i64 (a17.1)), (7, Value.pointer (some ⟨b33, 0, none⟩)), (14, v0), (15, Value.int .i64 (List.length p0 : Int)), (16, Value.int .i64 (a17.1)), (21, (at' z1 a17.1).1), (22, Value.int .i64 (List.length (at' p0 a17.1) : Int)), (23, Value.int .i64 (a28.1)), (50, Value.bool (a39))]) (fun a39 b40 => [Blk b33 [Value.int .i64 ((at' (at' p0 a17.1) a28.1).1), Value.int .i64 ((at' (at' p0 a17.1) a28.1).2)] 40, Mp vI64I64p vI64 b1 a28.2]) (fun a39 b40 => [S2 RI64I64p v0 z1 p0]) ?_ ?_
              · refine J.region ?_
                refine J.quiet (Y.fieldB rfl rfl rfl rfl rfl) rfl ?_
                refine J.quiet (Y.loadB 0 rfl rfl rfl rfl rfl) rfl ?_
                refine J.quiet (Y.lss rfl rfl) rfl ?_
                refine J.quiet (Y.move rfl) rfl ?_
                refine J.guardD (by exact rfl) (by exact rfl) (fun hp44 => ?_) (fun hp44 => ?_)
                · replace h := ifP hp44 h
                  refine J.guardN rfl rfl rfl ?_
                  refine J.guardN rfl rfl rfl ?_
                  refine J.guardN rfl rfl rfl ?_
                  refine J.quiet (Y.pickT rfl rfl) rfl ?_
                  refine J.done ?_
                  refine J.thenN ?_
                  exact J.meetI (true) (()) h (by repeat (first | exact SubF.nil | refine SubF.cons rfl ?_)) (SubM.refl _) (LentAll.refl _ _)
                · replace h := ifN hp44 h
                  refine J.guardY rfl (Y.fieldB rfl rfl rfl rfl rfl) rfl ?_
                  refine J.guardY rfl (Y.loadB 0 rfl rfl rfl rfl rfl) rfl ?_
                  refine J.guardY rfl (Y.gtr rfl rfl) rfl ?_
                  refine J.quiet (Y.pickF rfl rfl) rfl ?_
                  refine J.done ?_
                  refine J.thenN ?_
                  exact J.meetI (decide ((15 : Int) < ((at' (at' p0 a17.1) a28.1).2))) (()) h (by repeat (first | exact SubF.nil | refine SubF.cons rfl ?_)) (SubM.refl _) (LentAll.refl _ _)
              · clear h
                intro a39 b40 h
                unfold graph_symmetric_k4 at h
                refine J.cond (by exact rfl) (fun hp41 => ?_) (fun hp41 => ?_)
                · replace h := ifP hp41 h
                  refine J.seq ?_
                  refine J.region ?_
                  refine J.quiet (Y.assign rfl) rfl ?_
                  refine J.done ?_
                  refine J.thenN ?_
                  refine J.ret ?_
                  refine J.thenR ?_
                  refine J.inR ?_
                  refine J.thenR ?_
                  refine J.thenR ?_
                  refine J.inR ?_
                  refine J.inR ?_
                  refine J.thenR ?_
                  refine J.thenR ?_
                  refine J.inR ?_
                  refine J.thenR ?_
                  obtain rfl := Option.some.inj h
                  exact J.retG1 (()) rfl rfl (RV.tmp rfl) (SubM.nil) LentAll.nil
                · replace h := ifBN hp41 h
                  refine J.skip ?_
                  refine J.thenN ?_
                  refine J.seq ?_
                  refine J.region ?_
                  refine J.quiet (Y.move rfl) rfl ?_
                  refine J.quiet (Y.fieldB rfl rfl rfl rfl rfl) rfl ?_
                  refine J.quiet (Y.loadB 0 rfl rfl rfl rfl rfl) rfl ?_
                  refine J.quiet (Y.bld2 (r := Value.agg #[Value.int .i64 (a17.1), Value.int .i64 ((at' (at' p0 a17.1) a28.1).1)]) rfl rfl (by intro w; simp [Instr.build, Instr.fill, cells_intV, cells_boolV, cells_sliceV, cells_ptrV, cells_strV, cells_funcV, cells_agg])) rfl ?_
                  refine J.loud (Loud.alloc (cs := [Value.int .i64 (0 : Int), Value.int .i64 (0 : Int)]) rfl rfl) rfl fun b42 => ?_
                  refine J.storeAll 0 (vs := [Value.int .i64 (a17.1), Value.int .i64 ((at' (at' p0 a17.1) a28.1).1)]) rfl rfl rfl rfl rfl rfl ?_
                  refine J.done ?_
                  refine J.thenN ?_
                  refine J.seq ?_
                  refine J.seq ?_
                  refine J.region ?_
                  refine J.quiet (Y.move rfl) rfl ?_
                  refine J.quiet (Y.loadBAll 0 rfl rfl rfl rfl) rfl ?_
                  refine J.quiet (Y.lookup 2 ((a17.1, ((at' (at' p0 a17.1) a28.1).1))) (u := Value.int .i64 (Option.getD (mget (a17.1, ((at' (at' p0 a17.1) a28.1).1)) a28.2) (0 : Int))) kok_42 rfl rfl rfl rfl rfl (by cases mget ((a17.1, ((at' (at' p0 a17.1) a28.1).1))) a28.2 <;> rfl)) rfl ?_
                  refine J.quiet (Y.move rfl) rfl ?_
                  refine J.quiet (Y.extract rfl rfl) rfl ?_
                  refine J.quiet (Y.extract rfl rfl) rfl ?_
                  refine J.quiet (Y.assign rfl) rfl ?_
                  refine J.quiet (Y.assign rfl) rfl ?_
                  refine J.done ?_
                  refine J.thenN ?_
                  refine J.seq ?_
                  refine J.region ?_
                  refine J.quiet (Y.move rfl) rfl ?_
                  refine J.done ?_
                  refine J.thenN ?_
                  refine J.cond (by exact rfl) (fun hp43 => ?_) (fun hp43 => ?_)
                  · replace h := ifP hp43 h
                    refine J.seq ?_
                    refine J.region ?_
                    refine J.quiet (Y.assign rfl) rfl ?_
                    refine J.done ?_
                    refine J.thenN ?_
                    refine J.ret ?_
                    refine J.thenR ?_
                    refine J.inR ?_
                    refine J.thenR ?_
                    refine J.thenR ?_
                    refine J.inR ?_
                    refine J.inR ?_
                    refine J.thenR ?_
                    refine J.thenR ?_
                    refine J.inR ?_
                    refine J.thenR ?_
                    obtain rfl := Option.some.inj h
                    exact J.retG1 (()) rfl rfl (RV.tmp rfl) (SubM.nil) LentAll.nil
                  · replace h := ifBN hp43 h
                    refine J.skip ?_
                    refine J.thenN ?_
                    refine J.region ?_
                    refine J.quiet (Y.move rfl) rfl ?_
                    refine J.quiet (Y.loadBAll 0 rfl rfl rfl rfl) rfl ?_
                    refine J.quiet (Y.fieldB rfl rfl rfl rfl rfl) rfl ?_
                    refine J.quiet (Y.loadB 1 rfl rfl rfl rfl rfl) rfl ?_
                    refine J.mapUpdate 2 ((a17.1, ((at' (at' p0 a17.1) a28.1).1))) ((at' (at' p0 a17.1) a28.1).2) kok_42 rfl rfl rfl rfl rfl ?_
                    refine J.done ?_
                    refine J.inN ?_
                    refine J.thenN ?_
                    refine J.region ?_
                    refine J.quiet (Y.addW rfl rfl) rfl ?_
                    refine J.quiet (Y.move rfl) rfl ?_
                    refine J.done ?_
                    refine J.thenN ?_
                    exact J.againI ((wI .i64 (a28.1 + (1 : Int))), (mset (a17.1, ((at' (at' p0 a17.1) a28.1).1)) ((at' (at' p0 a17.1) a28.1).2) a28.2)) (()) h (by repeat (first | exact SubF.nil | refine SubF.cons rfl ?_)) (SubM.cons 2 rfl (SubM.nil)) (LentAll.refl _ _)
        · replace h := ifN hp31 h
          refine J.exit ?_
          refine J.thenX ?_
          refine J.thenX ?_
          refine J.inX ?_
          refine J.inN ?_
          refine J.thenN ?_
          exact J.meetI (a28.2) (()) h (by repeat (first | exact SubF.nil | refine SubF.cons rfl ?_)) (SubM.refl _) (LentAll.refl _ _)
      · clear h
        intro a22 b23 h
        unfold graph_symmetric_k2 at h
        refine J.region ?_
        refine J.quiet (Y.addW rfl rfl) rfl ?_
        refine J.quiet (Y.move rfl) rfl ?_
        refine J.done ?_
        refine J.thenN ?_
        exact J.againI ((wI .i64 (a17.1 + (1 : Int))), a22) (()) h (by repeat (first | exact SubF.nil | refine SubF.cons rfl ?_)) (SubM.refl _) (LentAll.refl _ _)
    · replace h := ifN hp20 h
      refine J.exit ?_
      refine J.thenX ?_
      refine J.thenX ?_
      refine J.inX ?_
      refine J.thenN ?_
      exact J.meetI (a17.2) (()) h (by repeat (first | exact SubF.nil | refine SubF.cons rfl ?_)) (SubM.refl _) (LentAll.refl _ _)
  · clear h
    intro a3 b4 h
    unfold graph_symmetric_k1 at h
    refine J.seq ?_
    refine J.seq ?_
    refine J.region ?_
    refine J.quiet (Y.move rfl) rfl ?_
    refine J.loud (Loud.range 0 rfl rfl rfl) rfl fun b5 => ?_
    refine J.done ?_
    refine J.thenN ?_
    refine J.block ?_
    refine J.weakE [(3, Value.map (some b1)), (69, Value.pointer (some ⟨b5, 0, none⟩))] [It b5 b1 (List.length a3) ([]), Mp vI64I64p vI64 b1 a3] [S2 RI64I64p v0 z1 p0] (by repeat (first | exact SubF.nil | refine SubF.cons rfl ?_)) (SubM.refl _) (LentAll.refl _ _) ?_
    refine J.loopMap (graph_symmetric_s1 a3) 1 0 (by intro a b x; unfold graph_symmetric_s1; repeat' split; all_goals first | rfl | contradiction | simp_all) h rfl rfl rfl rfl rfl rfl ?_ ?_
    · clear h
      intro kv6 i7 se8 xa9 hkv10 h
      unfold graph_symmetric_s1 at h
      refine J.block ?_
      refine J.seq ?_
      refine J.region ?_
      refine J.loud (Loud.entry 1 0 hkv10 rfl rfl rfl) rfl fun x11 => ?_
      refine J.quiet (Y.extract rfl rfl) rfl ?_
      refine J.quiet (Y.extract rfl rfl) rfl ?_
      refine J.loud (Loud.alloc (cs := [Value.int .i64 (0 : Int), Value.int .i64 (0 : Int)]) rfl rfl) rfl fun b12 => ?_
      refine J.storeAll 0 (vs := [Value.int .i64 (kv6.1.1), Value.int .i64 (kv6.1.2)]) rfl rfl rfl rfl rfl rfl ?_
      refine J.quiet (Y.assign rfl) rfl ?_
      refine J.done ?_
      refine J.thenN ?_
      refine J.seq ?_
      refine J.region ?_
      refine J.quiet (Y.move rfl) rfl ?_
      refine J.quiet (Y.indexArr (i := 1) rfl rfl rfl rfl rfl (by decide)) rfl ?_
      refine J.quiet (Y.loadB 0 rfl rfl rfl rfl rfl) rfl ?_
      refine J.quiet (Y.indexArr (i := 0) rfl rfl rfl rfl rfl (by decide)) rfl ?_
      refine J.quiet (Y.loadB 0 rfl rfl rfl rfl rfl) rfl ?_
      refine J.quiet (Y.bld2 (r := Value.agg #[Value.int .i64 (kv6.1.2), Value.int .i64 (kv6.1.1)]) rfl rfl (by intro w; simp [Instr.build, Instr.fill, cells_intV, cells_boolV, cells_sliceV, cells_ptrV, cells_strV, cells_funcV, cells_agg])) rfl ?_
      refine J.quiet (Y.lookup 2 ((kv6.1.2, kv6.1.1)) (u := Value.int .i64 (Option.getD (mget (kv6.1.2, kv6.1.1) a3) (0 : Int))) kok_42 rfl rfl rfl rfl rfl (by cases mget ((kv6.1.2, kv6.1.1)) a3 <;> rfl)) rfl ?_
      refine J.quiet (Y.move rfl) rfl ?_
      refine J.quiet (Y.neq rfl rfl) rfl ?_
      refine J.done ?_
      refine J.thenN ?_
      refine J.condD (by exact rfl) (fun hp13 => ?_) (fun hp13 => ?_)
      · replace h := ifP hp13 h
        refine J.seq ?_
        refine J.region ?_
        refine J.quiet (Y.assign rfl) rfl ?_
        refine J.done ?_
        refine J.thenN ?_
        refine J.ret ?_
        refine J.inR ?_
        refine J.thenR ?_
        refine J.inR ?_
        refine J.thenR ?_
        obtain rfl := Option.some.inj h
        exact J.retG1 (()) rfl rfl (RV.tmp rfl) (SubM.nil) LentAll.nil
      · replace h := ifN hp13 h
        refine J.skip ?_
        refine J.inN ?_
        refine J.thenN ?_
        exact J.mapAgain h (by repeat (first | exact SubF.nil | refine SubF.cons rfl ?_)) (SubM.cons 1 rfl (SubM.cons 1 rfl (SubM.nil))) (LentAll.refl _ _)
    · clear h
      intro se8 h
      refine J.inX ?_
      refine J.thenN ?_
      refine J.seq ?_
      refine J.region ?_
      refine J.quiet (Y.assign rfl) rfl ?_
      refine J.done ?_
      refine J.thenN ?_
      refine J.ret ?_
      obtain rfl := Option.some.inj h
      exact J.retG1 (()) rfl rfl (RV.tmp rfl) (SubM.nil) LentAll.nil

end Go.Proofs.Ytmajgimhmfeliaa
end
section
set_option linter.unusedVariables false
set_option linter.unusedSimpArgs false
namespace Go.Proofs.Ytmajgimhmfeliaa
open Go.Sx
set_option linter.unusedVariables false
set_option linter.unusedSimpArgs false
def graph_Valid_k2  (a7 : Bool) : Option (Bool) :=
  some (a7)
def graph_Valid_k1 (fuel : Nat) (p0 : List (Int) × (List (List (Int × Int)))) (a3 : Bool) : Option (Bool) :=
  if a3 = true then (some (false)) else (Option.bind (m_graph_DifferentIDs fuel p0.1) fun r9 => (if r9 = true then (Option.bind (m_graph_symmetric fuel p0.2) fun r13 => (graph_Valid_k2  (r13))) else (graph_Valid_k2  (false))))
def m_graph_Valid (fuel : Nat) (p0 : List (Int) × (List (List (Int × Int)))) : Option (Bool) :=
  if (List.length p0.1 : Int) < (1 : Int) then (graph_Valid_k1 fuel p0 (true)) else (if (24 : Int) < (List.length p0.1 : Int) then (graph_Valid_k1 fuel p0 (true)) else (graph_Valid_k1 fuel p0 (decide ((List.length p0.2 : Int) ≠ (List.length p0.1 : Int)))))

theorem body45 : HasBody Try.prog 45 := Try.call45

set_option maxHeartbeats 4000000 in
set_option maxRecDepth 20000 in
theorem t_graph_Valid (fuel : Nat) {p0 : List (Int) × (List (List (Int × Int)))} (v0 : Value)  (v1 : Value)  (z2 : List (Value × List (Int × Int))) (r : Bool) (h : m_graph_Valid fuel p0 = some r) :
    Meets Try.prog 45 #[Value.agg #[v0, v1]] [Sl RI64 v0 p0.1, S2 RI64I64p v1 z2 p0.2] (fun x : Unit => Value.bool (r)) (fun x l => l) (fun _ l => l) := by
  refine Meets.of (vs := [Value.agg #[v0, v1]]) Try.func45 rfl Try.ntmps45 rfl fun c => ?_
  unfold m_graph_Valid at h
  refine J.seq ?_
  refine J.region ?_
  refine J.loud (Loud.box (cs := [v0, v1]) rfl rfl) rfl fun b1 => ?_
  refine J.quiet (Y.assign rfl) rfl ?_
  refine J.done ?_
  refine J.thenN ?_
  refine J.seq ?_
  refine J.region ?_
  refine J.quiet (Y.fieldB rfl rfl rfl rfl rfl) rfl ?_
  refine J.quiet (Y.loadB 0 rfl rfl rfl rfl rfl) rfl ?_
  refine J.quiet (Y.lenS rfl (Lent.fact 0 rfl) rfl) rfl ?_
  refine J.quiet (Y.assign rfl) rfl ?_
  refine J.done ?_
  refine J.thenN ?_
  refine J.seq ?_
  refine J.seq ?_
  refine J.midI (A := Bool) (B := Unit) (fun a3 => graph_Valid_k1 fuel p0 a3 = some r) (fun a3 b4 => [(1, Value.pointer (some ⟨b1, 0, none⟩)), (19, Value.bool (a3))]) (fun a3 b4 => [Blk b1 [v0, v1] 29]) (fun a3 b4 => [Sl RI64 v0 p0.1, S2 RI64I64p v1 z2 p0.2]) ?_ ?_
  · refine J.region ?_
    refine J.quiet (Y.move rfl) rfl ?_
    refine J.quiet (Y.lss rfl rfl) rfl ?_
    refine J.quiet (Y.move rfl) rfl ?_
    refine J.guardD (by exact rfl) (by exact rfl) (fun hp16 => ?_) (fun hp16 => ?_)
    · replace h := ifP hp16 h
      refine J.guardN rfl rfl rfl ?_
      refine J.guardN rfl rfl rfl ?_
      refine J.quiet (Y.pickT rfl rfl) rfl ?_
      refine J.quiet (Y.move rfl) rfl ?_
      refine J.guardN rfl rfl rfl ?_
      refine J.guardN rfl rfl rfl ?_
      refine J.guardN rfl rfl rfl ?_
      refine J.guardN rfl rfl rfl ?_
      refine J.guardN rfl rfl rfl ?_
      refine J.quiet (Y.pickT rfl rfl) rfl ?_
      refine J.done ?_
      refine J.thenN ?_
      exact J.meetI (true) (()) h (by repeat (first | exact SubF.nil | refine SubF.cons rfl ?_)) (SubM.refl _) (LentAll.refl _ _)
    · replace h := ifN hp16 h
      refine J.guardY rfl (Y.move rfl) rfl ?_
      refine J.guardY rfl (Y.gtr rfl rfl) rfl ?_
      refine J.quiet (Y.pickF rfl rfl) rfl ?_
      refine J.quiet (Y.move rfl) rfl ?_
      refine J.guardD (by exact rfl) (by exact rfl) (fun hp17 => ?_) (fun hp17 => ?_)
      · replace h := ifP hp17 h
        refine J.guardN rfl rfl rfl ?_
        refine J.guardN rfl rfl rfl ?_
        refine J.guardN rfl rfl rfl ?_
        refine J.guardN rfl rfl rfl ?_
        refine J.guardN rfl rfl rfl ?_
        refine J.quiet (Y.pickT rfl rfl) rfl ?_
        refine J.done ?_
        refine J.thenN ?_
        exact J.meetI (true) (()) h (by repeat (first | exact SubF.nil | refine SubF.cons rfl ?_)) (SubM.refl _) (LentAll.refl _ _)
      · replace h := ifN hp17 h
        refine J.guardY rfl (Y.fieldB rfl rfl rfl rfl rfl) rfl ?_
        refine J.guardY rfl (Y.loadB 0 rfl rfl rfl rfl rfl) rfl ?_
        refine J.guardY rfl (Y.lenN rfl (Lent.fact 1 rfl) rfl) rfl ?_
        refine J.guardY rfl (Y.move rfl) rfl ?_
        refine J.guardY rfl (Y.neq rfl rfl) rfl ?_
        refine J.quiet (Y.pickF rfl rfl) rfl ?_
        refine J.done ?_
        refine J.thenN ?_
        exact J.meetI (decide ((List.length p0.2 : Int) ≠ (List.length p0.1 : Int))) (()) h (by repeat (first | exact SubF.nil | refine SubF.cons rfl ?_)) (SubM.refl _) (LentAll.refl _ _)
  · clear h
    intro a3 b4 h
    unfold graph_Valid_k1 at h
    refine J.cond (by exact rfl) (fun hp5 => ?_) (fun hp5 => ?_)
    · replace h := ifP hp5 h
      refine J.seq ?_
      refine J.region ?_
      refine J.quiet (Y.assign rfl) rfl ?_
      refine J.done ?_
      refine J.thenN ?_
      refine J.ret ?_
      refine J.thenR ?_
      obtain rfl := Option.some.inj h
      exact J.retG1 (()) rfl rfl (RV.tmp rfl) (SubM.nil) LentAll.nil
    · replace h := ifBN hp5 h
      refine J.skip ?_
      refine J.thenN ?_
      refine J.seq ?_
      refine J.midI (A := Bool) (B := Unit) (fun a7 => graph_Valid_k2  a7 = some r) (fun a7 b8 => [(2, Value.bool (a7))]) (fun a7 b8 => []) (fun a7 b8 => [Sl RI64 v0 p0.1, S2 RI64I64p v1 z2 p0.2]) ?_ ?_
      · refine J.region ?_
        refine J.quiet (Y.fieldB rfl rfl rfl rfl rfl) rfl ?_
        refine J.quiet (Y.loadB 0 rfl rfl rfl rfl rfl) rfl ?_
        replace h := bnd h; obtain ⟨r9, hr10, h⟩ := h
        refine J.loud (Loud.callL body61 (t_graph_DifferentIDs fuel v0 r9 hr10) rfl (LentAll.cons (Lent.fact 0 rfl) (LentAll.nil)) (fun _ _ => rfl)) rfl fun x11 => ?_
        refine J.quiet (Y.move rfl) rfl ?_
        refine J.guard (by exact rfl) (by exact rfl) (fun hp12 => ?_) (fun hp12 => ?_)
        · replace h := ifP hp12 h
          refine J.guardY rfl (Y.fieldB rfl rfl rfl rfl rfl) rfl ?_
          refine J.guardY rfl (Y.loadB 0 rfl rfl rfl rfl rfl) rfl ?_
          replace h := bnd h; obtain ⟨r13, hr14, h⟩ := h
          refine J.loudG rfl (Loud.callL body62 (t_graph_symmetric fuel v1 z2 r13 hr14) rfl (LentAll.cons (Lent.fact 1 rfl) (LentAll.nil)) (fun _ _ => rfl)) rfl fun x15 => ?_
          refine J.quiet (Y.pickT rfl rfl) rfl ?_
          refine J.quiet (Y.assign rfl) rfl ?_
          refine J.done ?_
          refine J.thenN ?_
          exact J.meetI (r13) (()) h (by repeat (first | exact SubF.nil | refine SubF.cons rfl ?_)) (SubM.nil) (LentAll.refl _ _)
        · replace h := ifBN hp12 h
          refine J.guardN rfl rfl rfl ?_
          refine J.guardN rfl rfl rfl ?_
          refine J.guardN rfl rfl rfl ?_
          refine J.quiet (Y.pickF rfl rfl) rfl ?_
          refine J.quiet (Y.assign rfl) rfl ?_
          refine J.done ?_
          refine J.thenN ?_
          exact J.meetI (false) (()) h (by repeat (first | exact SubF.nil | refine SubF.cons rfl ?_)) (SubM.nil) (LentAll.refl _ _)
      · clear h
        intro a7 b8 h
        unfold graph_Valid_k2 at h
        refine J.ret ?_
        obtain rfl := Option.some.inj h
        exact J.retG1 (()) rfl rfl (RV.tmp rfl) (SubM.refl _) LentAll.nil

end Go.Proofs.Ytmajgimhmfeliaa
end
section
set_option linter.unusedVariables false
set_option linter.unusedSimpArgs false
namespace Go.Proofs.Ytmajgimhmfeliaa
open Go.Sx
set_option linter.unusedVariables false
set_option linter.unusedSimpArgs false
def graph_search_k2  (a10 : List (Int)) : Option (List (Int)) :=
  some (a10)
def graph_search_k3 (a29 : Int × List (Int) × List (Int)) (ag28 : (Int × List (Int) × List (Int)) → Option (List (Int))) (a36 : List (Int) × List (Int)) : Option (List (Int)) :=
  ag28 ((wI .i64 (a29.1 + (1 : Int))), a36.1, a36.2)
def graph_search_s2 (p0 : List (Int) × (List (List (Int × Int)))) (a16 : List (Int) × List (Int)) (ag15 : (List (Int) × List (Int)) → Option (List (Int))) (a29 : Int × List (Int) × List (Int)) (ag28 : (Int × List (Int) × List (Int)) → Option (List (Int))) : Option (List (Int)) :=
  if a29.1 < (List.length (at' p0.2 (at' a16.1 (0 : Int))) : Int) then (ck (0 ≤ a29.1 ∧ a29.1 < (List.length (at' p0.2 (at' a16.1 (0 : Int))) : Int)) (ck (0 ≤ ((at' (at' p0.2 (at' a16.1 (0 : Int))) a29.1).1) ∧ ((at' (at' p0.2 (at' a16.1 (0 : Int))) a29.1).1) < (List.length a29.2.2 : Int)) (if (at' a29.2.2 ((at' (at' p0.2 (at' a16.1 (0 : Int))) a29.1).1)) < (0 : Int) then (ck (0 ≤ (at' a16.1 (0 : Int)) ∧ (at' a16.1 (0 : Int)) < (List.length a29.2.2 : Int)) (ck (0 ≤ ((at' (at' p0.2 (at' a16.1 (0 : Int))) a29.1).1) ∧ ((at' (at' p0.2 (at' a16.1 (0 : Int))) a29.1).1) < (List.length a29.2.2 : Int)) (ck ((List.length a29.2.1 : Int) + (List.length ([ ((at' (at' p0.2 (at' a16.1 (0 : Int))) a29.1).1)]) : Int) ≤ 1099511627) (graph_search_k3 a29 ag28 ((a29.2.1 ++ ([ ((at' (at' p0.2 (at' a16.1 (0 : Int))) a29.1).1)])), (List.set a29.2.2 (Int.toNat ((at' (at' p0.2 (at' a16.1 (0 : Int))) a29.1).1)) (wI .i64 ((at' a29.2.2 (at' a16.1 (0 : Int))) + (1 : Int))))))))) else (graph_search_k3 a29 ag28 (a29.2.1, a29.2.2))))) else (ag15 (a29.2.1, a29.2.2))
def graph_search_s1 (fuel : Nat) (p0 : List (Int) × (List (List (Int × Int)))) (a16 : List (Int) × List (Int)) (ag15 : (List (Int) × List (Int)) → Option (List (Int))) : Option (List (Int)) :=
  if (0 : Int) < (List.length a16.1 : Int) then (ck (0 ≤ (0 : Int) ∧ (0 : Int) < (List.length a16.1 : Int)) (ck (0 ≤ (1 : Int) ∧ (1 : Int) ≤ (List.length a16.1 : Int)) (ck (0 ≤ (at' a16.1 (0 : Int)) ∧ (at' a16.1 (0 : Int)) < (List.length p0.2 : Int)) (iter (graph_search_s2 p0 a16 ag15) fuel ((0 : Int), (List.drop (Int.toNat (1 : Int)) a16.1), a16.2))))) else (graph_search_k2  (a16.2))
def graph_search_k1 (fuel : Nat) (p0 : List (Int) × (List (List (Int × Int)))) (p1 : Int) (a5 : List (Int)) : Option (List (Int)) :=
  ck (0 ≤ p1 ∧ p1 < (List.length a5 : Int)) (iter (graph_search_s1 fuel p0) fuel (([p1]), (List.set a5 (Int.toNat p1) (0 : Int))))
def graph_search_s3 (fuel : Nat) (p0 : List (Int) × (List (List (Int × Int)))) (p1 : Int) (a50 : Int × List (Int)) (ag49 : (Int × List (Int)) → Option (List (Int))) : Option (List (Int)) :=
  if a50.1 < (List.length (List.replicate (Int.toNat (List.length p0.2 : Int)) (0 : Int)) : Int) then (ck (0 ≤ a50.1 ∧ a50.1 < (List.length a50.2 : Int)) (ag49 ((wI .i64 (a50.1 + (1 : Int))), (List.set a50.2 (Int.toNat a50.1) (-1 : Int))))) else (graph_search_k1 fuel p0 p1 (a50.2))
def m_graph_search (fuel : Nat) (p0 : List (Int) × (List (List (Int × Int)))) (p1 : Int) : Option (List (Int)) :=
  ck (0 ≤ (List.length p0.2 : Int) ∧ (List.length p0.2 : Int) ≤ 1099511627) (iter (graph_search_s3 fuel p0 p1) fuel ((0 : Int), (List.replicate (Int.toNat (List.length p0.2 : Int)) (0 : Int))))

theorem body53 : HasBody Try.prog 53 := Try.call53

set_option maxHeartbeats 4000000 in
set_option maxRecDepth 20000 in
theorem t_graph_search (fuel : Nat) {p0 : List (Int) × (List (List (Int × Int)))} {p1 : Int} (v0 : Value)  (v1 : Value)  (z2 : List (Value × List (Int × Int))) (r : List (Int)) (h : m_graph_search fuel p0 p1 = some r) :
    Meets Try.prog 53 #[Value.agg #[v0, v1], Value.int .i64 (p1)] [Sl RI64 v0 p0.1, S2 RI64I64p v1 z2 p0.2] (fun x : Value => x) (fun x l => Ar EI64 x r :: l) (fun _ l => l) := by
  refine Meets.of (vs := [Value.agg #[v0, v1], Value.int .i64 (p1)]) Try.func53 rfl Try.ntmps53 rfl fun c => ?_
  unfold m_graph_search at h
  refine J.seq ?_
  refine J.region ?_
  refine J.loud (Loud.box (cs := [v0, v1]) rfl rfl) rfl fun b1 => ?_
  refine J.quiet (Y.assign rfl) rfl ?_
  refine J.done ?_
  refine J.thenN ?_
  refine J.seq ?_
  refine J.region ?_
  refine J.quiet (Y.fieldB rfl rfl rfl rfl rfl) rfl ?_
  refine J.quiet (Y.loadB 0 rfl rfl rfl rfl rfl) rfl ?_
  refine J.quiet (Y.lenN rfl (Lent.fact 1 rfl) rfl) rfl ?_
  replace h := ck_some h; obtain ⟨hc2, h⟩ := h
  refine J.loud (Loud.makeS (e := EI64) (0 : Int) rfl rfl rfl rfl hc2 rfl rfl rfl) rfl fun u3 => ?_
  refine J.quiet (Y.assign rfl) rfl ?_
  refine J.done ?_
  refine J.thenN ?_
  refine J.seq ?_
  refine J.midI (A := List (Int)) (B := Unit) (fun a5 => graph_search_k1 fuel p0 p1 a5 = some r) (fun a5 b6 => [(1, Value.int .i64 (p1)), (2, Value.pointer (some ⟨b1, 0, none⟩)), (5, u3)]) (fun a5 b6 => [Ar EI64 u3 a5, Blk b1 [v0, v1] 29]) (fun a5 b6 => [Sl RI64 v0 p0.1, S2 RI64I64p v1 z2 p0.2]) ?_ ?_
  · refine J.seq ?_
    refine J.region ?_
    refine J.quiet (Y.move rfl) rfl ?_
    refine J.quiet (Y.lenS rfl (Lent.ar (Lent.res 0 rfl) FI64) rfl) rfl ?_
    refine J.quiet (Y.move rfl) rfl ?_
    refine J.done ?_
    refine J.thenN ?_
    refine J.block ?_
    refine J.loopI (A := Int × List (Int)) (B := Unit) (graph_search_s3 fuel p0 p1) (fun a50 b51 => [(1, Value.int .i64 (p1)), (2, Value.pointer (some ⟨b1, 0, none⟩)), (5, u3), (16, Value.int .i64 (List.length (List.replicate (Int.toNat (List.length p0.2 : Int)) (0 : Int)) : Int)), (17, Value.int .i64 (a50.1))]) (fun a50 b51 => [Ar EI64 u3 a50.2, Blk b1 [v0, v1] 29]) (fun a50 b51 => [Sl RI64 v0 p0.1, S2 RI64I64p v1 z2 p0.2]) ((0 : Int), (List.replicate (Int.toNat (List.length p0.2 : Int)) (0 : Int))) (()) h (by repeat (first | exact SubF.nil | refine SubF.cons rfl ?_)) (SubM.refl _) (LentAll.refl _ _) ?_
    clear h
    intro k52 a50 b51 h
    unfold graph_search_s3 at h
    refine J.seq ?_
    refine J.region ?_
    refine J.quiet (Y.lss rfl rfl) rfl ?_
    refine J.done ?_
    refine J.thenN ?_
    refine J.seq ?_
    refine J.condD (by exact rfl) (fun hp53 => ?_) (fun hp53 => ?_)
    · replace h := ifP hp53 h
      refine J.skip ?_
      refine J.thenN ?_
      refine J.seq ?_
      refine J.block ?_
      refine J.seq ?_
      refine J.region ?_
      refine J.quiet (Y.move rfl) rfl ?_
      refine J.quiet (Y.assign rfl) rfl ?_
      refine J.done ?_
      refine J.thenN ?_
      refine J.region ?_
      refine J.quiet (Y.move rfl) rfl ?_
      refine J.quiet (Y.move rfl) rfl ?_
      replace h := ck_some h; obtain ⟨hc54, h⟩ := h
      refine J.quiet (Y.indexS rfl rfl (Lent.ar (Lent.res 0 rfl) FI64) rfl rfl hc54) rfl ?_
      refine J.storeS 0 (-1 : Int) hc54 rfl rfl rfl rfl rfl rfl rfl ?_
      refine J.done ?_
      refine J.inN ?_
      refine J.thenN ?_
      refine J.region ?_
      refine J.quiet (Y.addW rfl rfl) rfl ?_
      refine J.quiet (Y.move rfl) rfl ?_
      refine J.done ?_
      refine J.thenN ?_
      exact J.againI ((wI .i64 (a50.1 + (1 : Int))), (List.set a50.2 (Int.toNat a50.1) (-1 : Int))) (()) h (by repeat (first | exact SubF.nil | refine SubF.cons rfl ?_)) (SubM.refl _) (LentAll.refl _ _)
    · replace h := ifN hp53 h
      refine J.exit ?_
      refine J.thenX ?_
      refine J.thenX ?_
      refine J.inX ?_
      refine J.thenN ?_
      exact J.meetI (a50.2) (()) h (by repeat (first | exact SubF.nil | refine SubF.cons rfl ?_)) (SubM.refl _) (LentAll.refl _ _)
  · clear h
    intro a5 b6 h
    unfold graph_search_k1 at h
    refine J.seq ?_
    refine J.region ?_
    refine J.quiet (Y.move rfl) rfl ?_
    refine J.quiet (Y.move rfl) rfl ?_
    replace h := ck_some h; obtain ⟨hc7, h⟩ := h
    refine J.quiet (Y.indexS rfl rfl (Lent.ar (Lent.res 0 rfl) FI64) rfl rfl hc7) rfl ?_
    refine J.storeS 0 (0 : Int) hc7 rfl rfl rfl rfl rfl rfl rfl ?_
    refine J.done ?_
    refine J.thenN ?_
    refine J.seq ?_
    refine J.region ?_
    refine J.quiet (Y.move rfl) rfl ?_
    refine J.loud (Loud.buildS (e := EI64) ([p1]) [(0, Value.int .i64 (p1))] rfl rfl rfl rfl (fill_1_1 (Value.int .i64 (p1)) rfl) rfl rfl rfl) rfl fun u8 => ?_
    refine J.quiet (Y.assign rfl) rfl ?_
    refine J.done ?_
    refine J.thenN ?_
    refine J.seq ?_
    refine J.midI (A := List (Int)) (B := Unit) (fun a10 => graph_search_k2  a10 = some r) (fun a10 b11 => [(5, u3)]) (fun a10 b11 => [Ar EI64 u3 a10]) (fun a10 b11 => [Sl RI64 v0 p0.1, S2 RI64I64p v1 z2 p0.2]) ?_ ?_
    · refine J.block ?_
      refine J.loopI (A := List (Int) × List (Int)) (B := Value) (graph_search_s1 fuel p0) (fun a16 b17 => [(2, Value.pointer (some ⟨b1, 0, none⟩)), (5, u3), (7, b17)]) (fun a16 b17 => [Ar EI64 b17 a16.1, Ar EI64 u3 a16.2, Blk b1 [v0, v1] 29]) (fun a16 b17 => [Sl RI64 v0 p0.1, S2 RI64I64p v1 z2 p0.2]) (([p1]), (List.set a5 (Int.toNat p1) (0 : Int))) (u8) h (by repeat (first | exact SubF.nil | refine SubF.cons rfl ?_)) (SubM.refl _) (LentAll.refl _ _) ?_
      clear h
      intro k18 a16 b17 h
      unfold graph_search_s1 at h
      refine J.seq ?_
      refine J.seq ?_
      refine J.region ?_
      refine J.quiet (Y.move rfl) rfl ?_
      refine J.quiet (Y.lenS rfl (Lent.ar (Lent.res 0 rfl) FI64) rfl) rfl ?_
      refine J.quiet (Y.gtr rfl rfl) rfl ?_
      refine J.done ?_
      refine J.thenN ?_
      refine J.condD (by exact rfl) (fun hp19 => ?_) (fun hp19 => ?_)
      · replace h := ifP hp19 h
        refine J.skip ?_
        refine J.thenN ?_
        refine J.block ?_
        refine J.seq ?_
        refine J.region ?_
        refine J.quiet (Y.move rfl) rfl ?_
        replace h := ck_some h; obtain ⟨hc20, h⟩ := h
        refine J.quiet (Y.indexS rfl rfl (Lent.ar (Lent.res 0 rfl) FI64) rfl rfl hc20) rfl ?_
        refine J.quiet (Y.loadS0 rfl (Lent.ar (Lent.res 0 rfl) FI64) rfl rfl rfl RI64c0 hc20) rfl ?_
        refine J.quiet (Y.assign rfl) rfl ?_
        refine J.done ?_
        refine J.thenN ?_
        refine J.seq ?_
        refine J.region ?_
        refine J.quiet (Y.move rfl) rfl ?_
        replace h := ck_some h; obtain ⟨hc21, h⟩ := h
        refine J.loud (Loud.sliceA 0 hc21 rfl rfl rfl rfl rfl rfl) rfl fun u22 => ?_
        refine J.quiet (Y.assign rfl) rfl ?_
        refine J.done ?_
        refine J.thenN ?_
        refine J.seq ?_
        refine J.region ?_
        refine J.quiet (Y.fieldB rfl rfl rfl rfl rfl) rfl ?_
        refine J.quiet (Y.loadB 2 rfl rfl rfl rfl rfl) rfl ?_
        refine J.quiet (Y.move rfl) rfl ?_
        replace h := ck_some h; obtain ⟨hc23, h⟩ := h
        refine J.quiet (Y.indexN rfl rfl (Lent.fact 1 rfl) rfl rfl hc23) rfl ?_
        refine J.quiet (Y.loadRow rfl (Lent.fact 1 rfl) rfl rfl hc23) rfl ?_
        refine J.quiet (Y.lenS rfl (Lent.el (Lent.fact 1 rfl) hc23.1 hc23.2) rfl) rfl ?_
        refine J.quiet (Y.move rfl) rfl ?_
        refine J.done ?_
        refine J.thenN ?_
        refine J.block ?_
        refine J.loopI (A := Int × List (Int) × List (Int)) (B := Value) (graph_search_s2 p0 a16 (iter (graph_search_s1 fuel p0) k18)) (fun a29 b30 => [(2, Value.pointer (some ⟨b1, 0, none⟩)), (5, u3), (7, b30), (8, Value.int .i64 (at' a16.1 (0 : Int))), (41, (at' z2 (at' a16.1 (0 : Int))).1), (42, Value.int .i64 (List.length (at' p0.2 (at' a16.1 (0 : Int))) : Int)), (43, Value.int .i64 (a29.1))]) (fun a29 b30 => [Ar EI64 b30 a29.2.1, Ar EI64 u3 a29.2.2, Blk b1 [v0, v1] 29]) (fun a29 b30 => [Sl RI64 v0 p0.1, S2 RI64I64p v1 z2 p0.2]) ((0 : Int), (List.drop (Int.toNat (1 : Int)) a16.1), a16.2) (u22) h (by repeat (first | exact SubF.nil | refine SubF.cons rfl ?_)) (SubM.refl _) (LentAll.refl _ _) ?_
        clear h
        intro k31 a29 b30 h
        unfold graph_search_s2 at h
        refine J.seq ?_
        refine J.region ?_
        refine J.quiet (Y.lss rfl rfl) rfl ?_
        refine J.done ?_
        refine J.thenN ?_
        refine J.seq ?_
        refine J.condD (by exact rfl) (fun hp32 => ?_) (fun hp32 => ?_)
        · replace h := ifP hp32 h
          refine J.skip ?_
          refine J.thenN ?_
          refine J.seq ?_
          refine J.midI (A := List (Int) × List (Int)) (B := Value) (fun a36 => graph_search_k3 a29 (iter (graph_search_s2 p0 a16 (iter (graph_search_s1 fuel p0) k18)) k31) a36 = some r) (fun a36 b37 => [(2, Value.pointer (some ⟨b1, 0, none⟩)), (5, u3), (7, b37), (8, Value.int .i64 (at' a16.1 (0 : Int))), (41, (at' z2 (at' a16.1 (0 : Int))).1), (42, Value.int .i64 (List.length (at' p0.2 (at' a16.1 (0 : Int))) : Int)), (43, Value.int .i64 (a29.1))]) (fun a36 b37 => [Ar EI64 b37 a36.1, Ar EI64 u3 a36.2, Blk b1 [v0, v1] 29]) (fun a36 b37 => [Sl RI64 v0 p0.1, S2 RI64I64p v1 z2 p0.2]) ?_ ?_
          · refine J.block ?_
            refine J.seq ?_
            refine J.region ?_
            replace h := ck_some h; obtain ⟨hc38, h⟩ := h
            refine J.quiet (Y.indexS rfl rfl (Lent.el (Lent.fact 1 rfl) hc23.1 hc23.2) rfl rfl hc38) rfl ?_
            refine J.quiet (Y.loadAggS (cs := [Value.int .i64 ((at' (at' p0.2 (at' a16.1 (0 : Int))) a29.1).1), Value.int .i64 ((at' (at' p0.2 (at' a16.1 (0 : Int))) a29.1).2)]) rfl (Lent.el (Lent.fact 1 rfl) hc23.1 hc23.2) FI64I64p rfl rfl rfl rfl hc38) rfl ?_
            refine J.loud (Loud.alloc (cs := [Value.int .i64 (0 : Int), Value.int .i64 (0 : Int)]) rfl rfl) rfl fun b39 => ?_
            refine J.storeAll 0 (vs := [Value.int .i64 ((at' (at' p0.2 (at' a16.1 (0 : Int))) a29.1).1), Value.int .i64 ((at' (at' p0.2 (at' a16.1 (0 : Int))) a29.1).2)]) rfl rfl rfl rfl rfl rfl ?_
            refine J.done ?_
            refine J.thenN ?_
            refine J.seq ?_
            refine J.region ?_
            refine J.quiet (Y.move rfl) rfl ?_
            refine J.quiet (Y.fieldB rfl rfl rfl rfl rfl) rfl ?_
            refine J.quiet (Y.loadB 0 rfl rfl rfl rfl rfl) rfl ?_
            replace h := ck_some h; obtain ⟨hc40, h⟩ := h
            refine J.quiet (Y.indexS rfl rfl (Lent.ar (Lent.res 2 rfl) FI64) rfl rfl hc40) rfl ?_
            refine J.quiet (Y.loadS0 rfl (Lent.ar (Lent.res 2 rfl) FI64) rfl rfl rfl RI64c0 hc40) rfl ?_
            refine J.quiet (Y.lss rfl rfl) rfl ?_
            refine J.done ?_
            refine J.thenN ?_
            refine J.condD (by exact rfl) (fun hp41 => ?_) (fun hp41 => ?_)
            · replace h := ifP hp41 h
              refine J.seq ?_
              refine JR.start [0, 0, 2, 0, 0, 24, 56, 120, 255, 511] 8 mixedOrders (by decide +kernel) ?_
              refine JR.open (by exact rfl) ?_
              refine JR.qt rfl (SubM.nil) (SubL.nil) (Y.move rfl) HistOk.z ?_
              refine JR.qt rfl (SubM.nil) (SubL.nil) (Y.fieldB rfl rfl rfl rfl rfl) HistOk.z ?_
              refine JR.qt rfl (SubM.cons 0 rfl (SubM.nil)) (SubL.nil) (Y.loadB 0 rfl rfl rfl rfl rfl) HistOk.z ?_
              refine JR.qt rfl (SubM.nil) (SubL.nil) (Y.move rfl) HistOk.z ?_
              refine JR.qt rfl (SubM.nil) (SubL.nil) (Y.move rfl) HistOk.z ?_
              replace h := ck_some h; obtain ⟨hc42, h⟩ := h
              refine JR.qt rfl (SubM.cons 2 rfl (SubM.nil)) (SubL.nil) (Y.indexS rfl rfl (Lent.ar (Lent.res 0 rfl) FI64) rfl rfl hc42) HistOk.z ?_
              refine JR.qt rfl (SubM.cons 2 rfl (SubM.nil)) (SubL.nil) (Y.loadS0 rfl (Lent.ar (Lent.res 0 rfl) FI64) rfl rfl rfl RI64c0 hc42) HistOk.z ?_
              refine JR.qt rfl (SubM.nil) (SubL.nil) (Y.addW rfl rfl) HistOk.z ?_
              refine JR.tailD 8 rfl rfl ?_
              replace h := ck_some h; obtain ⟨hc43, h⟩ := h
              refine J.quiet (Y.indexS rfl rfl (Lent.ar (Lent.res 2 rfl) FI64) rfl rfl hc43) rfl ?_
              refine J.storeS 2 (wI .i64 ((at' a29.2.2 (at' a16.1 (0 : Int))) + (1 : Int))) hc43 rfl rfl rfl rfl rfl rfl rfl ?_
              refine J.done ?_
              refine J.thenN ?_
              refine J.region ?_
              refine J.quiet (Y.move rfl) rfl ?_
              refine J.quiet (Y.fieldB rfl rfl rfl rfl rfl) rfl ?_
              refine J.quiet (Y.loadB 0 rfl rfl rfl rfl rfl) rfl ?_
              refine J.loud (Loud.buildS (e := EI64) ([((at' (at' p0.2 (at' a16.1 (0 : Int))) a29.1).1)]) [(0, Value.int .i64 ((at' (at' p0.2 (at' a16.1 (0 : Int))) a29.1).1))] rfl rfl rfl rfl (fill_1_1 (Value.int .i64 ((at' (at' p0.2 (at' a16.1 (0 : Int))) a29.1).1)) rfl) rfl rfl rfl) rfl fun u44 => ?_
              replace h := ck_some h; obtain ⟨hc46, h⟩ := h
              refine J.loud (Loud.appendL 2 FI64 rfl rfl rfl (Lent.ar (Lent.res 0 rfl) FI64) rfl rfl rfl rfl hc46 rfl) rfl fun u45 => ?_
              refine J.quiet (Y.assign rfl) rfl ?_
              refine J.done ?_
              refine J.inN ?_
              refine J.thenN ?_
              exact J.meetI ((a29.2.1 ++ ([ ((at' (at' p0.2 (at' a16.1 (0 : Int))) a29.1).1)])), (List.set a29.2.2 (Int.toNat ((at' (at' p0.2 (at' a16.1 (0 : Int))) a29.1).1)) (wI .i64 ((at' a29.2.2 (at' a16.1 (0 : Int))) + (1 : Int))))) (u45) h (by repeat (first | exact SubF.nil | refine SubF.cons rfl ?_)) (SubM.cons 2 rfl (SubM.cons 2 rfl (SubM.cons 2 rfl (SubM.nil)))) (LentAll.refl _ _)
            · replace h := ifN hp41 h
              refine J.skip ?_
              refine J.inN ?_
              refine J.thenN ?_
              exact J.meetI (a29.2.1, a29.2.2) (b30) h (by repeat (first | exact SubF.nil | refine SubF.cons rfl ?_)) (SubM.cons 1 rfl (SubM.cons 1 rfl (SubM.cons 1 rfl (SubM.nil)))) (LentAll.refl _ _)
          · clear h
            intro a36 b37 h
            unfold graph_search_k3 at h
            refine J.region ?_
            refine J.quiet (Y.addW rfl rfl) rfl ?_
            refine J.quiet (Y.move rfl) rfl ?_
            refine J.done ?_
            refine J.thenN ?_
            exact J.againI ((wI .i64 (a29.1 + (1 : Int))), a36.1, a36.2) (b37) h (by repeat (first | exact SubF.nil | refine SubF.cons rfl ?_)) (SubM.refl _) (LentAll.refl _ _)
        · replace h := ifN hp32 h
          refine J.exit ?_
          refine J.thenX ?_
          refine J.thenX ?_
          refine J.inX ?_
          refine J.inN ?_
          refine J.thenN ?_
          exact J.againI (a29.2.1, a29.2.2) (b30) h (by repeat (first | exact SubF.nil | refine SubF.cons rfl ?_)) (SubM.refl _) (LentAll.refl _ _)
      · replace h := ifN hp19 h
        refine J.exit ?_
        refine J.thenX ?_
        refine J.thenX ?_
        refine J.inX ?_
        refine J.thenN ?_
        exact J.meetI (a16.2) (()) h (by repeat (first | exact SubF.nil | refine SubF.cons rfl ?_)) (SubM.cons 1 rfl (SubM.nil)) (LentAll.refl _ _)
    · clear h
      intro a10 b11 h
      unfold graph_search_k2 at h
      refine J.seq ?_
      refine J.region ?_
      refine J.quiet (Y.move rfl) rfl ?_
      refine J.quiet (Y.assign rfl) rfl ?_
      refine J.done ?_
      refine J.thenN ?_
      refine J.ret ?_
      obtain rfl := Option.some.inj h
      exact J.retG1 (u3) rfl rfl (RV.tmp rfl) (SubM.refl _) LentAll.nil

end Go.Proofs.Ytmajgimhmfeliaa
end
section
set_option linter.unusedVariables false
set_option linter.unusedSimpArgs false
namespace Go.Proofs.Ytmajgimhmfeliaa
open Go.Sx
set_option linter.unusedVariables false
set_option linter.unusedSimpArgs false
def graph_Connected_k1  (a6 : Unit) : Option (Bool) :=
  some (true)
def graph_Connected_s1 (r8 : List (Int)) (a13 : Int) (ag12 : (Int) → Option (Bool)) : Option (Bool) :=
  if a13 < (List.length r8 : Int) then (ck (0 ≤ a13 ∧ a13 < (List.length r8 : Int)) (if (at' r8 a13) < (0 : Int) then (some (false)) else (ag12 (wI .i64 (a13 + (1 : Int)))))) else (graph_Connected_k1  (()))
def m_graph_Connected (fuel : Nat) (p0 : List (Int) × (List (List (Int × Int)))) : Option (Bool) :=
  Option.bind (m_graph_Valid fuel ((p0.1, p0.2))) fun r2 => (if (!r2) = true then (some (false)) else (Option.bind (m_graph_search fuel ((p0.1, p0.2)) (0 : Int)) fun r8 => (iter (graph_Connected_s1 r8) fuel (0 : Int))))

theorem body29 : HasBody Try.prog 29 := Try.call29

set_option maxHeartbeats 4000000 in
set_option maxRecDepth 20000 in
theorem t_graph_Connected (fuel : Nat) {p0 : List (Int) × (List (List (Int × Int)))} (v0 : Value)  (v1 : Value)  (z2 : List (Value × List (Int × Int))) (r : Bool) (h : m_graph_Connected fuel p0 = some r) :
    Meets Try.prog 29 #[Value.agg #[v0, v1]] [Sl RI64 v0 p0.1, S2 RI64I64p v1 z2 p0.2] (fun x : Unit => Value.bool (r)) (fun x l => l) (fun _ l => l) := by
  refine Meets.of (vs := [Value.agg #[v0, v1]]) Try.func29 rfl Try.ntmps29 rfl fun c => ?_
  unfold m_graph_Connected at h
  refine J.seq ?_
  refine J.region ?_
  refine J.loud (Loud.box (cs := [v0, v1]) rfl rfl) rfl fun b1 => ?_
  refine J.quiet (Y.assign rfl) rfl ?_
  refine J.done ?_
  refine J.thenN ?_
  refine J.seq ?_
  refine J.seq ?_
  refine J.region ?_
  refine J.quiet (Y.loadBAll 0 rfl rfl rfl rfl) rfl ?_
  replace h := bnd h; obtain ⟨r2, hr3, h⟩ := h
  refine J.loud (Loud.callL body45 (t_graph_Valid fuel v0 v1 z2 r2 hr3) rfl (LentAll.cons (Lent.fact 0 rfl) (LentAll.cons (Lent.fact 1 rfl) (LentAll.nil))) (fun _ _ => rfl)) rfl fun x4 => ?_
  refine J.quiet (Y.not rfl) rfl ?_
  refine J.done ?_
  refine J.thenN ?_
  refine J.cond (by exact rfl) (fun hp5 => ?_) (fun hp5 => ?_)
  · replace h := ifP hp5 h
    refine J.seq ?_
    refine J.region ?_
    refine J.quiet (Y.assign rfl) rfl ?_
    refine J.done ?_
    refine J.thenN ?_
    refine J.ret ?_
    refine J.thenR ?_
    obtain rfl := Option.some.inj h
    exact J.retG1 (()) rfl rfl (RV.tmp rfl) (SubM.nil) LentAll.nil
  · replace h := ifBN hp5 h
    refine J.skip ?_
    refine J.thenN ?_
    refine J.seq ?_
    refine J.midI (A := Unit) (B := Unit) (fun a6 => graph_Connected_k1  a6 = some r) (fun a6 b7 => []) (fun a6 b7 => []) (fun a6 b7 => [Sl RI64 v0 p0.1, S2 RI64I64p v1 z2 p0.2]) ?_ ?_
    · refine J.seq ?_
      refine J.region ?_
      refine J.quiet (Y.loadBAll 0 rfl rfl rfl rfl) rfl ?_
      replace h := bnd h; obtain ⟨r8, hr9, h⟩ := h
      refine J.loud (Loud.callL body53 (t_graph_search fuel v0 v1 z2 r8 hr9) rfl (LentAll.cons (Lent.fact 0 rfl) (LentAll.cons (Lent.fact 1 rfl) (LentAll.nil))) (fun _ _ => rfl)) rfl fun x10 => ?_
      refine J.quiet (Y.lenS rfl (Lent.ar (Lent.res 0 rfl) FI64) rfl) rfl ?_
      refine J.quiet (Y.move rfl) rfl ?_
      refine J.done ?_
      refine J.thenN ?_
      refine J.block ?_
      refine J.loopI (A := Int) (B := Unit) (graph_Connected_s1 r8) (fun a13 b14 => [(9, x10), (10, Value.int .i64 (List.length r8 : Int)), (11, Value.int .i64 (a13))]) (fun a13 b14 => [Ar EI64 x10 r8]) (fun a13 b14 => [Sl RI64 v0 p0.1, S2 RI64I64p v1 z2 p0.2]) (0 : Int) (()) h (by repeat (first | exact SubF.nil | refine SubF.cons rfl ?_)) (SubM.cons 0 rfl (SubM.nil)) (LentAll.refl _ _) ?_
      clear h
      intro k15 a13 b14 h
      unfold graph_Connected_s1 at h
      refine J.seq ?_
      refine J.region ?_
      refine J.quiet (Y.lss rfl rfl) rfl ?_
      refine J.done ?_
      refine J.thenN ?_
      refine J.seq ?_
      refine J.condD (by exact rfl) (fun hp16 => ?_) (fun hp16 => ?_)
      · replace h := ifP hp16 h
        refine J.skip ?_
        refine J.thenN ?_
        refine J.seq ?_
        refine J.block ?_
        refine J.seq ?_
        refine J.region ?_
        replace h := ck_some h; obtain ⟨hc17, h⟩ := h
        refine J.quiet (Y.indexS rfl rfl (Lent.ar (Lent.res 0 rfl) FI64) rfl rfl hc17) rfl ?_
        refine J.quiet (Y.loadS0 rfl (Lent.ar (Lent.res 0 rfl) FI64) rfl rfl rfl RI64c0 hc17) rfl ?_
        refine J.quiet (Y.assign rfl) rfl ?_
        refine J.done ?_
        refine J.thenN ?_
        refine J.seq ?_
        refine J.region ?_
        refine J.quiet (Y.move rfl) rfl ?_
        refine J.quiet (Y.lss rfl rfl) rfl ?_
        refine J.done ?_
        refine J.thenN ?_
        refine J.condD (by exact rfl) (fun hp18 => ?_) (fun hp18 => ?_)
        · replace h := ifP hp18 h
          refine J.seq ?_
          refine J.region ?_
          refine J.quiet (Y.assign rfl) rfl ?_
          refine J.done ?_
          refine J.thenN ?_
          refine J.ret ?_
          refine J.inR ?_
          refine J.thenR ?_
          refine J.thenR ?_
          refine J.inR ?_
          refine J.thenR ?_
          obtain rfl := Option.some.inj h
          exact J.retG1 (()) rfl rfl (RV.tmp rfl) (SubM.nil) LentAll.nil
        · replace h := ifN hp18 h
          refine J.skip ?_
          refine J.inN ?_
          refine J.thenN ?_
          refine J.region ?_
          refine J.quiet (Y.addW rfl rfl) rfl ?_
          refine J.quiet (Y.move rfl) rfl ?_
          refine J.done ?_
          refine J.thenN ?_
          exact J.againI (wI .i64 (a13 + (1 : Int))) (()) h (by repeat (first | exact SubF.nil | refine SubF.cons rfl ?_)) (SubM.refl _) (LentAll.refl _ _)
      · replace h := ifN hp16 h
        refine J.exit ?_
        refine J.thenX ?_
        refine J.thenX ?_
        refine J.inX ?_
        refine J.thenN ?_
        exact J.meetI (()) (()) h (by repeat (first | exact SubF.nil | refine SubF.cons rfl ?_)) (SubM.nil) (LentAll.refl _ _)
    · clear h
      intro a6 b7 h
      unfold graph_Connected_k1 at h
      refine J.seq ?_
      refine J.region ?_
      refine J.quiet (Y.assign rfl) rfl ?_
      refine J.done ?_
      refine J.thenN ?_
      refine J.ret ?_
      obtain rfl := Option.some.inj h
      exact J.retG1 (()) rfl rfl (RV.tmp rfl) (SubM.refl _) LentAll.nil

end Go.Proofs.Ytmajgimhmfeliaa
end
section
set_option linter.unusedVariables false
set_option linter.unusedSimpArgs false
namespace Go.Proofs.Ytmajgimhmfeliaa
open Go.Sx
set_option linter.unusedVariables false
set_option linter.unusedSimpArgs false
def ref01_In_k1  (a2 : Bool) : Option (Bool) :=
  some (a2)
def m_ref01_In (fuel : Nat) (p0 : Int) (p1 : Int) (p2 : Int) : Option (Bool) :=
  if p1 ≤ p0 then (ref01_In_k1  (decide (p0 ≤ p2))) else (ref01_In_k1  (false))

end Go.Proofs.Ytmajgimhmfeliaa
end
section
set_option linter.unusedVariables false
set_option linter.unusedSimpArgs false
namespace Go.Proofs.Ytmajgimhmfeliaa
open Go.Sx
set_option linter.unusedVariables false
set_option linter.unusedSimpArgs false
def ref01_linksValid_k1  (a1 : Unit) : Option (Bool) :=
  some (true)
def ref01_linksValid_k2 (a5 : Int) (ag4 : (Int) → Option (Bool)) (a9 : Unit) : Option (Bool) :=
  ag4 (wI .i64 (a5 + (1 : Int)))
def ref01_linksValid_s2 (p0 : List (Int × Int)) (a5 : Int) (ag4 : (Int) → Option (Bool)) (a17 : Int) (ag16 : (Int) → Option (Bool)) : Option (Bool) :=
  if a17 < a5 then (ck (0 ≤ a17 ∧ a17 < (List.length p0 : Int)) (ck (0 ≤ a5 ∧ a5 < (List.length p0 : Int)) (if ((at' p0 a17).1) = ((at' p0 a5).1) then (some (false)) else (ag16 (wI .i64 (a17 + (1 : Int))))))) else (ref01_linksValid_k2 a5 ag4 (()))
def ref01_linksValid_k3 (fuel : Nat) (p0 : List (Int × Int)) (a5 : Int) (ag4 : (Int) → Option (Bool)) (a12 : Bool) : Option (Bool) :=
  if a12 = true then (some (false)) else (iter (ref01_linksValid_s2 p0 a5 ag4) fuel (0 : Int))
def ref01_linksValid_s1 (fuel : Nat) (p0 : List (Int × Int)) (p1 : Int) (p2 : Int) (a5 : Int) (ag4 : (Int) → Option (Bool)) : Option (Bool) :=
  if a5 < (List.length p0 : Int) then (ck (0 ≤ a5 ∧ a5 < (List.length p0 : Int)) (Option.bind (m_ref01_In fuel ((at' p0 a5).1) (0 : Int) (wI .i64 (p2 - (1 : Int)))) fun r25 => (if (!r25) = true then (ref01_linksValid_k3 fuel p0 a5 ag4 (true)) else (ck (0 ≤ a5 ∧ a5 < (List.length p0 : Int)) (if ((at' p0 a5).1) = p1 then (ref01_linksValid_k3 fuel p0 a5 ag4 (true)) else (ck (0 ≤ a5 ∧ a5 < (List.length p0 : Int)) (Option.bind (m_ref01_In fuel ((at' p0 a5).2) (1 : Int) (15 : Int)) fun r32 => (ref01_linksValid_k3 fuel p0 a5 ag4 ((!r32)))))))))) else (ref01_linksValid_k1  (()))
def m_ref01_linksValid (fuel : Nat) (p0 : List (Int × Int)) (p1 : Int) (p2 : Int) : Option (Bool) :=
  iter (ref01_linksValid_s1 fuel p0 p1 p2) fuel (0 : Int)

end Go.Proofs.Ytmajgimhmfeliaa
end
section
set_option linter.unusedVariables false
set_option linter.unusedSimpArgs false
namespace Go.Proofs.Ytmajgimhmfeliaa
open Go.Sx
set_option linter.unusedVariables false
set_option linter.unusedSimpArgs false
def ref01_Valid_k3  (a8 : Unit) : Option (Bool) :=
  some (true)
def ref01_Valid_k4 (a12 : Int) (ag11 : (Int) → Option (Bool)) (a16 : Unit) : Option (Bool) :=
  ag11 (wI .i64 (a12 + (1 : Int)))
def ref01_Valid_k5 (a20 : Int) (ag19 : (Int) → Option (Bool)) (a32 : Bool) : Option (Bool) :=
  if a32 = true then (some (false)) else (ag19 (wI .i64 (a20 + (1 : Int))))
def ref01_Valid_s2 (fuel : Nat) (p0 : List (Int) × (List (List (Int × Int)))) (a12 : Int) (ag11 : (Int) → Option (Bool)) (a20 : Int) (ag19 : (Int) → Option (Bool)) : Option (Bool) :=
  ck (0 ≤ a12 ∧ a12 < (List.length p0.2 : Int)) (if a20 < (List.length (at' p0.2 a12) : Int) then (ck (0 ≤ a12 ∧ a12 < (List.length p0.2 : Int)) (ck (0 ≤ a20 ∧ a20 < (List.length (at' p0.2 a12) : Int)) (Option.bind (m_ref01_Port fuel ((p0.1, p0.2)) ((at' (at' p0.2 a12) a20).1) a12) fun r28 => (if r28 < (0 : Int) then (ref01_Valid_k5 a20 ag19 (true)) else (ck (0 ≤ ((at' (at' p0.2 a12) a20).1) ∧ ((at' (at' p0.2 a12) a20).1) < (List.length p0.2 : Int)) (ck (0 ≤ r28 ∧ r28 < (List.length (at' p0.2 ((at' (at' p0.2 a12) a20).1)) : Int)) (ref01_Valid_k5 a20 ag19 (decide (((at' (at' p0.2 ((at' (at' p0.2 a12) a20).1)) r28).2) ≠ ((at' (at' p0.2 a12) a20).2)))))))))) else (ref01_Valid_k4 a12 ag11 (())))
def ref01_Valid_s1 (fuel : Nat) (p0 : List (Int) × (List (List (Int × Int)))) (a12 : Int) (ag11 : (Int) → Option (Bool)) : Option (Bool) :=
  if a12 < (List.length p0.2 : Int) then (iter (ref01_Valid_s2 fuel p0 a12 ag11) fuel (0 : Int)) else (ref01_Valid_k3  (()))
def ref01_Valid_k2 (fuel : Nat) (p0 : List (Int) × (List (List (Int × Int)))) (a6 : Unit) : Option (Bool) :=
  iter (ref01_Valid_s1 fuel p0) fuel (0 : Int)
def ref01_Valid_k6 (a40 : Int) (ag39 : (Int) → Option (Bool)) (a44 : Unit) : Option (Bool) :=
  ag39 (wI .i64 (a40 + (1 : Int)))
def ref01_Valid_s4 (p0 : List (Int) × (List (List (Int × Int)))) (a40 : Int) (ag39 : (Int) → Option (Bool)) (a52 : Int) (ag51 : (Int) → Option (Bool)) : Option (Bool) :=
  if a52 < a40 then (ck (0 ≤ a52 ∧ a52 < (List.length p0.1 : Int)) (ck (0 ≤ a40 ∧ a40 < (List.length p0.1 : Int)) (if (at' p0.1 a52) = (at' p0.1 a40) then (some (false)) else (ag51 (wI .i64 (a52 + (1 : Int))))))) else (ref01_Valid_k6 a40 ag39 (()))
def ref01_Valid_k7 (fuel : Nat) (p0 : List (Int) × (List (List (Int × Int)))) (a40 : Int) (ag39 : (Int) → Option (Bool)) (a47 : Bool) : Option (Bool) :=
  if a47 = true then (some (false)) else (iter (ref01_Valid_s4 p0 a40 ag39) fuel (0 : Int))
def ref01_Valid_s3 (fuel : Nat) (p0 : List (Int) × (List (List (Int × Int)))) (a40 : Int) (ag39 : (Int) → Option (Bool)) : Option (Bool) :=
  if a40 < (List.length p0.2 : Int) then (ck (0 ≤ a40 ∧ a40 < (List.length p0.1 : Int)) (Option.bind (m_ref01_In fuel (at' p0.1 a40) (0 : Int) (255 : Int)) fun r60 => (if (!r60) = true then (ref01_Valid_k7 fuel p0 a40 ag39 (true)) else (ck (0 ≤ a40 ∧ a40 < (List.length p0.2 : Int)) (if (List.length p0.2 : Int) ≤ (List.length (at' p0.2 a40) : Int) then (ref01_Valid_k7 fuel p0 a40 ag39 (true)) else (ck (0 ≤ a40 ∧ a40 < (List.length p0.2 : Int)) (Option.bind (m_ref01_linksValid fuel (at' p0.2 a40) a40 (List.length p0.2 : Int)) fun r67 => (ref01_Valid_k7 fuel p0 a40 ag39 ((!r67)))))))))) else (ref01_Valid_k2 fuel p0 (()))
def ref01_Valid_k1 (fuel : Nat) (p0 : List (Int) × (List (List (Int × Int)))) (a3 : Bool) : Option (Bool) :=
  if a3 = true then (some (false)) else (iter (ref01_Valid_s3 fuel p0) fuel (0 : Int))
def m_ref01_Valid (fuel : Nat) (p0 : List (Int) × (List (List (Int × Int)))) : Option (Bool) :=
  Option.bind (m_ref01_In fuel (List.length p0.2 : Int) (1 : Int) (24 : Int)) fun r70 => (if (!r70) = true then (ref01_Valid_k1 fuel p0 (true)) else (ref01_Valid_k1 fuel p0 (decide ((List.length p0.1 : Int) ≠ (List.length p0.2 : Int)))))

end Go.Proofs.Ytmajgimhmfeliaa
end
section
set_option linter.unusedVariables false
set_option linter.unusedSimpArgs false
namespace Go.Proofs.Ytmajgimhmfeliaa
open Go.Sx
set_option linter.unusedVariables false
set_option linter.unusedSimpArgs false
def graph_Distances_k1 (fuel : Nat) (p0 : List (Int) × (List (List (Int × Int)))) (p1 : Int) (a3 : Bool) : Option (List (Int)) :=
  if a3 = true then (some ([] : List Int)) else (Option.bind (m_graph_search fuel ((p0.1, p0.2)) p1) fun r6 => (some (r6)))
def m_graph_Distances (fuel : Nat) (p0 : List (Int) × (List (List (Int × Int)))) (p1 : Int) : Option (List (Int)) :=
  Option.bind (m_graph_Valid fuel ((p0.1, p0.2))) fun r9 => (if (!r9) = true then (graph_Distances_k1 fuel p0 p1 (true)) else (if p1 < (0 : Int) then (graph_Distances_k1 fuel p0 p1 (true)) else (graph_Distances_k1 fuel p0 p1 (decide ((List.length p0.2 : Int) ≤ p1)))))

theorem body55 : HasBody Try.prog 55 := Try.call55

set_option maxHeartbeats 4000000 in
set_option maxRecDepth 20000 in
theorem t_graph_Distances (fuel : Nat) {p0 : List (Int) × (List (List (Int × Int)))} {p1 : Int} (v0 : Value)  (v1 : Value)  (z2 : List (Value × List (Int × Int))) (r : List (Int)) (h : m_graph_Distances fuel p0 p1 = some r) :
    Meets Try.prog 55 #[Value.agg #[v0, v1], Value.int .i64 (p1)] [Sl RI64 v0 p0.1, S2 RI64I64p v1 z2 p0.2] (fun x : Value => x) (fun x l => Ar EI64 x r :: l) (fun _ l => l) := by
  refine Meets.of (vs := [Value.agg #[v0, v1], Value.int .i64 (p1)]) Try.func55 rfl Try.ntmps55 rfl fun c => ?_
  unfold m_graph_Distances at h
  refine J.seq ?_
  refine J.region ?_
  refine J.loud (Loud.box (cs := [v0, v1]) rfl rfl) rfl fun b1 => ?_
  refine J.quiet (Y.assign rfl) rfl ?_
  refine J.done ?_
  refine J.thenN ?_
  refine J.seq ?_
  refine J.seq ?_
  refine J.midI (A := Bool) (B := Unit) (fun a3 => graph_Distances_k1 fuel p0 p1 a3 = some r) (fun a3 b4 => [(1, Value.int .i64 (p1)), (2, Value.pointer (some ⟨b1, 0, none⟩)), (18, Value.bool (a3))]) (fun a3 b4 => [Blk b1 [v0, v1] 29]) (fun a3 b4 => [Sl RI64 v0 p0.1, S2 RI64I64p v1 z2 p0.2]) ?_ ?_
  · refine J.region ?_
    refine J.quiet (Y.loadBAll 0 rfl rfl rfl rfl) rfl ?_
    replace h := bnd h; obtain ⟨r9, hr10, h⟩ := h
    refine J.loud (Loud.callL body45 (t_graph_Valid fuel v0 v1 z2 r9 hr10) rfl (LentAll.cons (Lent.fact 0 rfl) (LentAll.cons (Lent.fact 1 rfl) (LentAll.nil))) (fun _ _ => rfl)) rfl fun x11 => ?_
    refine J.quiet (Y.not rfl) rfl ?_
    refine J.quiet (Y.move rfl) rfl ?_
    refine J.guard (by exact rfl) (by exact rfl) (fun hp12 => ?_) (fun hp12 => ?_)
    · replace h := ifP hp12 h
      refine J.guardN rfl rfl rfl ?_
      refine J.guardN rfl rfl rfl ?_
      refine J.quiet (Y.pickT rfl rfl) rfl ?_
      refine J.quiet (Y.move rfl) rfl ?_
      refine J.guardN rfl rfl rfl ?_
      refine J.guardN rfl rfl rfl ?_
      refine J.guardN rfl rfl rfl ?_
      refine J.guardN rfl rfl rfl ?_
      refine J.guardN rfl rfl rfl ?_
      refine J.quiet (Y.pickT rfl rfl) rfl ?_
      refine J.done ?_
      refine J.thenN ?_
      exact J.meetI (true) (()) h (by repeat (first | exact SubF.nil | refine SubF.cons rfl ?_)) (SubM.refl _) (LentAll.refl _ _)
    · replace h := ifBN hp12 h
      refine J.guardY rfl (Y.move rfl) rfl ?_
      refine J.guardY rfl (Y.lss rfl rfl) rfl ?_
      refine J.quiet (Y.pickF rfl rfl) rfl ?_
      refine J.quiet (Y.move rfl) rfl ?_
      refine J.guardD (by exact rfl) (by exact rfl) (fun hp13 => ?_) (fun hp13 => ?_)
      · replace h := ifP hp13 h
        refine J.guardN rfl rfl rfl ?_
        refine J.guardN rfl rfl rfl ?_
        refine J.guardN rfl rfl rfl ?_
        refine J.guardN rfl rfl rfl ?_
        refine J.guardN rfl rfl rfl ?_
        refine J.quiet (Y.pickT rfl rfl) rfl ?_
        refine J.done ?_
        refine J.thenN ?_
        exact J.meetI (true) (()) h (by repeat (first | exact SubF.nil | refine SubF.cons rfl ?_)) (SubM.refl _) (LentAll.refl _ _)
      · replace h := ifN hp13 h
        refine J.guardY rfl (Y.move rfl) rfl ?_
        refine J.guardY rfl (Y.fieldB rfl rfl rfl rfl rfl) rfl ?_
        refine J.guardY rfl (Y.loadB 0 rfl rfl rfl rfl rfl) rfl ?_
        refine J.guardY rfl (Y.lenN rfl (Lent.fact 1 rfl) rfl) rfl ?_
        refine J.guardY rfl (Y.geq rfl rfl) rfl ?_
        refine J.quiet (Y.pickF rfl rfl) rfl ?_
        refine J.done ?_
        refine J.thenN ?_
        exact J.meetI (decide ((List.length p0.2 : Int) ≤ p1)) (()) h (by repeat (first | exact SubF.nil | refine SubF.cons rfl ?_)) (SubM.refl _) (LentAll.refl _ _)
  · clear h
    intro a3 b4 h
    unfold graph_Distances_k1 at h
    refine J.cond (by exact rfl) (fun hp5 => ?_) (fun hp5 => ?_)
    · replace h := ifP hp5 h
      refine J.seq ?_
      refine J.region ?_
      refine J.quiet (Y.assign rfl) rfl ?_
      refine J.done ?_
      refine J.thenN ?_
      refine J.ret ?_
      refine J.thenR ?_
      refine J.stp (Stp.nilAr EI64) ?_
      obtain rfl := Option.some.inj h
      exact J.retG1 (Value.slice none 0 0) rfl rfl (RV.tmp rfl) (SubM.cons 0 rfl (SubM.nil)) LentAll.nil
    · replace h := ifBN hp5 h
      refine J.skip ?_
      refine J.thenN ?_
      refine J.seq ?_
      refine J.region ?_
      refine J.quiet (Y.loadBAll 0 rfl rfl rfl rfl) rfl ?_
      refine J.quiet (Y.move rfl) rfl ?_
      replace h := bnd h; obtain ⟨r6, hr7, h⟩ := h
      refine J.loud (Loud.callL body53 (t_graph_search fuel v0 v1 z2 r6 hr7) rfl (LentAll.cons (Lent.fact 0 rfl) (LentAll.cons (Lent.fact 1 rfl) (LentAll.nil))) (fun _ _ => rfl)) rfl fun x8 => ?_
      refine J.quiet (Y.assign rfl) rfl ?_
      refine J.done ?_
      refine J.thenN ?_
      refine J.ret ?_
      obtain rfl := Option.some.inj h
      exact J.retG1 (x8) rfl rfl (RV.tmp rfl) (SubM.cons 0 rfl (SubM.nil)) LentAll.nil

end Go.Proofs.Ytmajgimhmfeliaa
end
section
set_option linter.unusedVariables false
set_option linter.unusedSimpArgs false
namespace Go.Proofs.Ytmajgimhmfeliaa
open Go.Sx
set_option linter.unusedVariables false
set_option linter.unusedSimpArgs false
def graph_PortTo_k1  (a2 : Unit) : Option (Int) :=
  some (-1 : Int)
def graph_PortTo_s1 (p0 : List (Int) × (List (List (Int × Int)))) (p1 : Int) (p2 : Int) (a7 : Int) (ag6 : (Int) → Option (Int)) : Option (Int) :=
  if a7 < (List.length (at' p0.2 p1) : Int) then (ck (0 ≤ a7 ∧ a7 < (List.length (at' p0.2 p1) : Int)) (if ((at' (at' p0.2 p1) a7).1) = p2 then (some (a7)) else (ag6 (wI .i64 (a7 + (1 : Int)))))) else (graph_PortTo_k1  (()))
def m_graph_PortTo (fuel : Nat) (p0 : List (Int) × (List (List (Int × Int)))) (p1 : Int) (p2 : Int) : Option (Int) :=
  ck (0 ≤ p1 ∧ p1 < (List.length p0.2 : Int)) (iter (graph_PortTo_s1 p0 p1 p2) fuel (0 : Int))

theorem body72 : HasBody Try.prog 72 := Try.call72

set_option maxHeartbeats 4000000 in
set_option maxRecDepth 20000 in
theorem t_graph_PortTo (fuel : Nat) {p0 : List (Int) × (List (List (Int × Int)))} {p1 : Int} {p2 : Int} (v0 : Value)  (v1 : Value)  (z2 : List (Value × List (Int × Int))) (r : Int) (h : m_graph_PortTo fuel p0 p1 p2 = some r) :
    Meets Try.prog 72 #[Value.agg #[v0, v1], Value.int .i64 (p1), Value.int .i64 (p2)] [Sl RI64 v0 p0.1, S2 RI64I64p v1 z2 p0.2] (fun x : Unit => Value.int .i64 (r)) (fun x l => l) (fun _ l => l) := by
  refine Meets.of (vs := [Value.agg #[v0, v1], Value.int .i64 (p1), Value.int .i64 (p2)]) Try.func72 rfl Try.ntmps72 rfl fun c => ?_
  unfold m_graph_PortTo at h
  refine J.seq ?_
  refine J.region ?_
  refine J.loud (Loud.box (cs := [v0, v1]) rfl rfl) rfl fun b1 => ?_
  refine J.quiet (Y.assign rfl) rfl ?_
  refine J.done ?_
  refine J.thenN ?_
  refine J.seq ?_
  refine J.midI (A := Unit) (B := Unit) (fun a2 => graph_PortTo_k1  a2 = some r) (fun a2 b3 => []) (fun a2 b3 => []) (fun a2 b3 => [Sl RI64 v0 p0.1, S2 RI64I64p v1 z2 p0.2]) ?_ ?_
  · refine J.seq ?_
    refine J.region ?_
    refine J.quiet (Y.fieldB rfl rfl rfl rfl rfl) rfl ?_
    refine J.quiet (Y.loadB 0 rfl rfl rfl rfl rfl) rfl ?_
    refine J.quiet (Y.move rfl) rfl ?_
    replace h := ck_some h; obtain ⟨hc4, h⟩ := h
    refine J.quiet (Y.indexN rfl rfl (Lent.fact 1 rfl) rfl rfl hc4) rfl ?_
    refine J.quiet (Y.loadRow rfl (Lent.fact 1 rfl) rfl rfl hc4) rfl ?_
    refine J.quiet (Y.lenS rfl (Lent.el (Lent.fact 1 rfl) hc4.1 hc4.2) rfl) rfl ?_
    refine J.quiet (Y.move rfl) rfl ?_
    refine J.done ?_
    refine J.thenN ?_
    refine J.block ?_
    refine J.loopI (A := Int) (B := Unit) (graph_PortTo_s1 p0 p1 p2) (fun a7 b8 => [(2, Value.int .i64 (p2)), (13, (at' z2 p1).1), (14, Value.int .i64 (List.length (at' p0.2 p1) : Int)), (15, Value.int .i64 (a7))]) (fun a7 b8 => []) (fun a7 b8 => [Sl RI64 v0 p0.1, S2 RI64I64p v1 z2 p0.2]) (0 : Int) (()) h (by repeat (first | exact SubF.nil | refine SubF.cons rfl ?_)) (SubM.nil) (LentAll.refl _ _) ?_
    clear h
    intro k9 a7 b8 h
    unfold graph_PortTo_s1 at h
    refine J.seq ?_
    refine J.region ?_
    refine J.quiet (Y.lss rfl rfl) rfl ?_
    refine J.done ?_
    refine J.thenN ?_
    refine J.seq ?_
    refine J.condD (by exact rfl) (fun hp10 => ?_) (fun hp10 => ?_)
    · replace h := ifP hp10 h
      refine J.skip ?_
      refine J.thenN ?_
      refine J.seq ?_
      refine J.block ?_
      refine J.seq ?_
      refine J.region ?_
      refine J.quiet (Y.move rfl) rfl ?_
      replace h := ck_some h; obtain ⟨hc11, h⟩ := h
      refine J.quiet (Y.indexS rfl rfl (Lent.el (Lent.fact 1 rfl) hc4.1 hc4.2) rfl rfl hc11) rfl ?_
      refine J.quiet (Y.loadAggS (cs := [Value.int .i64 ((at' (at' p0.2 p1) a7).1), Value.int .i64 ((at' (at' p0.2 p1) a7).2)]) rfl (Lent.el (Lent.fact 1 rfl) hc4.1 hc4.2) FI64I64p rfl rfl rfl rfl hc11) rfl ?_
      refine J.loud (Loud.alloc (cs := [Value.int .i64 (0 : Int), Value.int .i64 (0 : Int)]) rfl rfl) rfl fun b12 => ?_
      refine J.quiet (Y.assign rfl) rfl ?_
      refine J.storeAll 0 (vs := [Value.int .i64 ((at' (at' p0.2 p1) a7).1), Value.int .i64 ((at' (at' p0.2 p1) a7).2)]) rfl rfl rfl rfl rfl rfl ?_
      refine J.done ?_
      refine J.thenN ?_
      refine J.seq ?_
      refine J.region ?_
      refine J.quiet (Y.fieldB rfl rfl rfl rfl rfl) rfl ?_
      refine J.quiet (Y.loadB 0 rfl rfl rfl rfl rfl) rfl ?_
      refine J.quiet (Y.move rfl) rfl ?_
      refine J.quiet (Y.eql rfl rfl) rfl ?_
      refine J.done ?_
      refine J.thenN ?_
      refine J.condD (by exact rfl) (fun hp13 => ?_) (fun hp13 => ?_)
      · replace h := ifP hp13 h
        refine J.seq ?_
        refine J.region ?_
        refine J.quiet (Y.move rfl) rfl ?_
        refine J.quiet (Y.assign rfl) rfl ?_
        refine J.done ?_
        refine J.thenN ?_
        refine J.ret ?_
        refine J.inR ?_
        refine J.thenR ?_
        refine J.thenR ?_
        refine J.inR ?_
        refine J.thenR ?_
        obtain rfl := Option.some.inj h
        exact J.retG1 (()) rfl rfl (RV.tmp rfl) (SubM.nil) LentAll.nil
      · replace h := ifN hp13 h
        refine J.skip ?_
        refine J.inN ?_
        refine J.thenN ?_
        refine J.region ?_
        refine J.quiet (Y.addW rfl rfl) rfl ?_
        refine J.quiet (Y.move rfl) rfl ?_
        refine J.done ?_
        refine J.thenN ?_
        exact J.againI (wI .i64 (a7 + (1 : Int))) (()) h (by repeat (first | exact SubF.nil | refine SubF.cons rfl ?_)) (SubM.nil) (LentAll.refl _ _)
    · replace h := ifN hp10 h
      refine J.exit ?_
      refine J.thenX ?_
      refine J.thenX ?_
      refine J.inX ?_
      refine J.thenN ?_
      exact J.meetI (()) (()) h (by repeat (first | exact SubF.nil | refine SubF.cons rfl ?_)) (SubM.refl _) (LentAll.refl _ _)
  · clear h
    intro a2 b3 h
    unfold graph_PortTo_k1 at h
    refine J.seq ?_
    refine J.region ?_
    refine J.quiet (Y.assign rfl) rfl ?_
    refine J.done ?_
    refine J.thenN ?_
    refine J.ret ?_
    obtain rfl := Option.some.inj h
    exact J.retG1 (()) rfl rfl (RV.tmp rfl) (SubM.refl _) LentAll.nil

end Go.Proofs.Ytmajgimhmfeliaa
end
section
set_option linter.unusedVariables false
set_option linter.unusedSimpArgs false
namespace Go.Sx
theorem iter_eq {X R : Type} {step : X → (X → Option R) → Option R} {r : R} (I : X → Prop) (μ : X → Nat)
    (h : ∀ x ag, I x → (∀ x', I x' → μ x' < μ x → ag x' = some r) → step x ag = some r) : ∀ (fuel : Nat) (x : X), I x → μ x < fuel → iter step fuel x = some r := by
  intro fuel
  induction fuel with
  | zero => intro x _ hx; omega
  | succ k ih =>
    intro x hI hx
    exact h x _ hI fun x' hI' hlt => ih x' hI' (by omega)

/-- the result has a property -/
def OK {R : Type} (Q : R → Prop) (o : Option R) : Prop := ∃ r, o = some r ∧ Q r

theorem iter_ok {X R : Type} {step : X → (X → Option R) → Option R} {Q : R → Prop} (I : X → Prop) (μ : X → Nat)
    (h : ∀ x ag, I x → (∀ x', I x' → μ x' < μ x → OK Q (ag x')) → OK Q (step x ag)) : ∀ (fuel : Nat) (x : X), I x → μ x < fuel → OK Q (iter step fuel x) := by
  intro fuel
  induction fuel with
  | zero => intro x _ hx; omega
  | succ k ih =>
    intro x hI hx
    exact h x _ hI fun x' hI' hlt => ih x' hI' (by omega)

theorem ckT {β : Type} {p : Prop} [Decidable p] (hp : p) (x : Option β) : ck p x = x := if_pos hp

theorem wr {x : Int} (h1 : -9223372036854775808 ≤ x) (h2 : x ≤ 9223372036854775807) : wI .i64 x = x := if_pos ⟨h1, h2⟩

theorem bindS {β γ : Type} {x : Option β} {y : β} {f : β → Option γ} (h : x = some y) : x.bind f = f y := by rw [h]; rfl

theorem at_append {α : Type} [Inhabited α] (l r : List α) (x : α) (i : Nat) (h : l.length = i) : at' (l ++ x :: r) (i : Int) = x := by
  rw [at'_nat, List.getD_eq_getElem?_getD, List.getElem?_append_right (by omega)]; simp [← h]
end Go.Sx
end
section
set_option linter.unusedVariables false
set_option linter.unusedSimpArgs false
section
namespace Go.Proofs.Ytmajgimhmfeliaa
open Go.Sx
/-- a loop that goes through 0 .. N - 1 and stops with 'bad' at the first number without a property -/
theorem iter_if {R : Type} {step : Int → (Int → Option R) → Option R} {K : Option R} {bad : R} (N : Nat) (p : Nat → Prop)
    (hok : ∀ (k : Nat) ag, k < N → p k → step k ag = ag ((k : Int) + 1)) (hbad : ∀ (k : Nat) ag, k < N → ¬ p k → step k ag = some bad) (hend : ∀ ag, step N ag = K) :
    ∀ (fuel : Nat), N < fuel → ((∀ k, k < N → p k) → iter step fuel 0 = K) ∧ (¬ (∀ k, k < N → p k) → iter step fuel 0 = some bad) := by
  intro fuel hf
  have key : ∀ (d a fuel : Nat), a + d = N → d < fuel → ((∀ k, a ≤ k → k < N → p k) → iter step fuel (a : Int) = K) ∧ (¬ (∀ k, a ≤ k → k < N → p k) → iter step fuel (a : Int) = some bad) := by
    intro d
    induction d with
    | zero =>
      intro a fuel ha hf
      obtain rfl : a = N := by omega
      cases fuel with
      | zero => omega
      | succ f => exact ⟨fun _ => hend _, fun h => absurd (fun k h1 h2 => by omega) h⟩
    | succ d ih =>
      intro a fuel ha hf
      cases fuel with
      | zero => omega
      | succ f =>
        obtain ⟨i1, i2⟩ := ih (a + 1) f (by omega) (by omega)
        have e : ((a + 1 : Nat) : Int) = (a : Int) + 1 := by omega
        rw [e] at i1 i2
        by_cases hp : p a
        · have hs : iter step (f + 1) (a : Int) = iter step f ((a : Int) + 1) := hok a _ (by omega) hp
          rw [hs]
          refine ⟨fun h => i1 fun k h1 h2 => h k (by omega) h2, fun h => i2 fun h' => h fun k h1 h2 => ?_⟩
          by_cases hk : k = a
          · subst hk; exact hp
          · exact h' k (by omega) h2
        · exact ⟨fun h => absurd (h a (Nat.le_refl _) (by omega)) hp, fun _ => hbad a _ (by omega) hp⟩
  obtain ⟨h1, h2⟩ := key N 0 fuel (by omega) hf
  exact ⟨fun h => h1 fun k _ hk => h k hk, fun h => h2 fun h' => h fun k hk => h' k (by omega) hk⟩

abbrev GR := List Int × List (List (Int × Int))

theorem refIn_eq (fuel : Nat) (v lo hi : Int) : m_ref01_In fuel v lo hi = some (decide (lo ≤ v ∧ v ≤ hi)) := by
  unfold m_ref01_In ref01_In_k1
  by_cases h : lo ≤ v
  · rw [if_pos h]; congr 1; exact decide_eq_decide.2 ⟨fun h2 => ⟨h, h2⟩, fun h2 => h2.2⟩
  · rw [if_neg h, decide_eq_false (fun h2 => h h2.1)]

/-- the links of a node, its degree, its identifier -/
abbrev row (g : GR) (v : Nat) : List (Int × Int) := at' g.2 (v : Int)
abbrev idOf (g : GR) (v : Nat) : Int := at' g.1 (v : Int)
abbrev lnk (l : List (Int × Int)) (i : Nat) : Int × Int := at' l (i : Int)

def light (g : GR) : Prop := g.1.length ≤ 30 ∧ g.2.length ≤ 30 ∧ ∀ v, v < g.2.length → (row g v).length ≤ 30

/-- link i of the list is possible at node v of n -/
def LinkOk (l : List (Int × Int)) (v n i : Nat) : Prop := (0 ≤ (lnk l i).1 ∧ (lnk l i).1 ≤ (n : Int) - 1) ∧ (lnk l i).1 ≠ v ∧ (1 ≤ (lnk l i).2 ∧ (lnk l i).2 ≤ 15) ∧ ∀ k, k < i → (lnk l k).1 ≠ (lnk l i).1

def LinksOk (l : List (Int × Int)) (v n : Nat) : Prop := ∀ i, i < l.length → LinkOk l v n i

theorem linksValid_eq (l : List (Int × Int)) (v n : Nat) (hl : l.length ≤ 30) (hn : n ≤ 30) : (LinksOk l v n → m_ref01_linksValid 2000 l v n = some true) ∧ (¬ LinksOk l v n → m_ref01_linksValid 2000 l v n = some false) := by
  unfold m_ref01_linksValid
  have inner : ∀ (i : Nat) (ag : Int → Option Bool), i < l.length → ((∀ k, k < i → (lnk l k).1 ≠ (lnk l i).1) → iter (ref01_linksValid_s2 l i ag) 2000 0 = ag ((i : Int) + 1)) ∧ (¬ (∀ k, k < i → (lnk l k).1 ≠ (lnk l i).1) → iter (ref01_linksValid_s2 l i ag) 2000 0 = some false) := by
    intro i ag hi
    refine iter_if i _ (fun k ag2 hk hp => ?_) (fun k ag2 hk hp => ?_) (fun ag2 => ?_) 2000 (by omega)
    · unfold ref01_linksValid_s2
      rw [if_pos (by omega), ckT (by omega), ckT (by omega), if_neg hp, wr (by omega) (by omega)]
    · unfold ref01_linksValid_s2
      rw [if_pos (by omega), ckT (by omega), ckT (by omega), if_pos (Decidable.not_not.1 hp)]
    · unfold ref01_linksValid_s2 ref01_linksValid_k2
      rw [if_neg (by omega), wr (by omega) (by omega)]
  refine iter_if l.length (LinkOk l v n) (fun i ag hi hp => ?_) (fun i ag hi hp => ?_) (fun ag => ?_) 2000 (by omega)
  · obtain ⟨h1, h2, h3, h4⟩ := hp
    unfold ref01_linksValid_s1 ref01_linksValid_k3
    rw [if_pos (by omega), ckT (by omega), wr (x := (n : Int) - 1) (by omega) (by omega), refIn_eq, decide_eq_true h1, bindS rfl, if_neg (by simp), ckT (by omega), if_neg h2, ckT (by omega), refIn_eq, decide_eq_true h3, bindS rfl, if_neg (by simp)]
    exact (inner i ag hi).1 h4
  · unfold ref01_linksValid_s1 ref01_linksValid_k3
    rw [if_pos (by omega), ckT (by omega), wr (x := (n : Int) - 1) (by omega) (by omega), refIn_eq]
    by_cases h1 : 0 ≤ (lnk l i).1 ∧ (lnk l i).1 ≤ (n : Int) - 1
    · rw [decide_eq_true h1, bindS rfl, if_neg (by simp), ckT (by omega)]
      by_cases h2 : (lnk l i).1 = v
      · rw [if_pos h2]; rfl
      · rw [if_neg h2, ckT (by omega), refIn_eq]
        by_cases h3 : 1 ≤ (lnk l i).2 ∧ (lnk l i).2 ≤ 15
        · rw [decide_eq_true h3, bindS rfl, if_neg (by simp)]
          exact (inner i ag hi).2 fun h4 => hp ⟨h1, h2, h3, h4⟩
        · rw [decide_eq_false h3]; rfl
    · rw [decide_eq_false h1]; rfl
  · unfold ref01_linksValid_s1 ref01_linksValid_k1
    rw [if_neg (by omega)]

/-- the first port of a list that leads to u -/
def portOf (l : List (Int × Int)) (u : Int) : Int := match l.findIdx? (fun x => decide (x.1 = u)) with
  | some i => i
  | none => -1

theorem portOf_some {l : List (Int × Int)} {u : Int} (i : Nat) (hi : i < l.length) (hu : (lnk l i).1 = u) (hf : ∀ k, k < i → (lnk l k).1 ≠ u) : portOf l u = i := by
  have : l.findIdx? (fun x => decide (x.1 = u)) = some i := by
    rw [List.findIdx?_eq_some_iff_getElem]
    have e : ∀ k (hk : k < l.length), lnk l k = l[k] := fun k hk => by rw [lnk, at'_nat, List.getD_eq_getElem?_getD, List.getElem?_eq_getElem hk]; rfl
    refine ⟨hi, by rw [← e i hi]; simpa using hu, fun k hk => ?_⟩
    have := hf k hk
    rw [e k (by omega)] at this
    simpa using this
  rw [portOf, this]
theorem portOf_none {l : List (Int × Int)} {u : Int} (hf : ∀ k, k < l.length → (lnk l k).1 ≠ u) : portOf l u = -1 := by
  have : l.findIdx? (fun x => decide (x.1 = u)) = none := by
    rw [List.findIdx?_eq_none_iff]
    intro x hx
    obtain ⟨k, hk, rfl⟩ := List.getElem_of_mem hx
    have := hf k hk
    rw [lnk, at'_nat, List.getD_eq_getElem?_getD, List.getElem?_eq_getElem hk] at this
    simpa using this
  rw [portOf, this]

/-- the port, or -1 and none -/
theorem portOf_cases (l : List (Int × Int)) (u : Int) : (∃ i, i < l.length ∧ (lnk l i).1 = u ∧ (∀ k, k < i → (lnk l k).1 ≠ u) ∧ portOf l u = i) ∨ ((∀ k, k < l.length → (lnk l k).1 ≠ u) ∧ portOf l u = -1) := by
  by_cases h : ∀ k, k < l.length → (lnk l k).1 ≠ u
  · exact .inr ⟨h, portOf_none h⟩
  · left
    have hex : ∃ k, k < l.length ∧ (lnk l k).1 = u := by
      apply Classical.byContradiction
      intro hc
      exact h fun k hk he => hc ⟨k, hk, he⟩
    obtain ⟨k, hk, hku⟩ := hex
    have : ∀ m, (∃ k, k ≤ m ∧ k < l.length ∧ (lnk l k).1 = u) → ∃ i, i < l.length ∧ (lnk l i).1 = u ∧ ∀ k, k < i → (lnk l k).1 ≠ u := by
      intro m
      induction m with
      | zero => rintro ⟨k, h1, h2, h3⟩; exact ⟨k, h2, h3, fun j hj => by omega⟩
      | succ m ih =>
        rintro ⟨k, h1, h2, h3⟩
        by_cases hlt : ∃ j, j ≤ m ∧ j < l.length ∧ (lnk l j).1 = u
        · exact ih hlt
        · exact ⟨k, h2, h3, fun j hj he => hlt ⟨j, by omega, by omega, he⟩⟩
    obtain ⟨i, h1, h2, h3⟩ := this k ⟨k, Nat.le_refl _, hk, hku⟩
    exact ⟨i, h1, h2, h3, portOf_some i h1 h2 h3⟩

theorem refPort_eq (g : GR) (v : Nat) (u : Int) (hv : v < g.2.length) (hl : (row g v).length ≤ 30) : m_ref01_Port 2000 g v u = some (portOf (row g v) u) := by
  unfold m_ref01_Port
  rcases portOf_cases (row g v) u with ⟨i, hi, hu, hf, he⟩ | ⟨hf, he⟩
  · rw [he]
    refine iter_eq (fun x : Int => ∃ k : Nat, x = k ∧ k ≤ i) (fun x => 31 - x.toNat) ?_ 2000 _ ⟨0, rfl, by omega⟩ (by omega)
    rintro x ag ⟨k, rfl, hk⟩ hag
    unfold ref01_Port_s1
    rw [ckT (by omega), if_pos (show (k : Int) < ((row g v).length : Int) by omega), ckT (by omega), ckT (show 0 ≤ (k : Int) ∧ (k : Int) < ((row g v).length : Int) by omega)]
    by_cases e : k = i
    · subst e; exact if_pos hu
    · rw [if_neg (hf k (by omega)), wr (by omega) (by omega)]
      exact hag _ ⟨k + 1, by omega, by omega⟩ (by omega)
  · rw [he]
    refine iter_eq (fun x : Int => ∃ k : Nat, x = k ∧ k ≤ (row g v).length) (fun x => 31 - x.toNat) ?_ 2000 _ ⟨0, rfl, by omega⟩ (by omega)
    rintro x ag ⟨k, rfl, hk⟩ hag
    unfold ref01_Port_s1
    rw [ckT (by omega)]
    by_cases e : k < (row g v).length
    · rw [if_pos (show (k : Int) < ((row g v).length : Int) by omega), ckT (by omega), ckT (show 0 ≤ (k : Int) ∧ (k : Int) < ((row g v).length : Int) by omega), if_neg (hf k e), wr (by omega) (by omega)]
      exact hag _ ⟨k + 1, by omega, by omega⟩ (by omega)
    · rw [if_neg (show ¬ (k : Int) < ((row g v).length : Int) by omega)]; rfl
end Go.Proofs.Ytmajgimhmfeliaa
end
section
namespace Go.Proofs.Ytmajgimhmfeliaa
open Go.Sx
/-- a loop with a state that stops with 'bad' at the first number without a property -/
theorem iter_ifS {X R : Type} {step : X → (X → Option R) → Option R} {K : X → Option R} {bad : R} (N : Nat) (p : Nat → Prop) (I : Nat → X → Prop)
    (hok : ∀ (k : Nat) x ag, k < N → I k x → p k → ∃ x', I (k + 1) x' ∧ step x ag = ag x') (hbad : ∀ (k : Nat) x ag, k < N → I k x → ¬ p k → step x ag = some bad) (hend : ∀ x ag, I N x → step x ag = K x) :
    ∀ (fuel : Nat) (x : X), I 0 x → N < fuel → ((∀ k, k < N → p k) → ∃ x', I N x' ∧ iter step fuel x = K x') ∧ (¬ (∀ k, k < N → p k) → iter step fuel x = some bad) := by
  intro fuel x hI hf
  have key : ∀ (d a fuel : Nat) (x : X), a + d = N → d < fuel → I a x → ((∀ k, a ≤ k → k < N → p k) → ∃ x', I N x' ∧ iter step fuel x = K x') ∧ (¬ (∀ k, a ≤ k → k < N → p k) → iter step fuel x = some bad) := by
    intro d
    induction d with
    | zero =>
      intro a fuel x ha hf hI
      obtain rfl : a = N := by omega
      cases fuel with
      | zero => omega
      | succ f => exact ⟨fun _ => ⟨x, hI, hend _ _ hI⟩, fun h => absurd (fun k h1 h2 => by omega) h⟩
    | succ d ih =>
      intro a fuel x ha hf hI
      cases fuel with
      | zero => omega
      | succ f =>
        by_cases hp : p a
        · obtain ⟨x', hI', hs⟩ := hok a x (iter step f) (by omega) hI hp
          have hs : iter step (f + 1) x = iter step f x' := hs
          obtain ⟨i1, i2⟩ := ih (a + 1) f x' (by omega) (by omega) hI'
          rw [hs]
          refine ⟨fun h => i1 fun k h1 h2 => h k (by omega) h2, fun h => i2 fun h' => h fun k h1 h2 => ?_⟩
          by_cases hk : k = a
          · subst hk; exact hp
          · exact h' k (by omega) h2
        · exact ⟨fun h => absurd (h a (Nat.le_refl _) (by omega)) hp, fun _ => hbad a x _ (by omega) hI hp⟩
  obtain ⟨h1, h2⟩ := key N 0 fuel x (by omega) hf hI
  exact ⟨fun h => h1 fun k _ hk => h k hk, fun h => h2 fun h' => h fun k hk => h' k (by omega) hk⟩

/-- port i of node v has its link back, with the same weight -/
def SymAt (g : GR) (v i : Nat) : Prop := ∃ j, j < (at' g.2 (lnk (row g v) i).1).length ∧ (lnk (at' g.2 (lnk (row g v) i).1) j).1 = v ∧ (lnk (at' g.2 (lnk (row g v) i).1) j).2 = (lnk (row g v) i).2

structure NodeOk (g : GR) (v : Nat) : Prop where
  id : 0 ≤ idOf g v ∧ idOf g v ≤ 255
  deg : (row g v).length < g.2.length
  links : LinksOk (row g v) v g.2.length
  ids : ∀ k, k < v → idOf g k ≠ idOf g v

structure VG (g : GR) : Prop where
  n1 : 1 ≤ g.2.length
  n24 : g.2.length ≤ 24
  len : g.1.length = g.2.length
  node : ∀ v, v < g.2.length → NodeOk g v
  sym : ∀ v, v < g.2.length → ∀ i, i < (row g v).length → SymAt g v i

theorem refValid_eq (g : GR) (hl : light g) : (VG g → m_ref01_Valid 2000 g = some true) ∧ (¬ VG g → m_ref01_Valid 2000 g = some false) := by
  obtain ⟨l1, l2, l3⟩ := hl
  unfold m_ref01_Valid
  rw [refIn_eq, bindS rfl]
  by_cases h1 : 1 ≤ g.2.length ∧ g.2.length ≤ 24
  rotate_left
  · rw [decide_eq_false (by omega)]
    exact ⟨fun h => absurd ⟨h.n1, h.n24⟩ h1, fun _ => rfl⟩
  rw [decide_eq_true (by omega), if_neg (by simp)]
  by_cases h2 : g.1.length = g.2.length
  rotate_left
  · rw [decide_eq_true (by omega)]
    exact ⟨fun h => absurd h.len h2, fun _ => rfl⟩
  rw [decide_eq_false (by omega)]
  unfold ref01_Valid_k1
  rw [if_neg (by simp)]
  have hids : ∀ (v : Nat) (ag : Int → Option Bool), v < g.2.length → ((∀ k, k < v → idOf g k ≠ idOf g v) → iter (ref01_Valid_s4 g v ag) 2000 0 = ag ((v : Int) + 1)) ∧ (¬ (∀ k, k < v → idOf g k ≠ idOf g v) → iter (ref01_Valid_s4 g v ag) 2000 0 = some false) := by
    intro v ag hv
    refine iter_if v _ (fun k ag2 hk hp => ?_) (fun k ag2 hk hp => ?_) (fun ag2 => ?_) 2000 (by omega)
    · unfold ref01_Valid_s4
      rw [if_pos (by omega), ckT (by omega), ckT (by omega), if_neg hp, wr (by omega) (by omega)]
    · unfold ref01_Valid_s4
      rw [if_pos (by omega), ckT (by omega), ckT (by omega), if_pos (Decidable.not_not.1 hp)]
    · unfold ref01_Valid_s4 ref01_Valid_k6
      rw [if_neg (by omega), wr (by omega) (by omega)]
  have outer := iter_if (step := ref01_Valid_s3 2000 g) (K := ref01_Valid_k2 2000 g ()) (bad := false) g.2.length (NodeOk g) (fun v ag hv hp => ?_) (fun v ag hv hp => ?_) (fun ag => ?_) 2000 (by omega)
  rotate_left
  · unfold ref01_Valid_s3 ref01_Valid_k7
    rw [if_pos (by omega), ckT (by omega), refIn_eq, decide_eq_true hp.id, bindS rfl, if_neg (by simp), ckT (by omega), if_neg (show ¬ ((g.2.length : Int) ≤ ((row g v).length : Int)) from by have := hp.deg; omega), ckT (by omega), (linksValid_eq (row g v) v g.2.length (l3 v hv) l2).1 hp.links, bindS rfl, if_neg (by simp)]
    exact (hids v ag hv).1 hp.ids
  · unfold ref01_Valid_s3 ref01_Valid_k7
    rw [if_pos (by omega), ckT (by omega), refIn_eq]
    by_cases a1 : 0 ≤ idOf g v ∧ idOf g v ≤ 255
    rotate_left
    · rw [decide_eq_false a1]; rfl
    rw [decide_eq_true a1, bindS rfl, if_neg (by simp), ckT (by omega)]
    by_cases a2 : (row g v).length < g.2.length
    rotate_left
    · rw [if_pos (show (g.2.length : Int) ≤ ((row g v).length : Int) by omega)]; rfl
    rw [if_neg (show ¬ (g.2.length : Int) ≤ ((row g v).length : Int) by omega), ckT (by omega)]
    by_cases a3 : LinksOk (row g v) v g.2.length
    rotate_left
    · rw [(linksValid_eq (row g v) v g.2.length (l3 v hv) l2).2 a3]; rfl
    rw [(linksValid_eq (row g v) v g.2.length (l3 v hv) l2).1 a3, bindS rfl, if_neg (by simp)]
    exact (hids v ag hv).2 fun a4 => hp ⟨a1, a2, a3, a4⟩
  · unfold ref01_Valid_s3
    rw [if_neg (by omega)]
  by_cases hn : ∀ v, v < g.2.length → NodeOk g v
  rotate_left
  · exact ⟨fun h => absurd h.node hn, fun _ => outer.2 hn⟩
  rw [outer.1 hn]
  unfold ref01_Valid_k2
  have inner : ∀ (v : Nat) (ag : Int → Option Bool), v < g.2.length → ((∀ i, i < (row g v).length → SymAt g v i) → iter (ref01_Valid_s2 2000 g v ag) 2000 0 = ag ((v : Int) + 1)) ∧ (¬ (∀ i, i < (row g v).length → SymAt g v i) → iter (ref01_Valid_s2 2000 g v ag) 2000 0 = some false) := by
    intro v ag hv
    have hv3 := l3 v hv
    have body : ∀ (i : Nat) ag2, i < (row g v).length → (SymAt g v i → ref01_Valid_s2 2000 g v ag i ag2 = ag2 ((i : Int) + 1)) ∧ (¬ SymAt g v i → ref01_Valid_s2 2000 g v ag i ag2 = some false) := by
      intro i ag2 hi
      unfold ref01_Valid_s2
      rw [ckT (by omega), if_pos (show (i : Int) < ((row g v).length : Int) by omega), ckT (by omega), ckT (show 0 ≤ (i : Int) ∧ (i : Int) < ((row g v).length : Int) by omega)]
      have hu := ((hn v hv).links i hi).1
      obtain ⟨u, hu'⟩ : ∃ u : Nat, (lnk (row g v) i).1 = u := ⟨(lnk (row g v) i).1.toNat, by omega⟩
      have hun : u < g.2.length := by omega
      unfold SymAt
      rw [show (at' (at' g.2 (v : Int)) (i : Int)) = lnk (row g v) i from rfl, hu', refPort_eq g u v hun (l3 u hun), bindS rfl]
      have hlk := (hn u hun).links
      rcases portOf_cases (row g u) v with ⟨j, hj, hjv, hjf, he⟩ | ⟨hf, he⟩
      · rw [he, if_neg (by omega), ckT (by omega), ckT (show 0 ≤ (j : Int) ∧ (j : Int) < ((at' g.2 (u : Int)).length : Int) from ⟨by omega, by have : j < (row g u).length := hj; exact_mod_cast this⟩)]
        unfold ref01_Valid_k5
        constructor
        · rintro ⟨k, hk, hkv, hkw⟩
          have hkj : k = j := by
            rcases Nat.lt_trichotomy k j with h | h | h
            · exact absurd hkv (hjf k h)
            · exact h
            · exact absurd (hjv.trans hkv.symm) ((hlk k hk).2.2.2 j h)
          subst hkj
          rw [if_neg (by rw [decide_eq_false]; simp; exact fun h => h hkw), wr (by omega) (by omega)]
        · intro h
          rw [if_pos]
          exact decide_eq_true fun hw => h ⟨j, hj, hjv, hw⟩
      · rw [he, if_pos (by decide)]
        exact ⟨fun ⟨j, hj, hjv, _⟩ => absurd hjv (hf j hj), fun _ => rfl⟩
    refine iter_if (row g v).length _ (fun i ag2 hi hp => (body i ag2 hi).1 hp) (fun i ag2 hi hp => (body i ag2 hi).2 hp) (fun ag2 => ?_) 2000 (by omega)
    unfold ref01_Valid_s2 ref01_Valid_k4
    rw [ckT (by omega), if_neg (show ¬ (((row g v).length : Nat) : Int) < ((row g v).length : Int) by omega), wr (by omega) (by omega)]
  have outer2 := iter_if (step := ref01_Valid_s1 2000 g) (K := some true) (bad := false) g.2.length (fun v => ∀ i, i < (row g v).length → SymAt g v i) (fun v ag hv hp => ?_) (fun v ag hv hp => ?_) (fun ag => ?_) 2000 (by omega)
  · exact ⟨fun h => outer2.1 h.sym, fun h => outer2.2 fun hs => h ⟨h1.1, h1.2, h2, hn, hs⟩⟩
  · unfold ref01_Valid_s1
    rw [if_pos (by omega)]
    exact (inner v ag hv).1 hp
  · unfold ref01_Valid_s1
    rw [if_pos (by omega)]
    exact (inner v ag hv).2 hp
  · unfold ref01_Valid_s1 ref01_Valid_k3
    rw [if_neg (by omega)]

theorem at_set {α : Type} [Inhabited α] (l : List α) (i k : Nat) (y : α) (hi : i < l.length) : at' (l.set i y) (k : Int) = if k = i then y else at' l (k : Int) := by
  rw [at'_nat, at'_nat, List.getD_eq_getElem?_getD, List.getD_eq_getElem?_getD, List.getElem?_set]
  by_cases h : i = k
  · rw [if_pos h, if_pos h.symm, if_pos (by omega)]; rfl
  · rw [if_neg h, if_neg (Ne.symm h)]

def IdOk (l : List Int) (k : Nat) : Prop := (0 ≤ at' l (k : Int) ∧ at' l (k : Int) ≤ 255) ∧ ∀ j, j < k → at' l (j : Int) ≠ at' l (k : Int)

theorem differentIDs_eq (l : List Int) (hl : l.length ≤ 30) : ((∀ k, k < l.length → IdOk l k) → m_graph_DifferentIDs 2000 l = some true) ∧ (¬ (∀ k, k < l.length → IdOk l k) → m_graph_DifferentIDs 2000 l = some false) := by
  unfold m_graph_DifferentIDs
  have key := iter_ifS (step := graph_DifferentIDs_s1 l) (K := fun _ => some true) (bad := false) l.length (IdOk l) (fun k x => x.1 = (k : Int) ∧ x.2.length = 256 ∧ ∀ z : Nat, z < 256 → (at' x.2 (z : Int) = true ↔ ∃ j, j < k ∧ at' l (j : Int) = (z : Int))) ?_ ?_ ?_ 2000 ((0 : Int), (List.replicate 256 false)) ⟨rfl, List.length_replicate .., fun z hz => ?_⟩ (by omega)
  · exact ⟨fun h => by obtain ⟨x, _, hx⟩ := key.1 h; exact hx, key.2⟩
  · rintro k ⟨x1, x2⟩ ag hk ⟨hx, hlen, hs⟩ ⟨hr, hd⟩
    dsimp only at hx hlen hs
    subst hx
    obtain ⟨z, hz⟩ : ∃ z : Nat, at' l (k : Int) = z := ⟨(at' l (k : Int)).toNat, by omega⟩
    have hz2 : z < 256 := by omega
    have hno : ¬ at' x2 (z : Int) = true := by
      rw [hs z hz2]
      rintro ⟨j, hj, he⟩
      exact hd j hj (he.trans hz.symm)
    refine ⟨((k : Int) + 1, x2.set z true), ⟨by simp, by simp [hlen], fun y hy => ?_⟩, ?_⟩
    · dsimp only
      rw [at_set _ _ _ _ (by omega)]
      by_cases hyz : y = z
      · subst hyz
        rw [if_pos rfl]
        exact ⟨fun _ => ⟨k, by omega, hz⟩, fun _ => rfl⟩
      · rw [if_neg hyz, hs y hy]
        constructor
        · rintro ⟨j, hj, he⟩; exact ⟨j, by omega, he⟩
        · rintro ⟨j, hj, he⟩
          by_cases hjk : j = k
          · subst hjk; rw [hz] at he; omega
          · exact ⟨j, by omega, he⟩
    · unfold graph_DifferentIDs_s1 graph_DifferentIDs_k2
      dsimp only
      rw [if_pos (by omega), ckT (by omega), hz, if_neg (by omega), if_neg (by omega), ckT ⟨by omega, hlen⟩, if_neg hno, ckT ⟨by omega, hlen⟩, wr (by omega) (by omega)]
      rfl
  · rintro k ⟨x1, x2⟩ ag hk ⟨hx, hlen, hs⟩ hp
    dsimp only at hx hlen hs
    subst hx
    unfold graph_DifferentIDs_s1 graph_DifferentIDs_k2
    dsimp only
    rw [if_pos (by omega), ckT (by omega)]
    by_cases h1 : at' l (k : Int) < 0
    · rw [if_pos h1, if_pos rfl]
    rw [if_neg h1]
    by_cases h2 : 255 < at' l (k : Int)
    · rw [if_pos h2, if_pos rfl]
    rw [if_neg h2]
    obtain ⟨z, hz⟩ : ∃ z : Nat, at' l (k : Int) = z := ⟨(at' l (k : Int)).toNat, by omega⟩
    rw [hz, ckT ⟨by omega, hlen⟩, if_pos]
    rw [hs z (by omega)]
    apply Classical.byContradiction
    intro hc
    exact hp ⟨by omega, fun j hj he => hc ⟨j, hj, he.trans hz⟩⟩
  · rintro ⟨x1, x2⟩ ag ⟨hx, _, _⟩
    dsimp only at hx
    subst hx
    unfold graph_DifferentIDs_s1 graph_DifferentIDs_k1
    dsimp only
    rw [if_neg (by omega)]
  · rw [show at' (List.replicate 256 false) (z : Int) = false by rw [at'_nat, List.getD_eq_getElem?_getD, List.getElem?_replicate, if_pos hz]; rfl]
    exact ⟨fun h => (by cases h), fun ⟨j, hj, _⟩ => (by omega)⟩

theorem mem_mset {κ ν : Type} [DecidableEq κ] {k : κ} {v : ν} {z : κ × ν} {l : List (κ × ν)} (h0 : mget k l = none) : z ∈ mset k v l ↔ z = (k, v) ∨ z ∈ l := by
  rw [mset_none k v l h0]
  simp [or_comm]

theorem mget_none {κ ν : Type} [DecidableEq κ] {k : κ} : ∀ {l : List (κ × ν)}, (∀ v, (k, v) ∉ l) → mget k l = none
  | [], _ => rfl
  | x :: xs, h => by
    simp only [mget]
    rw [if_neg (fun e => h x.2 (by rw [e]; exact List.mem_cons_self ..))]
    exact mget_none fun v hv => h v (List.mem_cons_of_mem _ hv)

theorem mget_none_mem {κ ν : Type} [DecidableEq κ] {k : κ} {v : ν} : ∀ {l : List (κ × ν)}, mget k l = none → (k, v) ∉ l
  | [], _ => by simp
  | x :: xs, h => by
    simp only [mget] at h
    by_cases e : k = x.1
    · rw [if_pos e] at h; cases h
    · rw [if_neg e] at h
      intro hm
      rcases List.mem_cons.1 hm with h2 | h2
      · exact e (by rw [← h2])
      · exact mget_none_mem h h2

theorem mget_some {κ ν : Type} [DecidableEq κ] {k : κ} {v : ν} : ∀ {l : List (κ × ν)}, mget k l = some v → (k, v) ∈ l
  | x :: xs, h => by
    simp only [mget] at h
    by_cases e : k = x.1
    · rw [if_pos e] at h; cases h; rw [e]; exact List.mem_cons_self ..
    · rw [if_neg e] at h; exact List.mem_cons_of_mem _ (mget_some h)

theorem mrun_all {κ ν : Type} (p : κ × ν → Prop) [DecidablePred p] : ∀ l : List (κ × ν), mrun (fun kv x => if p kv then some false else x) (some true) l = some (decide (∀ z ∈ l, ¬ p z))
  | [] => by simp [mrun]
  | x :: xs => by
    show (if p x then some false else mrun _ (some true) xs) = _
    rw [mrun_all p xs]
    by_cases h : p x
    · rw [if_pos h]; congr 1; symm; exact decide_eq_false fun h2 => h2 x (List.mem_cons_self ..) h
    · rw [if_neg h]; congr 1; apply decide_eq_decide.2; simp [h]

/-- the links that were read: all of the nodes below v, and of v those below i -/
def Read (ps : List (List (Int × Int))) (v i : Nat) (z : (Int × Int) × Int) : Prop := ∃ a b : Nat, (a < v ∨ (a = v ∧ b < i)) ∧ b < (at' ps (a : Int)).length ∧ z = (((a : Int), (lnk (at' ps (a : Int)) b).1), (lnk (at' ps (a : Int)) b).2)

def SymPs (ps : List (List (Int × Int))) : Prop := (∀ v, v < ps.length → LinksOk (at' ps (v : Int)) v ps.length) ∧ ∀ v, v < ps.length → ∀ i, i < (at' ps (v : Int)).length → SymAt ([], ps) v i

theorem symmetric_eq (ps : List (List (Int × Int))) (hn : ps.length ≤ 30) (hd : ∀ v, v < ps.length → (at' ps (v : Int)).length ≤ 30) : (SymPs ps → m_graph_symmetric 2000 ps = some true) ∧ (¬ SymPs ps → m_graph_symmetric 2000 ps = some false) := by
  unfold m_graph_symmetric
  have inner : ∀ (v : Nat) (m : List ((Int × Int) × Int)) ag, v < ps.length → (∀ z, z ∈ m ↔ Read ps v 0 z) →
      (LinksOk (at' ps (v : Int)) v ps.length → ∃ m', (∀ z, z ∈ m' ↔ Read ps (v + 1) 0 z) ∧ iter (graph_symmetric_s3 ps ((v : Int), m) ag) 2000 ((0 : Int), m) = ag ((v : Int) + 1, m')) ∧
      (¬ LinksOk (at' ps (v : Int)) v ps.length → iter (graph_symmetric_s3 ps ((v : Int), m) ag) 2000 ((0 : Int), m) = some false) := by
    intro v m ag hv hm
    have hdv := hd v hv
    have key := iter_ifS (step := graph_symmetric_s3 ps ((v : Int), m) ag) (K := fun x => ag ((v : Int) + 1, x.2)) (bad := false) (at' ps (v : Int)).length (LinkOk (at' ps (v : Int)) v ps.length) (fun i x => x.1 = (i : Int) ∧ ∀ z, z ∈ x.2 ↔ Read ps v i z) ?_ ?_ ?_ 2000 ((0 : Int), m) ⟨rfl, hm⟩ (by omega)
    · refine ⟨fun h => ?_, fun h => key.2 h⟩
      obtain ⟨x, ⟨hx1, hx2⟩, hx⟩ := key.1 h
      refine ⟨x.2, fun z => (hx2 z).trans ⟨?_, ?_⟩, hx⟩
      · rintro ⟨a, b, h1, h2, h3⟩; exact ⟨a, b, by omega, h2, h3⟩
      · rintro ⟨a, b, h1, h2, h3⟩
        refine ⟨a, b, ?_, h2, h3⟩
        by_cases ha : a = v
        · subst ha; exact .inr ⟨rfl, h2⟩
        · omega
    · rintro i ⟨x1, x2⟩ ag2 hi ⟨hx, hs⟩ ⟨p1, p2, p3, p4⟩
      dsimp only at hx hs
      subst hx
      have hg : mget (((v : Int), (lnk (at' ps (v : Int)) i).1)) x2 = none := by
        apply mget_none
        intro w hw
        obtain ⟨a, b, h1, h2, h3⟩ := (hs _).1 hw
        simp only [Prod.mk.injEq] at h3
        obtain ⟨⟨h4, h5⟩, _⟩ := h3
        have : a = v := by omega
        subst this
        have hb : b < i := by omega
        exact p4 b hb h5.symm
      refine ⟨((i : Int) + 1, mset (((v : Int), (lnk (at' ps (v : Int)) i).1)) (lnk (at' ps (v : Int)) i).2 x2), ⟨by simp, fun z => ?_⟩, ?_⟩
      · dsimp only
        rw [mem_mset hg, hs]
        constructor
        · rintro (rfl | ⟨a, b, h1, h2, h3⟩)
          · exact ⟨v, i, .inr ⟨rfl, by omega⟩, hi, rfl⟩
          · exact ⟨a, b, by omega, h2, h3⟩
        · rintro ⟨a, b, h1, h2, h3⟩
          by_cases hab : a = v ∧ b = i
          · left; rw [h3, hab.1, hab.2]
          · right; exact ⟨a, b, by omega, h2, h3⟩
      · replace p1 : 0 ≤ (at' (at' ps (v : Int)) (i : Int)).1 ∧ (at' (at' ps (v : Int)) (i : Int)).1 ≤ (ps.length : Int) - 1 := p1
        replace p3 : 1 ≤ (at' (at' ps (v : Int)) (i : Int)).2 ∧ (at' (at' ps (v : Int)) (i : Int)).2 ≤ 15 := p3
        unfold graph_symmetric_s3 graph_symmetric_k3 graph_symmetric_k4
        dsimp only
        rw [if_pos (by omega), ckT (by omega), if_neg (by omega), if_neg (by omega), if_neg (by rw [decide_eq_false p2]; simp), if_neg (by omega), if_neg (by rw [decide_eq_false (by omega)]; simp), hg, if_neg (by simp), wr (by omega) (by omega)]
    · rintro i ⟨x1, x2⟩ ag2 hi ⟨hx, hs⟩ hp
      dsimp only at hx hs
      subst hx
      unfold graph_symmetric_s3 graph_symmetric_k3 graph_symmetric_k4
      dsimp only
      rw [if_pos (by omega), ckT (by omega)]
      by_cases h1 : (lnk (at' ps (v : Int)) i).1 < 0
      · rw [if_pos h1, if_pos rfl]
      rw [if_neg h1]
      by_cases h2 : (ps.length : Int) ≤ (lnk (at' ps (v : Int)) i).1
      · rw [if_pos h2, if_pos rfl]
      rw [if_neg h2]
      by_cases h3 : (lnk (at' ps (v : Int)) i).1 = v
      · rw [if_pos (decide_eq_true h3)]
      rw [if_neg (by rw [decide_eq_false h3]; simp)]
      by_cases h4 : (lnk (at' ps (v : Int)) i).2 < 1
      · rw [if_pos h4, if_pos rfl]
      rw [if_neg h4]
      by_cases h5 : 15 < (lnk (at' ps (v : Int)) i).2
      · rw [if_pos (decide_eq_true h5)]
      rw [if_neg (by rw [decide_eq_false h5]; simp)]
      have : ∃ k, k < i ∧ (lnk (at' ps (v : Int)) k).1 = (lnk (at' ps (v : Int)) i).1 := by
        apply Classical.byContradiction
        intro hc
        exact hp ⟨by omega, h3, by omega, fun k hk he => hc ⟨k, hk, he⟩⟩
      obtain ⟨k, hk, he⟩ := this
      have hin := (hs _).2 ⟨v, k, .inr ⟨rfl, hk⟩, by omega, rfl⟩
      rw [if_pos]
      rw [← he]
      cases hg : mget (((v : Int), (lnk (at' ps (v : Int)) k).1)) x2 with
      | some w => rfl
      | none => exact absurd hin (by
          intro hin
          exact mget_none_mem hg hin)
    · rintro ⟨x1, x2⟩ ag2 ⟨hx, hs⟩
      dsimp only at hx hs
      subst hx
      unfold graph_symmetric_s3 graph_symmetric_k2
      dsimp only
      rw [if_neg (by omega), wr (by omega) (by omega)]
  have outer := iter_ifS (step := graph_symmetric_s2 2000 ps) (K := fun x => graph_symmetric_k1 x.2) (bad := false) ps.length (fun v => LinksOk (at' ps (v : Int)) v ps.length) (fun v x => x.1 = (v : Int) ∧ ∀ z, z ∈ x.2 ↔ Read ps v 0 z) ?_ ?_ ?_ 2000 ((0 : Int), []) ⟨rfl, fun z => ⟨fun h => (by cases h), fun ⟨a, b, h1, _⟩ => (by omega)⟩⟩ (by omega)
  rotate_left
  · rintro v ⟨x1, x2⟩ ag hv ⟨hx, hs⟩ hp
    dsimp only at hx hs
    subst hx
    obtain ⟨m', h1, h2⟩ := (inner v x2 ag hv hs).1 hp
    refine ⟨((v : Int) + 1, m'), ⟨by simp, h1⟩, ?_⟩
    · unfold graph_symmetric_s2
      dsimp only
      rw [if_pos (by omega), ckT (by omega)]
      exact h2
  · rintro v ⟨x1, x2⟩ ag hv ⟨hx, hs⟩ hp
    dsimp only at hx hs
    subst hx
    unfold graph_symmetric_s2
    dsimp only
    rw [if_pos (by omega), ckT (by omega)]
    exact (inner v x2 ag hv hs).2 hp
  · rintro ⟨x1, x2⟩ ag ⟨hx, hs⟩
    dsimp only at hx hs
    subst hx
    unfold graph_symmetric_s2
    dsimp only
    rw [if_neg (by omega)]
  by_cases hL : ∀ v, v < ps.length → LinksOk (at' ps (v : Int)) v ps.length
  rotate_left
  · exact ⟨fun h => absurd h.1 hL, fun _ => outer.2 hL⟩
  obtain ⟨⟨x1, x2⟩, ⟨hx, hs⟩, he⟩ := outer.1 hL
  rw [he]
  dsimp only at hs ⊢
  have hk : graph_symmetric_k1 x2 = some (decide (∀ z ∈ x2, ¬ (Option.getD (mget (z.1.2, z.1.1) x2) (0 : Int)) ≠ z.2)) := mrun_all (fun z : (Int × Int) × Int => (Option.getD (mget (z.1.2, z.1.1) x2) (0 : Int)) ≠ z.2) x2
  rw [hk]
  have hiff : (∀ z ∈ x2, ¬ (Option.getD (mget (z.1.2, z.1.1) x2) (0 : Int)) ≠ z.2) ↔ ∀ v, v < ps.length → ∀ i, i < (at' ps (v : Int)).length → SymAt ([], ps) v i := by
    constructor
    · intro h v hv i hi
      have hw := (hL v hv i hi).2.2.1
      have hin := (hs (((v : Int), (lnk (at' ps (v : Int)) i).1), (lnk (at' ps (v : Int)) i).2)).2 ⟨v, i, .inl hv, hi, rfl⟩
      have h2 := Decidable.not_not.1 (h _ hin)
      dsimp only at h2
      cases hg : mget ((lnk (at' ps (v : Int)) i).1, (v : Int)) x2 with
      | none => rw [hg] at h2; simp only [Option.getD] at h2; omega
      | some w =>
        rw [hg] at h2; simp only [Option.getD] at h2
        obtain ⟨a, b, h3, h4, h5⟩ := (hs _).1 (mget_some hg)
        simp only [Prod.mk.injEq] at h5
        obtain ⟨⟨h6, h7⟩, h8⟩ := h5
        refine ⟨b, ?_, ?_, ?_⟩
        · show b < (at' ps (lnk (at' ps (v : Int)) i).1).length
          rw [h6]; exact h4
        · show (lnk (at' ps (lnk (at' ps (v : Int)) i).1) b).1 = v
          rw [h6]; exact h7.symm
        · show (lnk (at' ps (lnk (at' ps (v : Int)) i).1) b).2 = (lnk (at' ps (v : Int)) i).2
          rw [h6, ← h8]; exact h2
    · intro h z hz hne
      obtain ⟨a, b, h3, h4, rfl⟩ := (hs z).1 hz
      have ha : a < ps.length := by omega
      apply hne
      obtain ⟨j, hj1, hj2, hj3⟩ := h a ha b h4
      have hu := (hL a ha b h4).1
      obtain ⟨u, hu'⟩ : ∃ u : Nat, (lnk (at' ps (a : Int)) b).1 = u := ⟨(lnk (at' ps (a : Int)) b).1.toNat, by omega⟩
      replace hj1 : j < (at' ps (lnk (at' ps (a : Int)) b).1).length := hj1
      replace hj2 : (lnk (at' ps (lnk (at' ps (a : Int)) b).1) j).1 = a := hj2
      replace hj3 : (lnk (at' ps (lnk (at' ps (a : Int)) b).1) j).2 = (lnk (at' ps (a : Int)) b).2 := hj3
      rw [hu'] at hj1 hj2 hj3
      have hun : u < ps.length := by omega
      dsimp only
      rw [hu', ← hj3]
      have hin := (hs (((u : Int), (lnk (at' ps (u : Int)) j).1), (lnk (at' ps (u : Int)) j).2)).2 ⟨u, j, .inl hun, hj1, rfl⟩
      rw [hj2] at hin
      cases hg : mget ((u : Int), (a : Int)) x2 with
      | none => exact absurd hin (mget_none_mem hg)
      | some w =>
        obtain ⟨a', b', h3', h4', h5⟩ := (hs _).1 (mget_some hg)
        simp only [Prod.mk.injEq] at h5
        obtain ⟨⟨h6, h7⟩, h8⟩ := h5
        have : a' = u := by omega
        subst this
        have hbj : b' = j := by
          rcases Nat.lt_trichotomy b' j with hl | hl | hl
          · exact absurd (h7.symm.trans hj2.symm) ((hL a' hun j hj1).2.2.2 b' hl)
          · exact hl
          · exact absurd (hj2.trans h7) ((hL a' hun b' h4').2.2.2 j hl)
        subst hbj
        exact h8
  by_cases hS : ∀ v, v < ps.length → ∀ i, i < (at' ps (v : Int)).length → SymAt ([], ps) v i
  · rw [decide_eq_true (hiff.2 hS)]
    exact ⟨fun _ => rfl, fun h => absurd ⟨hL, hS⟩ h⟩
  · rw [decide_eq_false (fun h => hS (hiff.1 h))]
    exact ⟨fun h => absurd h.2 hS, fun _ => rfl⟩

/-- numbers below N, all different: at most N -/
theorem pigeon : ∀ (N : Nat) (f : Nat → Nat) (k : Nat), (∀ i, i < k → f i < N) → (∀ i j, i < j → j < k → f i ≠ f j) → k ≤ N
  | 0, f, k, h, _ => by
    cases k with
    | zero => omega
    | succ k => exact absurd (h 0 (by omega)) (by omega)
  | N + 1, f, k, h, hd => by
    by_cases hex : ∃ a, a < k ∧ f a = N
    · obtain ⟨a, ha, hfa⟩ := hex
      have := pigeon N (fun i => if i < a then f i else f (i + 1)) (k - 1) (fun i hi => by
        split
        · have := h i (by omega); have := hd i a (by omega) ha; omega
        · have := h (i + 1) (by omega); have := hd a (i + 1) (by omega) (by omega); omega) (fun i j hij hj => by
        split <;> split
        · exact hd i j hij (by omega)
        · exact hd i (j + 1) (by omega) (by omega)
        · omega
        · exact hd (i + 1) (j + 1) (by omega) (by omega))
      omega
    · have := pigeon N f k (fun i hi => by
        have := h i hi
        have : f i ≠ N := fun e => hex ⟨i, hi, e⟩
        omega) hd
      omega

theorem deg_lt {l : List (Int × Int)} {v n : Nat} (hv : v < n) (h : LinksOk l v n) : l.length < n := by
  have := pigeon n (fun i => if i = l.length then v else (lnk l i).1.toNat) (l.length + 1) (fun i hi => by
    split
    · exact hv
    · have := (h i (by omega)).1; omega) (fun i j hij hj => by
    rw [if_neg (by omega)]
    have h1 := (h i (by omega)).1
    split
    · have := (h i (by omega)).2.1; omega
    · have h2 := (h j (by omega)).1
      have := (h j (by omega)).2.2.2 i hij
      omega)
  omega

theorem valid_eq (g : GR) (hl : light g) : (VG g → m_graph_Valid 2000 g = some true) ∧ (¬ VG g → m_graph_Valid 2000 g = some false) := by
  obtain ⟨l1, l2, l3⟩ := hl
  unfold m_graph_Valid graph_Valid_k1 graph_Valid_k2
  by_cases h1 : g.1.length < 1
  · rw [if_pos (by omega)]
    exact ⟨fun h => by have := h.n1; have := h.len; omega, fun _ => rfl⟩
  rw [if_neg (by omega)]
  by_cases h2 : 24 < g.1.length
  · rw [if_pos (by omega)]
    exact ⟨fun h => by have := h.n24; have := h.len; omega, fun _ => rfl⟩
  rw [if_neg (by omega)]
  by_cases h3 : g.1.length = g.2.length
  rotate_left
  · rw [decide_eq_true (by omega)]
    exact ⟨fun h => absurd h.len h3, fun _ => rfl⟩
  rw [decide_eq_false (by omega), if_neg (by simp)]
  by_cases h4 : ∀ k, k < g.1.length → IdOk g.1 k
  rotate_left
  · rw [(differentIDs_eq g.1 l1).2 h4, bindS rfl]
    exact ⟨fun h => absurd (fun k hk => ⟨(h.node k (by omega)).id, (h.node k (by omega)).ids⟩) h4, fun _ => rfl⟩
  rw [(differentIDs_eq g.1 l1).1 h4, bindS rfl, if_pos rfl]
  by_cases h5 : SymPs g.2
  · rw [(symmetric_eq g.2 l2 l3).1 h5]
    exact ⟨fun _ => rfl, fun h => absurd ⟨by omega, by omega, h3, fun v hv => ⟨(h4 v (by omega)).1, deg_lt hv (h5.1 v hv), h5.1 v hv, (h4 v (by omega)).2⟩, h5.2⟩ h⟩
  · rw [(symmetric_eq g.2 l2 l3).2 h5]
    exact ⟨fun h => absurd ⟨fun v hv => (h.node v hv).links, h.sym⟩ h5, fun _ => rfl⟩

theorem VG.light {g : GR} (h : VG g) : light g := ⟨by have := h.n24; have := h.len; omega, by have := h.n24; omega, fun v hv => by have := (h.node v hv).deg; have := h.n24; omega⟩
end Go.Proofs.Ytmajgimhmfeliaa
end
section
namespace Go.Proofs.Ytmajgimhmfeliaa
set_option linter.unusedVariables false
set_option linter.unusedSimpArgs false
open Go.Sx
abbrev D (d : List Int) (v : Nat) : Int := at' d (v : Int)

/-- node v has a link to u -/
def Adj (g : GR) (v u : Nat) : Prop := ∃ i, i < (row g v).length ∧ (lnk (row g v) i).1 = (u : Int)

theorem VG.port {g : GR} (h : VG g) {v i : Nat} (hv : v < g.2.length) (hi : i < (row g v).length) : ∃ u : Nat, u < g.2.length ∧ (lnk (row g v) i).1 = (u : Int) ∧ Adj g v u := by
  have hu := ((h.node v hv).links i hi).1
  exact ⟨(lnk (row g v) i).1.toNat, by omega, by omega, i, hi, by omega⟩

theorem VG.back {g : GR} (h : VG g) {v u : Nat} (hv : v < g.2.length) (ha : Adj g v u) : Adj g u v := by
  obtain ⟨i, hi, hu⟩ := ha
  obtain ⟨j, hj, hjv, _⟩ := h.sym v hv i hi
  rw [hu] at hj hjv
  exact ⟨j, hj, hjv⟩

theorem VG.adj_lt {g : GR} (h : VG g) {v u : Nat} (hv : v < g.2.length) (ha : Adj g v u) : u < g.2.length := by
  obtain ⟨i, hi, hu⟩ := ha
  have := ((h.node v hv).links i hi).1
  omega

def cneg (d : List Int) : Nat := d.countP fun x => decide (x < 0)

/-- what holds of the numbers at all times of the search from s -/
structure Core (g : GR) (s : Nat) (d : List Int) : Prop where
  len : d.length = g.2.length
  lo : ∀ v, v < g.2.length → -1 ≤ D d v
  zero : ∀ v, v < g.2.length → (D d v = 0 ↔ v = s)
  near : ∀ v, v < g.2.length → 0 < D d v → ∃ u, u < g.2.length ∧ Adj g v u ∧ D d u = D d v - 1
  hi : ∀ v, v < g.2.length → D d v + (cneg d : Int) ≤ (g.2.length : Int)

structure Qu (g : GR) (q d : List Int) (b : Int) (done : Nat → Prop) : Prop where
  mem : ∀ y ∈ q, ∃ v, v < g.2.length ∧ y = ((v : Nat) : Int) ∧ 0 ≤ D d v
  top : ∀ v, v < g.2.length → D d v ≤ b
  sort : q.Pairwise fun a c => at' d a ≤ at' d c
  done : ∀ v, v < g.2.length → 0 ≤ D d v → ((v : Nat) : Int) ∉ q → done v → ∀ u, u < g.2.length → Adj g v u → 0 ≤ D d u ∧ D d u ≤ D d v + 1

theorem D_getElem {d : List Int} {v : Nat} (h : v < d.length) : D d v = d[v] := by
  rw [D, at'_nat, List.getD_eq_getElem?_getD, List.getElem?_eq_getElem h]; rfl

theorem cneg_set {d : List Int} {u : Nat} {x : Int} (hu : u < d.length) (hn : D d u < 0) (hx : 0 ≤ x) : cneg (d.set u x) + 1 = cneg d := by
  unfold cneg
  rw [List.countP_set hu]
  have hp : 0 < d.countP fun x => decide (x < 0) := by
    rw [List.countP_pos_iff]
    exact ⟨d[u], List.getElem_mem hu, by rw [← D_getElem hu]; simpa using hn⟩
  rw [D_getElem hu] at hn
  rw [if_pos (by simpa using hn), if_neg (by simp; omega)]
  omega

/-- a node without a number gets one -/
theorem assign {g : GR} {s : Nat} {q d : List Int} {b : Int} {done : Nat → Prop} (hV : VG g) (hC : Core g s d) {x u : Nat} (hQ : Qu g q d (D d x + 1) done) (hx : x < g.2.length) (hx0 : 0 ≤ D d x) (hu : u < g.2.length) (hun : D d u < 0) (ha : Adj g x u) :
    Core g s (d.set u (D d x + 1)) ∧ Qu g (q ++ [(u : Int)]) (d.set u (D d x + 1)) (D d x + 1) done := by
  have hlen := hC.len
  have hat : ∀ v, D (d.set u (D d x + 1)) v = if v = u then D d x + 1 else D d v := fun v => at_set _ _ _ _ (by omega)
  have hcn := cneg_set (x := D d x + 1) (by omega : u < d.length) hun (by omega)
  refine ⟨⟨by simp [hlen], fun v hv => ?_, fun v hv => ?_, fun v hv => ?_, fun v hv => ?_⟩, ⟨fun y hy => ?_, fun v hv => ?_, ?_, fun v hv h0 hq hd w hw hadj => ?_⟩⟩
  · rw [hat]; split
    · omega
    · exact hC.lo v hv
  · rw [hat]; split
    · rename_i h; subst h
      have := (hC.zero v hv)
      constructor
      · intro; omega
      · intro h; have := this.2 h; omega
    · exact hC.zero v hv
  · rw [hat]; split
    · rename_i h; subst h
      intro _
      refine ⟨x, hx, hV.back hx ha, ?_⟩
      rw [hat, if_neg (by intro h; subst h; omega)]; omega
    · intro h0
      obtain ⟨w, hw, hadj, he⟩ := hC.near v hv h0
      refine ⟨w, hw, hadj, ?_⟩
      rw [hat, if_neg (by intro h; subst h; omega)]; exact he
  · rw [hat]; split
    · have := hC.hi x hx; omega
    · have := hC.hi v hv; omega
  · rcases List.mem_append.1 hy with hy | hy
    · obtain ⟨v, hv, rfl, h0⟩ := hQ.mem y hy
      refine ⟨v, hv, rfl, ?_⟩
      rw [hat]; split <;> omega
    · simp only [List.mem_singleton] at hy
      refine ⟨u, hu, hy, ?_⟩
      rw [hat, if_pos rfl]; omega
  · rw [hat]; split
    · omega
    · exact hQ.top v hv
  · rw [List.pairwise_append]
    have hq : ∀ y ∈ q, at' (d.set u (D d x + 1)) y = at' d y := by
      intro y hy
      obtain ⟨v, hv, rfl, h0⟩ := hQ.mem y hy
      have := hat v
      rw [if_neg (by intro h; subst h; omega)] at this
      exact this
    refine ⟨hQ.sort.imp_of_mem fun {a c} h1 h2 h => ?_, List.pairwise_singleton .., fun y hy z hz => ?_⟩
    · rw [hq a h1, hq c h2]; exact h
    · simp only [List.mem_singleton] at hz
      subst hz
      rw [hq y hy]
      have h2 := hat u
      rw [if_pos rfl] at h2
      obtain ⟨v, hv, rfl, h0⟩ := hQ.mem y hy
      have := hQ.top v hv
      show D d v ≤ D (d.set u (D d x + 1)) u
      omega
  · have hvu : v ≠ u := by
      rintro rfl
      exact hq (by simp)
    rw [hat, if_neg hvu] at h0
    rw [hat v, if_neg hvu]
    have := hQ.done v hv h0 (fun h => hq (List.mem_append_left _ h)) hd w hw hadj
    rw [hat w, if_neg (by rintro rfl; omega)]
    exact this

/-- the ports of node x one after another -/
theorem search_inner {g : GR} (hV : VG g) {s x : Nat} (hx : x < g.2.length) (rest d0 : List Int) (ag : List Int × List Int → Option (List Int)) (r : List Int → Prop)
    (hC : Core g s d0) (hx0 : 0 ≤ D d0 x) (hQ : Qu g rest d0 (D d0 x + 1) (fun v => v ≠ x)) (hm : rest.length + cneg d0 ≤ g.2.length)
    (hag : ∀ q d, Core g s d → D d x = D d0 x → Qu g q d (D d x + 1) (fun _ => True) → q.length + cneg d = rest.length + cneg d0 → (∀ y ∈ q, D d0 x ≤ at' d y) → OK r (ag (q, d)))
    (hge : ∀ y ∈ rest, D d0 x ≤ at' d0 y) :
    OK r (iter (graph_search_s2 g ((x : Int) :: rest, d0) ag) 2000 ((0 : Int), rest, d0)) := by
  have hdeg := (hV.node x hx).deg
  have h24 := hV.n24
  refine iter_ok (fun z : Int × List Int × List Int => ∃ k : Nat, z.1 = k ∧ k ≤ (row g x).length ∧ Core g s z.2.2 ∧ D z.2.2 x = D d0 x ∧ Qu g z.2.1 z.2.2 (D d0 x + 1) (fun v => v ≠ x) ∧ z.2.1.length + cneg z.2.2 = rest.length + cneg d0 ∧ (∀ i, i < k → ∀ u : Nat, (lnk (row g x) i).1 = u → 0 ≤ D z.2.2 u) ∧ (∀ y ∈ z.2.1, D d0 x ≤ at' z.2.2 y)) (fun z => 31 - z.1.toNat) ?_ 2000 _ ⟨0, rfl, by omega, hC, rfl, hQ, rfl, fun i hi => by omega, hge⟩ (by simp)
  rintro ⟨z1, q, d⟩ ag2 ⟨k, hz, hk, hC, hdx, hQ, hm2, hp, hge⟩ hag2
  dsimp only at hz hC hdx hQ hm2 hp hge
  subst hz
  have hlen := hC.len
  have e0 : at' ((x : Int) :: rest) 0 = (x : Int) := rfl
  unfold graph_search_s2 graph_search_k3
  dsimp only
  rw [e0]
  by_cases hlt : k < (row g x).length
  · rw [if_pos (show (k : Int) < ((row g x).length : Int) by omega), ckT (show 0 ≤ (k : Int) ∧ (k : Int) < ((row g x).length : Int) by omega)]
    obtain ⟨u, hu, hue, hadj⟩ := hV.port hx hlt
    rw [show at' (at' g.2 (x : Int)) (k : Int) = lnk (row g x) k from rfl, hue, ckT (by omega)]
    have hhi := hC.hi x hx
    by_cases hneg : at' d (u : Int) < 0
    · have hQ' : Qu g q d (D d x + 1) (fun v => v ≠ x) := by rw [hdx]; exact hQ
      obtain ⟨c1, c2⟩ := assign (b := 0) hV hC hQ' hx (by omega) hu hneg hadj
      have hcn := cneg_set (x := D d x + 1) (by omega : u < d.length) hneg (by omega)
      have hat : ∀ v, D (d.set u (D d x + 1)) v = if v = u then D d x + 1 else D d v := fun v => at_set _ _ _ _ (by omega)
      have hxu : x ≠ u := by rintro rfl; have : D d x < 0 := hneg; omega
      rw [if_pos hneg, ckT (by omega), ckT (by omega), ckT (by simp only [List.length_singleton]; omega), wr (x := (k : Int) + 1) (by omega) (by omega), wr (x := at' d (x : Int) + 1) (by show -9223372036854775808 ≤ D d x + 1; omega) (by show D d x + 1 ≤ _; omega)]
      refine hag2 _ ⟨k + 1, by simp, by omega, c1, ?_, ?_, ?_, ?_, ?_⟩ (by dsimp only; omega)
      · show D (d.set u (D d x + 1)) x = _
        rw [hat, if_neg hxu]; exact hdx
      · rw [← hdx]; exact c2
      · show (q ++ [(u : Int)]).length + cneg (d.set u (D d x + 1)) = _
        simp only [List.length_append, List.length_singleton]
        omega
      · intro i hi w hw
        show 0 ≤ D (d.set u (D d x + 1)) w
        rw [hat]
        split
        · omega
        · by_cases hik : i = k
          · subst hik; omega
          · exact hp i (by omega) w hw
      · intro y hy
        show D d0 x ≤ at' (d.set u (D d x + 1)) y
        rcases List.mem_append.1 hy with hy | hy
        · have h1 := hge y hy
          obtain ⟨v, hv, rfl, h0⟩ := hQ.mem y hy
          have h2 := hat v
          rw [if_neg (by intro h; subst h; have : D d v < 0 := hneg; omega)] at h2
          rw [show at' (d.set u (D d x + 1)) (v : Int) = D d v from h2]
          exact h1
        · simp only [List.mem_singleton] at hy
          subst hy
          rw [show at' (d.set u (D d x + 1)) (u : Int) = D d x + 1 from (hat u).trans (if_pos rfl)]
          omega
    · rw [if_neg hneg, wr (by omega) (by omega)]
      refine hag2 _ ⟨k + 1, by simp, by omega, hC, hdx, hQ, hm2, ?_, hge⟩ (by dsimp only; omega)
      intro i hi w hw
      by_cases hik : i = k
      · subst hik
        have : w = u := by omega
        subst this
        show 0 ≤ at' d (w : Int)
        omega
      · exact hp i (by omega) w hw
  · rw [if_neg (show ¬ (k : Int) < ((row g x).length : Int) by omega)]
    have hke : k = (row g x).length := by omega
    refine hag q d hC hdx ⟨hQ.mem, fun v hv => by rw [hdx]; exact hQ.top v hv, hQ.sort, fun v hv h0 hq _ u hu hadj => ?_⟩ hm2 hge
    by_cases hvx : v = x
    · subst hvx
      obtain ⟨i, hi, hie⟩ := hadj
      exact ⟨hp i (by omega) u hie, by rw [hdx]; exact hQ.top u hu⟩
    · exact hQ.done v hv h0 hq hvx u hu hadj

/-- what the search returns: the numbers are the steps from s -/
structure Dist (g : GR) (s : Nat) (d : List Int) : Prop where
  len : d.length = g.2.length
  lo : ∀ v, v < g.2.length → -1 ≤ D d v
  zero : ∀ v, v < g.2.length → (D d v = 0 ↔ v = s)
  near : ∀ v, v < g.2.length → 0 < D d v → ∃ u, u < g.2.length ∧ Adj g v u ∧ D d u = D d v - 1
  next : ∀ v, v < g.2.length → 0 ≤ D d v → ∀ u, u < g.2.length → Adj g v u → 0 ≤ D d u ∧ D d u ≤ D d v + 1
  hi : ∀ v, v < g.2.length → D d v ≤ (g.2.length : Int)

theorem search_loop {g : GR} (hV : VG g) {s : Nat} (d0 : List Int) (q0 : List Int) (hC : Core g s d0) (hQ : Qu g q0 d0 (match q0 with | [] => 2000 | y :: _ => at' d0 y + 1) (fun _ => True)) (hm : q0.length + cneg d0 ≤ g.2.length) :
    OK (Dist g s) (iter (graph_search_s1 2000 g) 2000 (q0, d0)) := by
  have h24 := hV.n24
  refine iter_ok (fun z : List Int × List Int => Core g s z.2 ∧ Qu g z.1 z.2 (match z.1 with | [] => 2000 | y :: _ => at' z.2 y + 1) (fun _ => True) ∧ z.1.length + cneg z.2 ≤ g.2.length) (fun z => z.1.length + cneg z.2) ?_ 2000 _ ⟨hC, hQ, hm⟩ (by dsimp only; omega)
  rintro ⟨q, d⟩ ag ⟨hC, hQ, hm⟩ hag
  dsimp only at hC hQ hm
  unfold graph_search_s1 graph_search_k2
  dsimp only
  cases q with
  | nil =>
    rw [if_neg (by simp)]
    exact ⟨d, rfl, hC.len, hC.lo, hC.zero, hC.near, fun v hv h0 u hu hadj => hQ.done v hv h0 (by simp) trivial u hu hadj, fun v hv => by have := hC.hi v hv; omega⟩
  | cons y rest =>
    obtain ⟨x, hx, rfl, hx0⟩ := hQ.mem y (List.mem_cons_self ..)
    have e0 : at' ((x : Int) :: rest) 0 = (x : Int) := rfl
    rw [if_pos (by simp only [List.length_cons]; omega), ckT (by simp only [List.length_cons]; omega), ckT (by simp only [List.length_cons]; omega), e0, ckT (by omega)]
    have hs := List.pairwise_cons.1 hQ.sort
    simp only [List.length_cons] at hm
    refine search_inner hV hx rest d ag _ hC hx0 ⟨fun z hz => hQ.mem z (List.mem_cons_of_mem _ hz), hQ.top, hs.2, fun v hv h0 hq hvx u hu hadj => hQ.done v hv h0 (fun h => ?_) trivial u hu hadj⟩ (by omega) (fun q' d' c1 c2 c3 c4 c5 => ?_) hs.1
    · rcases List.mem_cons.1 h with h | h
      · exact hvx (by omega)
      · exact hq h
    · refine hag (q', d') ⟨c1, ⟨c3.mem, fun v hv => ?_, c3.sort, c3.done⟩, by dsimp only; omega⟩ (by simp only [List.length_cons]; omega)
      dsimp only
      have ht := c3.top v hv
      cases q' with
      | nil =>
        dsimp only
        have := c1.hi x hx
        omega
      | cons z zs =>
        dsimp only
        have := c5 z (List.mem_cons_self ..)
        omega

theorem search_ok {g : GR} (hV : VG g) {s : Nat} (hs : s < g.2.length) : OK (Dist g s) (m_graph_search 2000 g (s : Int)) := by
  have h24 := hV.n24
  unfold m_graph_search
  rw [ckT (by omega)]
  refine iter_ok (fun z : Int × List Int => ∃ k : Nat, z.1 = k ∧ k ≤ g.2.length ∧ z.2.length = g.2.length ∧ ∀ v, v < k → D z.2 v = -1) (fun z => 31 - z.1.toNat) ?_ 2000 _ ⟨0, rfl, by omega, by simp, fun v hv => by omega⟩ (by simp)
  rintro ⟨z1, d⟩ ag ⟨k, hz, hk, hlen, hd⟩ hag
  dsimp only at hz hlen hd
  subst hz
  unfold graph_search_s3
  simp only [List.length_replicate, Int.toNat_natCast]
  by_cases hlt : k < g.2.length
  · rw [if_pos (by omega), ckT (by omega), wr (by omega) (by omega)]
    refine hag _ ⟨k + 1, by simp, by omega, by simp [hlen], fun v hv => ?_⟩ (by dsimp only; omega)
    show at' (d.set k (-1)) (v : Int) = -1
    rw [at_set _ _ _ _ (by omega)]
    split
    · rfl
    · exact hd v (by omega)
  · rw [if_neg (by omega)]
    unfold graph_search_k1
    rw [ckT (by omega)]
    have hd' : ∀ v, v < g.2.length → D d v = -1 := fun v hv => hd v (by omega)
    have hat : ∀ v, D (d.set s 0) v = if v = s then 0 else D d v := fun v => at_set _ _ _ _ (by omega)
    have hcn := cneg_set (x := 0) (by omega : s < d.length) (by rw [hd' s hs]; omega) (by omega)
    have hcl : cneg d ≤ d.length := List.countP_le_length ..
    refine search_loop hV _ _ ⟨by simp [hlen], fun v hv => ?_, fun v hv => ?_, fun v hv => ?_, fun v hv => ?_⟩ ⟨fun y hy => ?_, fun v hv => ?_, List.pairwise_singleton .., fun v hv h0 hq => ?_⟩ ?_
    · rw [Int.toNat_natCast, hat]; split
      · omega
      · rw [hd' v hv]; omega
    · rw [Int.toNat_natCast, hat]; split
      · rename_i h; exact ⟨fun _ => h, fun _ => rfl⟩
      · rename_i h; rw [hd' v hv]; exact ⟨fun h2 => by omega, fun h2 => absurd h2 h⟩
    · rw [Int.toNat_natCast, hat]; split
      · omega
      · rw [hd' v hv]; omega
    · rw [Int.toNat_natCast, hat]; split
      · omega
      · rw [hd' v hv]; omega
    · simp only [List.mem_singleton] at hy
      refine ⟨s, hs, hy, ?_⟩
      rw [Int.toNat_natCast, hat, if_pos rfl]; omega
    · rw [Int.toNat_natCast]
      have h2 : at' (d.set s 0) (s : Int) = 0 := (hat s).trans (if_pos rfl)
      show D (d.set s 0) v ≤ at' (d.set s 0) (s : Int) + 1
      rw [h2, hat]; split
      · omega
      · rw [hd' v hv]; omega
    · rw [Int.toNat_natCast, hat, if_neg (by rintro rfl; exact hq (by simp)), hd' v hv] at h0
      omega
    · rw [Int.toNat_natCast]
      simp only [List.length_singleton]
      omega
end Go.Proofs.Ytmajgimhmfeliaa
end
section
namespace Go.Proofs.Ytmajgimhmfeliaa
open Go.Sx
theorem distances_ok {g : GR} (hV : VG g) {s : Nat} (hs : s < g.2.length) : OK (Dist g s) (m_graph_Distances 2000 g (s : Int)) := by
  unfold m_graph_Distances graph_Distances_k1
  rw [(valid_eq g hV.light).1 hV, bindS rfl, if_neg (by simp), if_neg (by omega), decide_eq_false (by omega), if_neg (by simp)]
  obtain ⟨d, hd, hD⟩ := search_ok hV hs
  rw [hd]
  exact ⟨d, rfl, hD⟩

end Go.Proofs.Ytmajgimhmfeliaa
end
section
namespace Go.Proofs.Ytmajgimhmfeliaa
open Go.Sx
/-- k steps lead from s to v -/
def Walk (g : GR) (s : Nat) : Nat → Nat → Prop
  | 0, v => v = s ∧ s < g.2.length
  | k + 1, v => ∃ u, Walk g s k u ∧ Adj g u v

theorem Walk.lt {g : GR} (hV : VG g) {s : Nat} : ∀ {k v : Nat}, Walk g s k v → v < g.2.length
  | 0, _, h => by obtain ⟨rfl, h⟩ := h; exact h
  | _ + 1, _, h => by obtain ⟨u, h1, h2⟩ := h; exact hV.adj_lt (Walk.lt hV h1) h2

theorem Walk.trans {g : GR} {s t : Nat} {k : Nat} (h : Walk g s k t) : ∀ {m v : Nat}, Walk g t m v → Walk g s (k + m) v
  | 0, _, h2 => by obtain ⟨rfl, _⟩ := h2; exact h
  | _ + 1, _, h2 => by obtain ⟨u, h3, h4⟩ := h2; exact ⟨u, Walk.trans h h3, h4⟩

theorem Walk.rev {g : GR} (hV : VG g) {s : Nat} : ∀ {k v : Nat}, Walk g s k v → Walk g v k s
  | 0, _, h => by obtain ⟨rfl, h⟩ := h; exact ⟨rfl, h⟩
  | k + 1, v, h => by
    obtain ⟨u, h1, h2⟩ := h
    have hu := Walk.lt hV h1
    have h3 : Walk g v 1 u := ⟨v, ⟨rfl, hV.adj_lt hu h2⟩, hV.back hu h2⟩
    have := Walk.trans h3 (Walk.rev hV h1)
    rwa [Nat.add_comm] at this

theorem Dist.le {g : GR} (hV : VG g) {s : Nat} {d : List Int} (h : Dist g s d) : ∀ {k v : Nat}, Walk g s k v → 0 ≤ D d v ∧ D d v ≤ k
  | 0, v, hw => by
    obtain ⟨rfl, hs⟩ := hw
    have := (h.zero v hs).2 rfl
    omega
  | k + 1, v, hw => by
    obtain ⟨u, h1, h2⟩ := hw
    have hu := Walk.lt hV h1
    have h3 := Dist.le hV h h1
    have h4 := h.next u hu h3.1 v (hV.adj_lt hu h2) h2
    omega

theorem Dist.walk {g : GR} (hV : VG g) {s : Nat} {d : List Int} (h : Dist g s d) : ∀ (k v : Nat), v < g.2.length → D d v = k → Walk g s k v
  | 0, v, hv, he => by
    have := (h.zero v hv).1 he
    exact ⟨this, by omega⟩
  | k + 1, v, hv, he => by
    obtain ⟨u, hu, hadj, hd⟩ := h.near v hv (by omega)
    exact ⟨u, Dist.walk hV h k u hu (by omega), hV.back hv hadj⟩

theorem Dist.pos {g : GR} (hV : VG g) {s : Nat} {d : List Int} (h : Dist g s d) {v : Nat} (hv : v < g.2.length) (h0 : 0 ≤ D d v) : Walk g s (D d v).toNat v :=
  Dist.walk hV h _ v hv (by omega)

/-- distances are symmetric -/
theorem Dist.symm {g : GR} (hV : VG g) {s t : Nat} {d e : List Int} (h : Dist g s d) (h2 : Dist g t e) (hs : s < g.2.length) (ht : t < g.2.length) : D d t = D e s := by
  have h3 := h.lo t ht
  have h4 := h2.lo s hs
  by_cases a : 0 ≤ D d t
  · have w1 := Dist.le hV h2 (Walk.rev hV (Dist.pos hV h ht a))
    have w2 := Dist.le hV h (Walk.rev hV (Dist.pos hV h2 hs w1.1))
    omega
  · by_cases b : 0 ≤ D e s
    · have w2 := Dist.le hV h (Walk.rev hV (Dist.pos hV h2 hs b))
      omega
    · omega

end Go.Proofs.Ytmajgimhmfeliaa
end
section
namespace Go.Proofs.Ytmajgimhmfeliaa
open Go.Sx
/-- each node can be reached from each -/
def Conn (g : GR) : Prop := ∀ u v, u < g.2.length → v < g.2.length → ∃ k, Walk g u k v

theorem connected_eq {g : GR} (hV : VG g) : (Conn g → m_graph_Connected 2000 g = some true) ∧ (¬ Conn g → m_graph_Connected 2000 g = some false) := by
  have h1 := hV.n1
  have h24 := hV.n24
  unfold m_graph_Connected
  obtain ⟨d, hd, hD⟩ := search_ok hV (s := 0) (by omega)
  have hlen := hD.len
  rw [(valid_eq g hV.light).1 hV, bindS rfl, if_neg (by simp), show m_graph_search 2000 (g.1, g.2) 0 = some d from hd, bindS rfl]
  have key := iter_if (step := graph_Connected_s1 d) (K := some true) (bad := false) d.length (fun v => 0 ≤ D d v) (fun k ag hk hp => ?_) (fun k ag hk hp => ?_) (fun ag => ?_) 2000 (by omega)
  · have hiff : (∀ v, v < d.length → 0 ≤ D d v) ↔ Conn g := by
      constructor
      · intro h u v hu hv
        exact ⟨_, Walk.trans (Walk.rev hV (Dist.pos hV hD hu (h u (by omega)))) (Dist.pos hV hD hv (h v (by omega)))⟩
      · intro h v hv
        obtain ⟨k, hk⟩ := h 0 v (by omega) (by omega)
        exact (Dist.le hV hD hk).1
    exact ⟨fun h => key.1 (hiff.2 h), fun h => key.2 fun h2 => h (hiff.1 h2)⟩
  · unfold graph_Connected_s1
    rw [if_pos (by omega), ckT (by omega), if_neg (show ¬ D d k < 0 by omega), wr (by omega) (by omega)]
  · unfold graph_Connected_s1
    rw [if_pos (by omega), ckT (by omega), if_pos (show D d k < 0 by omega)]
  · unfold graph_Connected_s1 graph_Connected_k1
    rw [if_neg (by omega)]

/-- r is the eccentricity of s -/
def Ecc (g : GR) (s : Nat) (r : Int) : Prop := ∃ d, m_graph_search 2000 g (s : Int) = some d ∧ Dist g s d ∧ (∀ v, v < g.2.length → D d v ≤ r) ∧ ∃ v, v < g.2.length ∧ D d v = r

theorem Ecc.unique {g : GR} {s : Nat} {r r' : Int} (h : Ecc g s r) (h' : Ecc g s r') : r = r' := by
  obtain ⟨d, h1, _, h3, v, hv, hr⟩ := h
  obtain ⟨d', h1', _, h3', v', hv', hr'⟩ := h'
  rw [h1] at h1'
  cases h1'
  have := h3 v' hv'
  have := h3' v hv
  omega

theorem Ecc.pos {g : GR} {s : Nat} {r : Int} (hs : s < g.2.length) (h : Ecc g s r) : 0 ≤ r ∧ r ≤ (g.2.length : Int) := by
  obtain ⟨d, h1, h2, h3, v, hv, hr⟩ := h
  have := h3 s hs
  have := (h2.zero s hs).2 rfl
  have := h2.hi v hv
  omega

end Go.Proofs.Ytmajgimhmfeliaa
end
section
namespace Go.Proofs.Ytmajgimhmfeliaa
open Go.Sx
theorem portTo_eq (g : GR) (v : Nat) (u : Int) (hv : v < g.2.length) (hl : (row g v).length ≤ 30) : m_graph_PortTo 2000 g v u = some (portOf (row g v) u) := by
  unfold m_graph_PortTo
  rw [ckT (by omega)]
  rcases portOf_cases (row g v) u with ⟨i, hi, hu, hf, he⟩ | ⟨hf, he⟩
  · rw [he]
    refine iter_eq (fun x : Int => ∃ k : Nat, x = k ∧ k ≤ i) (fun x => 31 - x.toNat) ?_ 2000 _ ⟨0, rfl, by omega⟩ (by omega)
    rintro x ag ⟨k, rfl, hk⟩ hag
    unfold graph_PortTo_s1
    rw [if_pos (show (k : Int) < ((row g v).length : Int) by omega), ckT (show 0 ≤ (k : Int) ∧ (k : Int) < ((row g v).length : Int) by omega)]
    by_cases e : k = i
    · subst e; exact if_pos hu
    · rw [if_neg (hf k (by omega)), wr (by omega) (by omega)]
      exact hag _ ⟨k + 1, by omega, by omega⟩ (by omega)
  · rw [he]
    refine iter_eq (fun x : Int => ∃ k : Nat, x = k ∧ k ≤ (row g v).length) (fun x => 31 - x.toNat) ?_ 2000 _ ⟨0, rfl, by omega⟩ (by omega)
    rintro x ag ⟨k, rfl, hk⟩ hag
    unfold graph_PortTo_s1
    by_cases e : k < (row g v).length
    · rw [if_pos (show (k : Int) < ((row g v).length : Int) by omega), ckT (show 0 ≤ (k : Int) ∧ (k : Int) < ((row g v).length : Int) by omega), if_neg (hf k e), wr (by omega) (by omega)]
      exact hag _ ⟨k + 1, by omega, by omega⟩ (by omega)
    · rw [if_neg (show ¬ (k : Int) < ((row g v).length : Int) by omega)]; rfl

end Go.Proofs.Ytmajgimhmfeliaa
end
section
namespace Go.Proofs.Ytmajgimhmfeliaa
open Go.Sx
open Classical in
noncomputable def ind (p : Prop) : Nat := if p then 1 else 0
end Go.Proofs.Ytmajgimhmfeliaa
end
section
namespace Go.Proofs.Ytmajgimhmfeliaa
open Go.Sx
theorem wrapU (a : Nat) (h : a < 4294967296) : IntKind.u32.wrap (a : Int) = a := by rw [← wI_eq]; exact if_pos ⟨by omega, by omega⟩

def N32 (x : Int) : Nat := (BitVec.ofInt 32 x).toNat
theorem N32_lt (x : Int) : N32 x < 4294967296 := (BitVec.ofInt 32 x).isLt
theorem N32_nat {a : Nat} (h : a < 4294967296) : N32 (a : Int) = a := by
  unfold N32; rw [BitVec.ofInt_natCast, BitVec.toNat_ofNat]; exact Nat.mod_eq_of_lt h

theorem bOr_eq (x y : Int) : bOr .u32 x y = ((N32 x ||| N32 y : Nat) : Int) := by
  show IntKind.u32.wrap (((BitVec.ofInt 32 x ||| BitVec.ofInt 32 y).toNat : Nat) : Int) = _
  rw [BitVec.toNat_or]
  exact wrapU _ (Nat.or_lt_two_pow (n := 32) (N32_lt x) (N32_lt y))
theorem pow32 {k : Nat} (hk : k < 32) : 2 ^ k < 4294967296 := Nat.pow_lt_pow_right (n := 32) (by omega) hk
theorem bShl1 {k : Nat} (hk : k < 32) : bShl .u32 1 (k : Int) = ((2 ^ k : Nat) : Int) := by
  show IntKind.u32.wrap (1 * 2 ^ (min ((k : Int).toNat) 32)) = _
  rw [Int.toNat_natCast, Nat.min_eq_left (by omega), Int.one_mul, show (2 : Int) ^ k = ((2 ^ k : Nat) : Int) by simp]
  exact wrapU _ (pow32 hk)
/-- a set of nodes without neighbours in it -/
def Indep (g : GR) (s : Nat) : Prop := (∀ v, s.testBit v = true → v < g.2.length) ∧ ∀ v u, s.testBit v = true → s.testBit u = true → ¬ Adj g v u

end Go.Proofs.Ytmajgimhmfeliaa
end
section
namespace Go.Proofs.Ytmajgimhmfeliaa
open Go.Sx
theorem Dist.lt {g : GR} {s : Nat} {d : List Int} (h : Dist g s d) {v : Nat} (hv : v < g.2.length) : D d v < (g.2.length : Int) := by
  apply Classical.byContradiction
  intro hc
  have all : ∀ m : Nat, (m : Int) ≤ D d v → ∃ w, w < g.2.length ∧ D d w = D d v - m := by
    intro m
    induction m with
    | zero => intro _; exact ⟨v, hv, by omega⟩
    | succ m ih =>
      intro hm
      obtain ⟨w, hw, he⟩ := ih (by omega)
      obtain ⟨u, hu, _, hue⟩ := h.near w hw (by omega)
      exact ⟨u, hu, by omega⟩
  have ex : ∀ i : Nat, i < g.2.length + 1 → ∃ w, w < g.2.length ∧ D d w = (i : Int) := by
    intro i hi
    obtain ⟨w, hw, he⟩ := all (D d v - i).toNat (by omega)
    exact ⟨w, hw, by omega⟩
  have := pigeon g.2.length (fun i => if hi : i < g.2.length + 1 then Classical.choose (ex i hi) else 0) (g.2.length + 1) (fun i hi => by
    rw [dif_pos hi]; exact (Classical.choose_spec (ex i hi)).1) (fun i j hij hj he => by
    rw [dif_pos (by omega), dif_pos hj] at he
    have h1 := (Classical.choose_spec (ex i (by omega))).2
    have h2 := (Classical.choose_spec (ex j hj)).2
    rw [he] at h1
    omega)
  omega

/-- what the reference knows in round k before node v -/
def T (e : List Int) (k v w : Nat) : Int := if 0 ≤ D e w ∧ (D e w < k ∨ (D e w = k ∧ w < v)) then D e w else -1

theorem list_ext {d e : List Int} (hl : d.length = e.length) (h : ∀ v, v < d.length → D d v = D e v) : d = e := by
  apply List.ext_getElem hl
  intro i h1 h2
  rw [← D_getElem h1, ← D_getElem h2]
  exact h i h1

end Go.Proofs.Ytmajgimhmfeliaa
end
section
namespace Go.Proofs.Ytmajgimhmfeliaa
open Go.Sx
theorem conn_iff {g : GR} (hV : VG g) {s : Nat} (hs : s < g.2.length) {d : List Int} (hD : Dist g s d) : (∀ v, v < d.length → 0 ≤ D d v) ↔ Conn g := by
  have hlen := hD.len
  constructor
  · intro h u v hu hv
    exact ⟨_, Walk.trans (Walk.rev hV (Dist.pos hV hD hu (h u (by omega)))) (Dist.pos hV hD hv (h v (by omega)))⟩
  · intro h v hv
    obtain ⟨k, hk⟩ := h s v hs (by omega)
    exact (Dist.le hV hD hk).1

end Go.Proofs.Ytmajgimhmfeliaa
end
end
section
set_option linter.unusedVariables false
set_option linter.unusedSimpArgs false
namespace Go.Proofs.Ytmajgimhmfeliaa
open Go.Sx
set_option linter.unusedVariables false
set_option linter.unusedSimpArgs false
def labels_known_k1  (a2 : Bool) : Option (Bool) :=
  some (a2)
def m_labels_known (fuel : Nat) (p0 : Int) : Option (Bool) :=
  if (1 : Int) ≤ p0 then (labels_known_k1  (decide (p0 ≤ (4 : Int)))) else (labels_known_k1  (false))

theorem body30 : HasBody Try.prog 30 := Try.call30

set_option maxHeartbeats 4000000 in
set_option maxRecDepth 20000 in
theorem t_labels_known (fuel : Nat) {p0 : Int} (r : Bool) (h : m_labels_known fuel p0 = some r) :
    Meets Try.prog 30 #[Value.int .i64 (p0)] [] (fun x : Unit => Value.bool (r)) (fun x l => l) (fun _ l => l) := by
  refine Meets.of (vs := [Value.int .i64 (p0)]) Try.func30 rfl Try.ntmps30 rfl fun c => ?_
  unfold m_labels_known at h
  refine J.seq ?_
  refine J.region ?_
  refine J.quiet (Y.assign rfl) rfl ?_
  refine J.done ?_
  refine J.thenN ?_
  refine J.seq ?_
  refine J.midI (A := Bool) (B := Unit) (fun a2 => labels_known_k1  a2 = some r) (fun a2 b3 => [(2, Value.bool (a2))]) (fun a2 b3 => []) (fun a2 b3 => []) ?_ ?_
  · refine J.region ?_
    refine J.quiet (Y.move rfl) rfl ?_
    refine J.quiet (Y.geq rfl rfl) rfl ?_
    refine J.quiet (Y.move rfl) rfl ?_
    refine J.guardD (by exact rfl) (by exact rfl) (fun hp4 => ?_) (fun hp4 => ?_)
    · replace h := ifP hp4 h
      refine J.guardY rfl (Y.move rfl) rfl ?_
      refine J.guardY rfl (Y.leq rfl rfl) rfl ?_
      refine J.quiet (Y.pickT rfl rfl) rfl ?_
      refine J.quiet (Y.assign rfl) rfl ?_
      refine J.done ?_
      refine J.thenN ?_
      exact J.meetI (decide (p0 ≤ (4 : Int))) (()) h (by repeat (first | exact SubF.nil | refine SubF.cons rfl ?_)) (SubM.refl _) (LentAll.refl _ _)
    · replace h := ifN hp4 h
      refine J.guardN rfl rfl rfl ?_
      refine J.guardN rfl rfl rfl ?_
      refine J.quiet (Y.pickF rfl rfl) rfl ?_
      refine J.quiet (Y.assign rfl) rfl ?_
      refine J.done ?_
      refine J.thenN ?_
      exact J.meetI (false) (()) h (by repeat (first | exact SubF.nil | refine SubF.cons rfl ?_)) (SubM.refl _) (LentAll.refl _ _)
  · clear h
    intro a2 b3 h
    unfold labels_known_k1 at h
    refine J.ret ?_
    obtain rfl := Option.some.inj h
    exact J.retG1 (()) rfl rfl (RV.tmp rfl) (SubM.refl _) LentAll.nil

end Go.Proofs.Ytmajgimhmfeliaa
end
section
set_option linter.unusedVariables false
set_option linter.unusedSimpArgs false
namespace Go.Proofs.Ytmajgimhmfeliaa
open Go.Sx
set_option linter.unusedVariables false
set_option linter.unusedSimpArgs false
def labels_number_k2  (a7 : Bool) : Option (Bool) :=
  some (a7)
def labels_number_k3  (a13 : Bool) : Option (Bool) :=
  some (a13)
def labels_number_k1 (p0 : Int) (p1 : List (Int) × (List (List (Int × Int)))) (p2 : Int) (p3 : Int) (a3 : Bool) : Option (Bool) :=
  if a3 = true then (if (-1 : Int) ≤ p3 then (ck (0 ≤ p2 ∧ p2 < (List.length p1.2 : Int)) (labels_number_k2  (decide (p3 < (List.length (at' p1.2 p2) : Int))))) else (labels_number_k2  (false))) else (if p0 = (2 : Int) then (if p3 = (0 : Int) then (labels_number_k3  (true)) else (labels_number_k3  (decide (p3 = (1 : Int))))) else (some (decide (p3 = (0 : Int)))))
def m_labels_number (fuel : Nat) (p0 : Int) (p1 : List (Int) × (List (List (Int × Int)))) (p2 : Int) (p3 : Int) : Option (Bool) :=
  if p0 = (1 : Int) then (labels_number_k1 p0 p1 p2 p3 (decide (p0 = (1 : Int)))) else (labels_number_k1 p0 p1 p2 p3 (decide (p0 = (4 : Int))))

theorem body46 : HasBody Try.prog 46 := Try.call46

set_option maxHeartbeats 4000000 in
set_option maxRecDepth 20000 in
theorem t_labels_number (fuel : Nat) {p0 : Int} {p1 : List (Int) × (List (List (Int × Int)))} {p2 : Int} {p3 : Int} (v0 : Value)  (v1 : Value)  (z2 : List (Value × List (Int × Int))) (r : Bool) (h : m_labels_number fuel p0 p1 p2 p3 = some r) :
    Meets Try.prog 46 #[Value.int .i64 (p0), Value.agg #[v0, v1], Value.int .i64 (p2), Value.int .i64 (p3)] [Sl RI64 v0 p1.1, S2 RI64I64p v1 z2 p1.2] (fun x : Unit => Value.bool (r)) (fun x l => l) (fun _ l => l) := by
  refine Meets.of (vs := [Value.int .i64 (p0), Value.agg #[v0, v1], Value.int .i64 (p2), Value.int .i64 (p3)]) Try.func46 rfl Try.ntmps46 rfl fun c => ?_
  unfold m_labels_number at h
  refine J.seq ?_
  refine J.region ?_
  refine J.loud (Loud.box (cs := [v0, v1]) rfl rfl) rfl fun b1 => ?_
  refine J.quiet (Y.assign rfl) rfl ?_
  refine J.done ?_
  refine J.thenN ?_
  refine J.seq ?_
  refine J.seq ?_
  refine J.region ?_
  refine J.quiet (Y.move rfl) rfl ?_
  refine J.done ?_
  refine J.thenN ?_
  refine J.block ?_
  refine J.seq ?_
  refine J.midI (A := Bool) (B := Unit) (fun a3 => labels_number_k1 p0 p1 p2 p3 a3 = some r) (fun a3 b4 => [(2, Value.int .i64 (p2)), (3, Value.int .i64 (p3)), (5, Value.pointer (some ⟨b1, 0, none⟩)), (9, Value.int .i64 (p0)), (10, Value.bool (a3))]) (fun a3 b4 => [Blk b1 [v0, v1] 29]) (fun a3 b4 => [Sl RI64 v0 p1.1, S2 RI64I64p v1 z2 p1.2]) ?_ ?_
  · refine J.seq ?_
    refine J.region ?_
    refine J.quiet (Y.eql rfl rfl) rfl ?_
    refine J.quiet (Y.assign rfl) rfl ?_
    refine J.done ?_
    refine J.thenN ?_
    refine J.condD (by exact rfl) (fun hp16 => ?_) (fun hp16 => ?_)
    · replace h := ifP hp16 h
      refine J.skip ?_
      refine J.thenN ?_
      exact J.meetI (decide (p0 = (1 : Int))) (()) h (by repeat (first | exact SubF.nil | refine SubF.cons rfl ?_)) (SubM.refl _) (LentAll.refl _ _)
    · replace h := ifN hp16 h
      refine J.region ?_
      refine J.quiet (Y.eql rfl rfl) rfl ?_
      refine J.quiet (Y.assign rfl) rfl ?_
      refine J.done ?_
      refine J.thenN ?_
      exact J.meetI (decide (p0 = (4 : Int))) (()) h (by repeat (first | exact SubF.nil | refine SubF.cons rfl ?_)) (SubM.refl _) (LentAll.refl _ _)
  · clear h
    intro a3 b4 h
    unfold labels_number_k1 at h
    refine J.cond (by exact rfl) (fun hp5 => ?_) (fun hp5 => ?_)
    · replace h := ifP hp5 h
      refine J.seq ?_
      refine J.midI (A := Bool) (B := Unit) (fun a7 => labels_number_k2  a7 = some r) (fun a7 b8 => [(8, Value.bool (a7))]) (fun a7 b8 => []) (fun a7 b8 => [Sl RI64 v0 p1.1, S2 RI64I64p v1 z2 p1.2]) ?_ ?_
      · refine J.region ?_
        refine J.quiet (Y.move rfl) rfl ?_
        refine J.quiet (Y.geq rfl rfl) rfl ?_
        refine J.quiet (Y.move rfl) rfl ?_
        refine J.guardD (by exact rfl) (by exact rfl) (fun hp9 => ?_) (fun hp9 => ?_)
        · replace h := ifP hp9 h
          refine J.guardY rfl (Y.move rfl) rfl ?_
          refine J.guardY rfl (Y.fieldB rfl rfl rfl rfl rfl) rfl ?_
          refine J.guardY rfl (Y.loadB 0 rfl rfl rfl rfl rfl) rfl ?_
          refine J.guardY rfl (Y.move rfl) rfl ?_
          replace h := ck_some h; obtain ⟨hc10, h⟩ := h
          refine J.guardY rfl (Y.indexN rfl rfl (Lent.fact 1 rfl) rfl rfl hc10) rfl ?_
          refine J.guardY rfl (Y.loadRow rfl (Lent.fact 1 rfl) rfl rfl hc10) rfl ?_
          refine J.guardY rfl (Y.lenS rfl (Lent.el (Lent.fact 1 rfl) hc10.1 hc10.2) rfl) rfl ?_
          refine J.guardY rfl (Y.lss rfl rfl) rfl ?_
          refine J.quiet (Y.pickT rfl rfl) rfl ?_
          refine J.quiet (Y.assign rfl) rfl ?_
          refine J.done ?_
          refine J.thenN ?_
          exact J.meetI (decide (p3 < (List.length (at' p1.2 p2) : Int))) (()) h (by repeat (first | exact SubF.nil | refine SubF.cons rfl ?_)) (SubM.nil) (LentAll.refl _ _)
        · replace h := ifN hp9 h
          refine J.guardN rfl rfl rfl ?_
          refine J.guardN rfl rfl rfl ?_
          refine J.guardN rfl rfl rfl ?_
          refine J.guardN rfl rfl rfl ?_
          refine J.guardN rfl rfl rfl ?_
          refine J.guardN rfl rfl rfl ?_
          refine J.guardN rfl rfl rfl ?_
          refine J.guardN rfl rfl rfl ?_
          refine J.quiet (Y.pickF rfl rfl) rfl ?_
          refine J.quiet (Y.assign rfl) rfl ?_
          refine J.done ?_
          refine J.thenN ?_
          exact J.meetI (false) (()) h (by repeat (first | exact SubF.nil | refine SubF.cons rfl ?_)) (SubM.nil) (LentAll.refl _ _)
      · clear h
        intro a7 b8 h
        unfold labels_number_k2 at h
        refine J.ret ?_
        refine J.inR ?_
        refine J.thenR ?_
        obtain rfl := Option.some.inj h
        exact J.retG1 (()) rfl rfl (RV.tmp rfl) (SubM.refl _) LentAll.nil
    · replace h := ifBN hp5 h
      refine J.seq ?_
      refine J.region ?_
      refine J.quiet (Y.eql rfl rfl) rfl ?_
      refine J.quiet (Y.assign rfl) rfl ?_
      refine J.done ?_
      refine J.thenN ?_
      refine J.condD (by exact rfl) (fun hp11 => ?_) (fun hp11 => ?_)
      · replace h := ifP hp11 h
        refine J.seq ?_
        refine J.midI (A := Bool) (B := Unit) (fun a13 => labels_number_k3  a13 = some r) (fun a13 b14 => [(8, Value.bool (a13))]) (fun a13 b14 => []) (fun a13 b14 => [Sl RI64 v0 p1.1, S2 RI64I64p v1 z2 p1.2]) ?_ ?_
        · refine J.region ?_
          refine J.quiet (Y.move rfl) rfl ?_
          refine J.quiet (Y.eql rfl rfl) rfl ?_
          refine J.quiet (Y.move rfl) rfl ?_
          refine J.guardD (by exact rfl) (by exact rfl) (fun hp15 => ?_) (fun hp15 => ?_)
          · replace h := ifP hp15 h
            refine J.guardN rfl rfl rfl ?_
            refine J.guardN rfl rfl rfl ?_
            refine J.quiet (Y.pickT rfl rfl) rfl ?_
            refine J.quiet (Y.assign rfl) rfl ?_
            refine J.done ?_
            refine J.thenN ?_
            exact J.meetI (true) (()) h (by repeat (first | exact SubF.nil | refine SubF.cons rfl ?_)) (SubM.nil) (LentAll.refl _ _)
          · replace h := ifN hp15 h
            refine J.guardY rfl (Y.move rfl) rfl ?_
            refine J.guardY rfl (Y.eql rfl rfl) rfl ?_
            refine J.quiet (Y.pickF rfl rfl) rfl ?_
            refine J.quiet (Y.assign rfl) rfl ?_
            refine J.done ?_
            refine J.thenN ?_
            exact J.meetI (decide (p3 = (1 : Int))) (()) h (by repeat (first | exact SubF.nil | refine SubF.cons rfl ?_)) (SubM.nil) (LentAll.refl _ _)
        · clear h
          intro a13 b14 h
          unfold labels_number_k3 at h
          refine J.ret ?_
          refine J.inR ?_
          refine J.thenR ?_
          obtain rfl := Option.some.inj h
          exact J.retG1 (()) rfl rfl (RV.tmp rfl) (SubM.refl _) LentAll.nil
      · replace h := ifN hp11 h
        refine J.skip ?_
        refine J.inN ?_
        refine J.thenN ?_
        refine J.seq ?_
        refine J.region ?_
        refine J.quiet (Y.move rfl) rfl ?_
        refine J.quiet (Y.eql rfl rfl) rfl ?_
        refine J.quiet (Y.assign rfl) rfl ?_
        refine J.done ?_
        refine J.thenN ?_
        refine J.ret ?_
        obtain rfl := Option.some.inj h
        exact J.retG1 (()) rfl rfl (RV.tmp rfl) (SubM.nil) LentAll.nil

end Go.Proofs.Ytmajgimhmfeliaa
end
section
set_option linter.unusedVariables false
set_option linter.unusedSimpArgs false
namespace Go.Proofs.Ytmajgimhmfeliaa
open Go.Sx
set_option linter.unusedVariables false
set_option linter.unusedSimpArgs false
def m_labels_accepts_3 (fuel : Nat) (p0 : Int × Int) (p1 : Int) : Option (Bool) :=
  some (decide (p0.1 = p1))

theorem body68 : HasBody Try.prog 68 := Try.call68

set_option maxHeartbeats 4000000 in
set_option maxRecDepth 20000 in
theorem t_labels_accepts_3 (fuel : Nat) {p0 : Int × Int} {p1 : Int} (bx0 : Nat) (r : Bool) (h : m_labels_accepts_3 fuel p0 p1 = some r) :
    Meets Try.prog 68 #[Value.agg #[Value.int .i64 (p0.1), Value.int .i64 (p0.2)], Value.pointer (some ⟨bx0, 0, none⟩)] [Blk bx0 [Value.int .i64 (p1)] 3] (fun x : Unit => Value.bool (r)) (fun x l => l) (fun _ l => l) := by
  refine Meets.of (vs := [Value.agg #[Value.int .i64 (p0.1), Value.int .i64 (p0.2)], Value.pointer (some ⟨bx0, 0, none⟩)]) Try.func68 rfl Try.ntmps68 rfl fun c => ?_
  unfold m_labels_accepts_3 at h
  refine J.seq ?_
  refine J.region ?_
  refine J.loud (Loud.box (cs := [Value.int .i64 (p0.1), Value.int .i64 (p0.2)]) rfl rfl) rfl fun b1 => ?_
  refine J.quiet (Y.assign rfl) rfl ?_
  refine J.done ?_
  refine J.thenN ?_
  refine J.seq ?_
  refine J.region ?_
  refine J.quiet (Y.indexArr (i := 0) rfl rfl rfl rfl rfl (by decide)) rfl ?_
  refine J.quiet (Y.loadB 0 rfl rfl rfl rfl rfl) rfl ?_
  refine J.quiet (Y.loadBS rfl (Lent.fact 0 rfl) rfl rfl rfl) rfl ?_
  refine J.quiet (Y.eql rfl rfl) rfl ?_
  refine J.quiet (Y.assign rfl) rfl ?_
  refine J.done ?_
  refine J.thenN ?_
  refine J.ret ?_
  obtain rfl := Option.some.inj h
  exact J.retG1 (()) rfl rfl (RV.tmp rfl) (SubM.nil) LentAll.nil

end Go.Proofs.Ytmajgimhmfeliaa
end
section
set_option linter.unusedVariables false
set_option linter.unusedSimpArgs false
namespace Go.Proofs.Ytmajgimhmfeliaa
open Go.Sx
set_option linter.unusedVariables false
set_option linter.unusedSimpArgs false
def m_labels_accepts_4 (fuel : Nat) (p0 : Int × Int) (p1 : Int) : Option (Bool) :=
  some (decide (p0.2 = (wI .i64 (p1 - (1 : Int)))))

theorem body69 : HasBody Try.prog 69 := Try.call69

set_option maxHeartbeats 4000000 in
set_option maxRecDepth 20000 in
theorem t_labels_accepts_4 (fuel : Nat) {p0 : Int × Int} {p1 : Int} (bx0 : Nat) (r : Bool) (h : m_labels_accepts_4 fuel p0 p1 = some r) :
    Meets Try.prog 69 #[Value.agg #[Value.int .i64 (p0.1), Value.int .i64 (p0.2)], Value.pointer (some ⟨bx0, 0, none⟩)] [Blk bx0 [Value.int .i64 (p1)] 3] (fun x : Unit => Value.bool (r)) (fun x l => l) (fun _ l => l) := by
  refine Meets.of (vs := [Value.agg #[Value.int .i64 (p0.1), Value.int .i64 (p0.2)], Value.pointer (some ⟨bx0, 0, none⟩)]) Try.func69 rfl Try.ntmps69 rfl fun c => ?_
  unfold m_labels_accepts_4 at h
  refine J.seq ?_
  refine J.region ?_
  refine J.loud (Loud.box (cs := [Value.int .i64 (p0.1), Value.int .i64 (p0.2)]) rfl rfl) rfl fun b1 => ?_
  refine J.quiet (Y.assign rfl) rfl ?_
  refine J.done ?_
  refine J.thenN ?_
  refine J.seq ?_
  refine J.region ?_
  refine J.quiet (Y.indexArr (i := 1) rfl rfl rfl rfl rfl (by decide)) rfl ?_
  refine J.quiet (Y.loadB 0 rfl rfl rfl rfl rfl) rfl ?_
  refine J.quiet (Y.loadBS rfl (Lent.fact 0 rfl) rfl rfl rfl) rfl ?_
  refine J.quiet (Y.subW rfl rfl) rfl ?_
  refine J.quiet (Y.eql rfl rfl) rfl ?_
  refine J.quiet (Y.assign rfl) rfl ?_
  refine J.done ?_
  refine J.thenN ?_
  refine J.ret ?_
  obtain rfl := Option.some.inj h
  exact J.retG1 (()) rfl rfl (RV.tmp rfl) (SubM.nil) LentAll.nil

end Go.Proofs.Ytmajgimhmfeliaa
end
section
set_option linter.unusedVariables false
set_option linter.unusedSimpArgs false
namespace Go.Proofs.Ytmajgimhmfeliaa
open Go.Sx
set_option linter.unusedVariables false
set_option linter.unusedSimpArgs false
def m_labels_accepts_5 (fuel : Nat) (p0 : Int × Int) (p1 : Int) : Option (Bool) :=
  some (decide (p0.1 = (wI .i64 ((1 : Int) - p1))))

theorem body70 : HasBody Try.prog 70 := Try.call70

set_option maxHeartbeats 4000000 in
set_option maxRecDepth 20000 in
theorem t_labels_accepts_5 (fuel : Nat) {p0 : Int × Int} {p1 : Int} (bx0 : Nat) (r : Bool) (h : m_labels_accepts_5 fuel p0 p1 = some r) :
    Meets Try.prog 70 #[Value.agg #[Value.int .i64 (p0.1), Value.int .i64 (p0.2)], Value.pointer (some ⟨bx0, 0, none⟩)] [Blk bx0 [Value.int .i64 (p1)] 3] (fun x : Unit => Value.bool (r)) (fun x l => l) (fun _ l => l) := by
  refine Meets.of (vs := [Value.agg #[Value.int .i64 (p0.1), Value.int .i64 (p0.2)], Value.pointer (some ⟨bx0, 0, none⟩)]) Try.func70 rfl Try.ntmps70 rfl fun c => ?_
  unfold m_labels_accepts_5 at h
  refine J.seq ?_
  refine J.region ?_
  refine J.loud (Loud.box (cs := [Value.int .i64 (p0.1), Value.int .i64 (p0.2)]) rfl rfl) rfl fun b1 => ?_
  refine J.quiet (Y.assign rfl) rfl ?_
  refine J.done ?_
  refine J.thenN ?_
  refine J.seq ?_
  refine J.region ?_
  refine J.quiet (Y.indexArr (i := 0) rfl rfl rfl rfl rfl (by decide)) rfl ?_
  refine J.quiet (Y.loadB 0 rfl rfl rfl rfl rfl) rfl ?_
  refine J.quiet (Y.loadBS rfl (Lent.fact 0 rfl) rfl rfl rfl) rfl ?_
  refine J.quiet (Y.subW rfl rfl) rfl ?_
  refine J.quiet (Y.eql rfl rfl) rfl ?_
  refine J.quiet (Y.assign rfl) rfl ?_
  refine J.done ?_
  refine J.thenN ?_
  refine J.ret ?_
  obtain rfl := Option.some.inj h
  exact J.retG1 (()) rfl rfl (RV.tmp rfl) (SubM.nil) LentAll.nil

end Go.Proofs.Ytmajgimhmfeliaa
end
section
set_option linter.unusedVariables false
set_option linter.unusedSimpArgs false
namespace Go.Proofs.Ytmajgimhmfeliaa
open Go.Sx
set_option linter.unusedVariables false
set_option linter.unusedSimpArgs false
def labels_accepts_6_k1  (a3 : Bool) : Option (Bool) :=
  some (a3)
def m_labels_accepts_6 (fuel : Nat) (p0 : Int × Int) (p1 : Int) : Option (Bool) :=
  if p1 = (1 : Int) then (labels_accepts_6_k1  (true)) else (labels_accepts_6_k1  (decide (p0.1 = (1 : Int))))

theorem body71 : HasBody Try.prog 71 := Try.call71

set_option maxHeartbeats 4000000 in
set_option maxRecDepth 20000 in
theorem t_labels_accepts_6 (fuel : Nat) {p0 : Int × Int} {p1 : Int} (bx0 : Nat) (r : Bool) (h : m_labels_accepts_6 fuel p0 p1 = some r) :
    Meets Try.prog 71 #[Value.agg #[Value.int .i64 (p0.1), Value.int .i64 (p0.2)], Value.pointer (some ⟨bx0, 0, none⟩)] [Blk bx0 [Value.int .i64 (p1)] 3] (fun x : Unit => Value.bool (r)) (fun x l => l) (fun _ l => l) := by
  refine Meets.of (vs := [Value.agg #[Value.int .i64 (p0.1), Value.int .i64 (p0.2)], Value.pointer (some ⟨bx0, 0, none⟩)]) Try.func71 rfl Try.ntmps71 rfl fun c => ?_
  unfold m_labels_accepts_6 at h
  refine J.seq ?_
  refine J.region ?_
  refine J.loud (Loud.box (cs := [Value.int .i64 (p0.1), Value.int .i64 (p0.2)]) rfl rfl) rfl fun b1 => ?_
  refine J.quiet (Y.assign rfl) rfl ?_
  refine J.done ?_
  refine J.thenN ?_
  refine J.seq ?_
  refine J.midI (A := Bool) (B := Unit) (fun a3 => labels_accepts_6_k1  a3 = some r) (fun a3 b4 => [(3, Value.bool (a3))]) (fun a3 b4 => []) (fun a3 b4 => [Blk bx0 [Value.int .i64 (p1)] 3]) ?_ ?_
  · refine J.region ?_
    refine J.quiet (Y.loadBS rfl (Lent.fact 0 rfl) rfl rfl rfl) rfl ?_
    refine J.quiet (Y.eql rfl rfl) rfl ?_
    refine J.quiet (Y.move rfl) rfl ?_
    refine J.guardD (by exact rfl) (by exact rfl) (fun hp5 => ?_) (fun hp5 => ?_)
    · replace h := ifP hp5 h
      refine J.guardN rfl rfl rfl ?_
      refine J.guardN rfl rfl rfl ?_
      refine J.guardN rfl rfl rfl ?_
      refine J.quiet (Y.pickT rfl rfl) rfl ?_
      refine J.quiet (Y.assign rfl) rfl ?_
      refine J.done ?_
      refine J.thenN ?_
      exact J.meetI (true) (()) h (by repeat (first | exact SubF.nil | refine SubF.cons rfl ?_)) (SubM.nil) (LentAll.refl _ _)
    · replace h := ifN hp5 h
      refine J.guardY rfl (Y.indexArr (i := 0) rfl rfl rfl rfl rfl (by decide)) rfl ?_
      refine J.guardY rfl (Y.loadB 0 rfl rfl rfl rfl rfl) rfl ?_
      refine J.guardY rfl (Y.eql rfl rfl) rfl ?_
      refine J.quiet (Y.pickF rfl rfl) rfl ?_
      refine J.quiet (Y.assign rfl) rfl ?_
      refine J.done ?_
      refine J.thenN ?_
      exact J.meetI (decide (p0.1 = (1 : Int))) (()) h (by repeat (first | exact SubF.nil | refine SubF.cons rfl ?_)) (SubM.nil) (LentAll.refl _ _)
  · clear h
    intro a3 b4 h
    unfold labels_accepts_6_k1 at h
    refine J.ret ?_
    obtain rfl := Option.some.inj h
    exact J.retG1 (()) rfl rfl (RV.tmp rfl) (SubM.refl _) LentAll.nil

end Go.Proofs.Ytmajgimhmfeliaa
end
