/- The model of graph.symmetric and the proof that the function meets it, by program (gen/xt.py). Conditions: none. -/
import Derived.Test.YtemhmmcakmidkaaXp
namespace Go.Proofs.Ytemhmmcakmidkaa
open Go.Sx
set_option linter.unusedVariables false
set_option linter.unusedSimpArgs false

def graph_symmetric_s1 (a3 : (List ((Int × Int) × Int))) (kv6 : (Int × Int) × Int) (xa9 : Option (Bool)) : Option (Bool) :=
  if (Option.getD (mget (kv6.1.2, kv6.1.1) a3) (0 : Int)) ≠ kv6.2 then (some (false)) else (xa9)
def graph_symmetric_k1  (a3 : (List ((Int × Int) × Int))) : Option (Bool) :=
  mrun (graph_symmetric_s1 a3) (some (true)) a3
def graph_symmetric_k2 (a17 : Int × (List ((Int × Int) × Int))) (ag16 : (Int × (List ((Int × Int) × Int))) → Option (Bool)) (a22 : (List ((Int × Int) × Int))) : Option (Bool) :=
  ag16 ((wI .i64 (a17.1 + (1 : Int))), a22)
def graph_symmetric_k4 (p0 : List (List (Int × Int))) (a17 : Int × (List ((Int × Int) × Int))) (a28 : Int × (List ((Int × Int) × Int))) (ag27 : (Int × (List ((Int × Int) × Int))) → Option (Bool)) (a39 : Bool) : Option (Bool) :=
  if a39 = true then (some (false)) else (if (Option.isSome (mget (a17.1, ((at' (at' p0 a17.1) a28.1).1)) a28.2)) = true then (some (false)) else (ag27 ((wI .i64 (a28.1 + (1 : Int))), (mset (a17.1, ((at' (at' p0 a17.1) a28.1).1)) ((at' (at' p0 a17.1) a28.1).2) a28.2))))
def graph_symmetric_k3 (p0 : List (List (Int × Int))) (a17 : Int × (List ((Int × Int) × Int))) (a28 : Int × (List ((Int × Int) × Int))) (ag27 : (Int × (List ((Int × Int) × Int))) → Option (Bool)) (a35 : Bool) : Option (Bool) :=
  if a35 = true then (some (false)) else (if ((at' (at' p0 a17.1) a28.1).2) < (1 : Int) then (graph_symmetric_k4 p0 a17 a28 ag27 (true)) else (graph_symmetric_k4 p0 a17 a28 ag27 (decide ((15 : Int) < ((at' (at' p0 a17.1) a28.1).2)))))
def graph_symmetric_s3 (p0 : List (List (Int × Int))) (a17 : Int × (List ((Int × Int) × Int))) (ag16 : (Int × (List ((Int × Int) × Int))) → Option (Bool)) (a28 : Int × (List ((Int × Int) × Int))) (ag27 : (Int × (List ((Int × Int) × Int))) → Option (Bool)) : Option (Bool) :=
  if a28.1 < (List.length (at' p0 a17.1) : Int) then (ck (0 ≤ a28.1 ∧ a28.1 < (List.length (at' p0 a17.1) : Int)) (if ((at' (at' p0 a17.1) a28.1).1) < (0 : Int) then (graph_symmetric_k3 p0 a17 a28 ag27 (true)) else (if (List.length p0 : Int) ≤ ((at' (at' p0 a17.1) a28.1).1) then (graph_symmetric_k3 p0 a17 a28 ag27 (true)) else (graph_symmetric_k3 p0 a17 a28 ag27 (decide (((at' (at' p0 a17.1) a28.1).1) = a17.1)))))) else (graph_symmetric_k2 a17 ag16 (a28.2))
def graph_symmetric_s2 (fuel : Nat) (p0 : List (List (Int × Int))) (a17 : Int × (List ((Int × Int) × Int))) (ag16 : (Int × (List ((Int × Int) × Int))) → Option (Bool)) : Option (Bool) :=
  if a17.1 < (List.length p0 : Int) then (ck (0 ≤ a17.1 ∧ a17.1 < (List.length p0 : Int)) (iter (graph_symmetric_s3 p0 a17 ag16) fuel ((0 : Int), a17.2))) else (graph_symmetric_k1  (a17.2))
def m_graph_symmetric (fuel : Nat) (p0 : List (List (Int × Int))) : Option (Bool) :=
  iter (graph_symmetric_s2 fuel p0) fuel ((0 : Int), ([] : List ((Int × Int) × Int)))

theorem body98 : HasBody Try.prog 98 := Try.call98

set_option maxHeartbeats 4000000 in
set_option maxRecDepth 20000 in
theorem t_graph_symmetric (fuel : Nat) {p0 : List (List (Int × Int))} (v0 : Value)  (z1 : List (Value × List (Int × Int))) (r : Bool) (h : m_graph_symmetric fuel p0 = some r) :
    Meets Try.prog 98 #[v0] [S2 RI64I64p v0 z1 p0] (fun x : Unit => Value.bool (r)) (fun x l => l) (fun _ l => l) := by
  refine Meets.of (vs := [v0]) Try.func98 rfl Try.ntmps98 rfl fun c => ?_
  unfold m_graph_symmetric at h
  refine J.seq ?_
  refine J.region ?_
  refine J.quiet (Y.assign rfl) rfl ?_
  refine J.done ?_
  refine J.thenN ?_
  refine J.seq ?_
  refine J.region ?_
  refine J.loud (Loud.makeMap vI64I64p vI64) rfl fun b1 => ?_
  refine J.quiet (Y.assign rfl) rfl ?_
  refine J.done ?_
  refine J.thenN ?_
  refine J.seq ?_
  refine J.midI (A := (List ((Int × Int) × Int))) (B := Unit) (fun a3 => graph_symmetric_k1  a3 = some r) (fun a3 b4 => [(3, Value.map (some b1))]) (fun a3 b4 => [Mp vI64I64p vI64 b1 a3]) (fun a3 b4 => [S2 RI64I64p v0 z1 p0]) ?_ ?_
  · refine J.seq ?_
    refine J.region ?_
    refine J.quiet (Y.move rfl) rfl ?_
    refine J.quiet (Y.lenN rfl (Lent.fact 0 rfl) rfl) rfl ?_
    refine J.quiet (Y.move rfl) rfl ?_
    refine J.done ?_
    refine J.thenN ?_
    refine J.block ?_
    refine J.loopI (A := Int × (List ((Int × Int) × Int))) (B := Unit) (graph_symmetric_s2 fuel p0) (fun a17 b18 => [(0, v0), (3, Value.map (some b1)), (14, v0), (15, Value.int .i64 (List.length p0 : Int)), (16, Value.int .i64 (a17.1))]) (fun a17 b18 => [Mp vI64I64p vI64 b1 a17.2]) (fun a17 b18 => [S2 RI64I64p v0 z1 p0]) ((0 : Int), ([] : List ((Int × Int) × Int))) (()) h (by repeat (first | exact SubF.nil | refine SubF.cons rfl ?_)) (SubM.refl _) (LentAll.refl _ _) ?_
    clear h
    intro k19 a17 b18 h
    unfold graph_symmetric_s2 at h
    refine J.seq ?_
    refine J.region ?_
    refine J.quiet (Y.lss rfl rfl) rfl ?_
    refine J.done ?_
    refine J.thenN ?_
    refine J.seq ?_
    refine J.condD (by exact rfl) (fun hp20 => ?_) (fun hp20 => ?_)
    · replace h := ifP hp20 h
      refine J.skip ?_
      refine J.thenN ?_
      refine J.seq ?_
      refine J.midI (A := (List ((Int × Int) × Int))) (B := Unit) (fun a22 => graph_symmetric_k2 a17 (iter (graph_symmetric_s2 fuel p0) k19) a22 = some r) (fun a22 b23 => [(0, v0), (3, Value.map (some b1)), (14, v0), (15, Value.int .i64 (List.length p0 : Int)), (16, Value.int .i64 (a17.1))]) (fun a22 b23 => [Mp vI64I64p vI64 b1 a22]) (fun a22 b23 => [S2 RI64I64p v0 z1 p0]) ?_ ?_
      · refine J.block ?_
        refine J.seq ?_
        refine J.region ?_
        refine J.quiet (Y.move rfl) rfl ?_
        replace h := ck_some h; obtain ⟨hc24, h⟩ := h
        refine J.quiet (Y.indexN rfl rfl (Lent.fact 0 rfl) rfl rfl hc24) rfl ?_
        refine J.quiet (Y.loadRow rfl (Lent.fact 0 rfl) rfl rfl hc24) rfl ?_
        refine J.quiet (Y.assign rfl) rfl ?_
        refine J.quiet (Y.assign rfl) rfl ?_
        refine J.done ?_
        refine J.thenN ?_
        refine J.seq ?_
        refine J.region ?_
        refine J.quiet (Y.move rfl) rfl ?_
        refine J.quiet (Y.lenS rfl (Lent.el (Lent.fact 0 rfl) hc24.1 hc24.2) rfl) rfl ?_
        refine J.quiet (Y.move rfl) rfl ?_
        refine J.done ?_
        refine J.thenN ?_
        refine J.block ?_
        refine J.loopI (A := Int × (List ((Int × Int) × Int))) (B := Unit) (graph_symmetric_s3 p0 a17 (iter (graph_symmetric_s2 fuel p0) k19)) (fun a28 b29 => [(0, v0), (3, Value.map (some b1)), (4, Value.int .i64 (a17.1)), (14, v0), (15, Value.int .i64 (List.length p0 : Int)), (16, Value.int .i64 (a17.1)), (21, (at' z1 a17.1).1), (22, Value.int .i64 (List.length (at' p0 a17.1) : Int)), (23, Value.int .i64 (a28.1))]) (fun a28 b29 => [Mp vI64I64p vI64 b1 a28.2]) (fun a28 b29 => [S2 RI64I64p v0 z1 p0]) ((0 : Int), a17.2) (()) h (by repeat (first | exact SubF.nil | refine SubF.cons rfl ?_)) (SubM.refl _) (LentAll.refl _ _) ?_
        clear h
        intro k30 a28 b29 h
        unfold graph_symmetric_s3 at h
        refine J.seq ?_
        refine J.region ?_
        refine J.quiet (Y.lss rfl rfl) rfl ?_
        refine J.done ?_
        refine J.thenN ?_
        refine J.seq ?_
        refine J.condD (by exact rfl) (fun hp31 => ?_) (fun hp31 => ?_)
        · replace h := ifP hp31 h
          refine J.skip ?_
          refine J.thenN ?_
          refine J.seq ?_
          refine J.block ?_
          refine J.seq ?_
          refine J.region ?_
          replace h := ck_some h; obtain ⟨hc32, h⟩ := h
          refine J.quiet (Y.indexS rfl rfl (Lent.el (Lent.fact 0 rfl) hc24.1 hc24.2) rfl rfl hc32) rfl ?_
          refine J.quiet (Y.loadAggS (cs := [Value.int .i64 ((at' (at' p0 a17.1) a28.1).1), Value.int .i64 ((at' (at' p0 a17.1) a28.1).2)]) rfl (Lent.el (Lent.fact 0 rfl) hc24.1 hc24.2) FI64I64p rfl rfl rfl rfl hc32) rfl ?_
          refine J.loud (Loud.alloc (cs := [Value.int .i64 (0 : Int), Value.int .i64 (0 : Int)]) rfl rfl) rfl fun b33 => ?_
          refine J.storeAll 0 (vs := [Value.int .i64 ((at' (at' p0 a17.1) a28.1).1), Value.int .i64 ((at' (at' p0 a17.1) a28.1).2)]) rfl rfl rfl rfl rfl rfl ?_
          refine J.done ?_
          refine J.thenN ?_
          refine J.seq ?_
          refine J.seq ?_
          refine J.midI (A := Bool) (B := Unit) (fun a35 => graph_symmetric_k3 p0 a17 a28 (iter (graph_symmetric_s3 p0 a17 (iter (graph_symmetric_s2 fuel p0) k19)) k30) a35 = some r) (fun a35 b36 => [(0, v0), (3, Value.map (some b1)), (4, Value.int .i64 (a17.1)), (7, Value.pointer (some ⟨b33, 0, none⟩)), (14, v0), (15, Value.int .i64 (List.length p0 : Int)), (16, Value.int .i64 (a17.1)), (21, (at' z1 a17.1).1), (22, Value.int .i64 (List.length (at' p0 a17.1) : Int)), (23, Value.int .i64 (a28.1)), (42, Value.bool (a35))]) (fun a35 b36 => [Blk b33 [Value.int .i64 ((at' (at' p0 a17.1) a28.1).1), Value.int .i64 ((at' (at' p0 a17.1) a28.1).2)] 39, Mp vI64I64p vI64 b1 a28.2]) (fun a35 b36 => [S2 RI64I64p v0 z1 p0]) ?_ ?_
          · refine J.region ?_
            refine J.quiet (Y.fieldB rfl rfl rfl rfl rfl) rfl ?_
            refine J.quiet (Y.loadB 0 rfl rfl rfl rfl rfl) rfl ?_
            refine J.quiet (Y.lss rfl rfl) rfl ?_
            refine J.quiet (Y.move rfl) rfl ?_
            refine J.guardD (by exact rfl) (by exact rfl) (fun hp45 => ?_) (fun hp45 => ?_)
            · replace h := ifP hp45 h
              refine J.guardN rfl rfl rfl ?_
              refine J.guardN rfl rfl rfl ?_
              refine J.guardN rfl rfl rfl ?_
              refine J.guardN rfl rfl rfl ?_
              refine J.guardN rfl rfl rfl ?_
              refine J.quiet (Y.pickT rfl rfl) rfl ?_
              refine J.quiet (Y.move rfl) rfl ?_
              refine J.guardN rfl rfl rfl ?_
              refine J.guardN rfl rfl rfl ?_
              refine J.guardN rfl rfl rfl ?_
              refine J.guardN rfl rfl rfl ?_
              refine J.quiet (Y.pickT rfl rfl) rfl ?_
              refine J.done ?_
              refine J.thenN ?_
              exact J.meetI (true) (()) h (by repeat (first | exact SubF.nil | refine SubF.cons rfl ?_)) (SubM.refl _) (LentAll.refl _ _)
            · replace h := ifN hp45 h
              refine J.guardY rfl (Y.fieldB rfl rfl rfl rfl rfl) rfl ?_
              refine J.guardY rfl (Y.loadB 0 rfl rfl rfl rfl rfl) rfl ?_
              refine J.guardY rfl (Y.move rfl) rfl ?_
              refine J.guardY rfl (Y.lenN rfl (Lent.fact 0 rfl) rfl) rfl ?_
              refine J.guardY rfl (Y.geq rfl rfl) rfl ?_
              refine J.quiet (Y.pickF rfl rfl) rfl ?_
              refine J.quiet (Y.move rfl) rfl ?_
              refine J.guardD (by exact rfl) (by exact rfl) (fun hp46 => ?_) (fun hp46 => ?_)
              · replace h := ifP hp46 h
                refine J.guardN rfl rfl rfl ?_
                refine J.guardN rfl rfl rfl ?_
                refine J.guardN rfl rfl rfl ?_
                refine J.guardN rfl rfl rfl ?_
                refine J.quiet (Y.pickT rfl rfl) rfl ?_
                refine J.done ?_
                refine J.thenN ?_
                exact J.meetI (true) (()) h (by repeat (first | exact SubF.nil | refine SubF.cons rfl ?_)) (SubM.refl _) (LentAll.refl _ _)
              · replace h := ifN hp46 h
                refine J.guardY rfl (Y.fieldB rfl rfl rfl rfl rfl) rfl ?_
                refine J.guardY rfl (Y.loadB 0 rfl rfl rfl rfl rfl) rfl ?_
                refine J.guardY rfl (Y.move rfl) rfl ?_
                refine J.guardY rfl (Y.eql rfl rfl) rfl ?_
                refine J.quiet (Y.pickF rfl rfl) rfl ?_
                refine J.done ?_
                refine J.thenN ?_
                exact J.meetI (decide (((at' (at' p0 a17.1) a28.1).1) = a17.1)) (()) h (by repeat (first | exact SubF.nil | refine SubF.cons rfl ?_)) (SubM.refl _) (LentAll.refl _ _)
          · clear h
            intro a35 b36 h
            unfold graph_symmetric_k3 at h
            refine J.cond (by exact rfl) (fun hp37 => ?_) (fun hp37 => ?_)
            · replace h := ifP hp37 h
              refine J.seq ?_
              refine J.region ?_
              refine J.quiet (Y.assign rfl) rfl ?_
              refine J.done ?_
              refine J.thenN ?_
              refine J.ret ?_
              refine J.thenR ?_
              refine J.inR ?_
              refine J.thenR ?_
              refine J.thenR ?_
              refine J.inR ?_
              refine J.inR ?_
              refine J.thenR ?_
              refine J.thenR ?_
              refine J.inR ?_
              refine J.thenR ?_
              obtain rfl := Option.some.inj h
              exact J.retG1 (()) rfl rfl (RV.tmp rfl) (SubM.nil) LentAll.nil
            · replace h := ifBN hp37 h
              refine J.skip ?_
              refine J.thenN ?_
              refine J.seq ?_
              refine J.seq ?_
              refine J.midI (A := Bool) (B := Unit) (fun a39 => graph_symmetric_k4 p0 a17 a28 (iter (graph_symmetric_s3 p0 a17 (iter (graph_symmetric_s2 fuel p0) k19)) k30) a39 = some r) (fun a39 b40 => [(0, v0), (3, Value.map (some b1)), (4, Value.int .i64 (a17.1)), (7, Value.pointer (some ⟨b33, 0, none⟩)), (14, v0), (15, Value.int .i64 (List.length p0 : Int)), (16, Value.int .i64 (a17.1)), (21, (at' z1 a17.1).1), (22, Value.int .i64 (List.length (at' p0 a17.1) : Int)), (23, Value.int .i64 (a28.1)), (50, Value.bool (a39))]) (fun a39 b40 => [Blk b33 [Value.int .i64 ((at' (at' p0 a17.1) a28.1).1), Value.int .i64 ((at' (at' p0 a17.1) a28.1).2)] 39, Mp vI64I64p vI64 b1 a28.2]) (fun a39 b40 => [S2 RI64I64p v0 z1 p0]) ?_ ?_
              · refine J.region ?_
                refine J.quiet (Y.fieldB rfl rfl rfl rfl rfl) rfl ?_
                refine J.quiet (Y.loadB 0 rfl rfl rfl rfl rfl) rfl ?_
                refine J.quiet (Y.lss rfl rfl) rfl ?_
                refine J.quiet (Y.move rfl) rfl ?_
                refine J.guardD (by exact rfl) (by exact rfl) (fun hp44 => ?_) (fun hp44 => ?_)
                · replace h := ifP hp44 h
                  refine J.guardN rfl rfl rfl ?_
                  refine J.guardN rfl rfl rfl ?_
                  refine J.guardN rfl rfl rfl ?_
                  refine J.quiet (Y.pickT rfl rfl) rfl ?_
                  refine J.done ?_
                  refine J.thenN ?_
                  exact J.meetI (true) (()) h (by repeat (first | exact SubF.nil | refine SubF.cons rfl ?_)) (SubM.refl _) (LentAll.refl _ _)
                · replace h := ifN hp44 h
                  refine J.guardY rfl (Y.fieldB rfl rfl rfl rfl rfl) rfl ?_
                  refine J.guardY rfl (Y.loadB 0 rfl rfl rfl rfl rfl) rfl ?_
                  refine J.guardY rfl (Y.gtr rfl rfl) rfl ?_
                  refine J.quiet (Y.pickF rfl rfl) rfl ?_
                  refine J.done ?_
                  refine J.thenN ?_
                  exact J.meetI (decide ((15 : Int) < ((at' (at' p0 a17.1) a28.1).2))) (()) h (by repeat (first | exact SubF.nil | refine SubF.cons rfl ?_)) (SubM.refl _) (LentAll.refl _ _)
              · clear h
                intro a39 b40 h
                unfold graph_symmetric_k4 at h
                refine J.cond (by exact rfl) (fun hp41 => ?_) (fun hp41 => ?_)
                · replace h := ifP hp41 h
                  refine J.seq ?_
                  refine J.region ?_
                  refine J.quiet (Y.assign rfl) rfl ?_
                  refine J.done ?_
                  refine J.thenN ?_
                  refine J.ret ?_
                  refine J.thenR ?_
                  refine J.inR ?_
                  refine J.thenR ?_
                  refine J.thenR ?_
                  refine J.inR ?_
                  refine J.inR ?_
                  refine J.thenR ?_
                  refine J.thenR ?_
                  refine J.inR ?_
                  refine J.thenR ?_
                  obtain rfl := Option.some.inj h
                  exact J.retG1 (()) rfl rfl (RV.tmp rfl) (SubM.nil) LentAll.nil
                · replace h := ifBN hp41 h
                  refine J.skip ?_
                  refine J.thenN ?_
                  refine J.seq ?_
                  refine J.region ?_
                  refine J.quiet (Y.move rfl) rfl ?_
                  refine J.quiet (Y.fieldB rfl rfl rfl rfl rfl) rfl ?_
                  refine J.quiet (Y.loadB 0 rfl rfl rfl rfl rfl) rfl ?_
                  refine J.quiet (Y.bld2 (r := Value.agg #[Value.int .i64 (a17.1), Value.int .i64 ((at' (at' p0 a17.1) a28.1).1)]) rfl rfl (by intro w; simp [Instr.build, Instr.fill, cells_intV, cells_boolV, cells_sliceV, cells_ptrV, cells_strV, cells_funcV, cells_agg])) rfl ?_
                  refine J.loud (Loud.alloc (cs := [Value.int .i64 (0 : Int), Value.int .i64 (0 : Int)]) rfl rfl) rfl fun b42 => ?_
                  refine J.storeAll 0 (vs := [Value.int .i64 (a17.1), Value.int .i64 ((at' (at' p0 a17.1) a28.1).1)]) rfl rfl rfl rfl rfl rfl ?_
                  refine J.done ?_
                  refine J.thenN ?_
                  refine J.seq ?_
                  refine J.seq ?_
                  refine J.region ?_
                  refine J.quiet (Y.move rfl) rfl ?_
                  refine J.quiet (Y.loadBAll 0 rfl rfl rfl rfl) rfl ?_
                  refine J.quiet (Y.lookup 2 ((a17.1, ((at' (at' p0 a17.1) a28.1).1))) (u := Value.int .i64 (Option.getD (mget (a17.1, ((at' (at' p0 a17.1) a28.1).1)) a28.2) (0 : Int))) kok_75 rfl rfl rfl rfl rfl (by cases mget ((a17.1, ((at' (at' p0 a17.1) a28.1).1))) a28.2 <;> rfl)) rfl ?_
                  refine J.quiet (Y.move rfl) rfl ?_
                  refine J.quiet (Y.extract rfl rfl) rfl ?_
                  refine J.quiet (Y.extract rfl rfl) rfl ?_
                  refine J.quiet (Y.assign rfl) rfl ?_
                  refine J.quiet (Y.assign rfl) rfl ?_
                  refine J.done ?_
                  refine J.thenN ?_
                  refine J.seq ?_
                  refine J.region ?_
                  refine J.quiet (Y.move rfl) rfl ?_
                  refine J.done ?_
                  refine J.thenN ?_
                  refine J.cond (by exact rfl) (fun hp43 => ?_) (fun hp43 => ?_)
                  · replace h := ifP hp43 h
                    refine J.seq ?_
                    refine J.region ?_
                    refine J.quiet (Y.assign rfl) rfl ?_
                    refine J.done ?_
                    refine J.thenN ?_
                    refine J.ret ?_
                    refine J.thenR ?_
                    refine J.inR ?_
                    refine J.thenR ?_
                    refine J.thenR ?_
                    refine J.inR ?_
                    refine J.inR ?_
                    refine J.thenR ?_
                    refine J.thenR ?_
                    refine J.inR ?_
                    refine J.thenR ?_
                    obtain rfl := Option.some.inj h
                    exact J.retG1 (()) rfl rfl (RV.tmp rfl) (SubM.nil) LentAll.nil
                  · replace h := ifBN hp43 h
                    refine J.skip ?_
                    refine J.thenN ?_
                    refine J.region ?_
                    refine J.quiet (Y.move rfl) rfl ?_
                    refine J.quiet (Y.loadBAll 0 rfl rfl rfl rfl) rfl ?_
                    refine J.quiet (Y.fieldB rfl rfl rfl rfl rfl) rfl ?_
                    refine J.quiet (Y.loadB 1 rfl rfl rfl rfl rfl) rfl ?_
                    refine J.mapUpdate 2 ((a17.1, ((at' (at' p0 a17.1) a28.1).1))) ((at' (at' p0 a17.1) a28.1).2) kok_75 rfl rfl rfl rfl rfl ?_
                    refine J.done ?_
                    refine J.inN ?_
                    refine J.thenN ?_
                    refine J.region ?_
                    refine J.quiet (Y.addW rfl rfl) rfl ?_
                    refine J.quiet (Y.move rfl) rfl ?_
                    refine J.done ?_
                    refine J.thenN ?_
                    exact J.againI ((wI .i64 (a28.1 + (1 : Int))), (mset (a17.1, ((at' (at' p0 a17.1) a28.1).1)) ((at' (at' p0 a17.1) a28.1).2) a28.2)) (()) h (by repeat (first | exact SubF.nil | refine SubF.cons rfl ?_)) (SubM.cons 2 rfl (SubM.nil)) (LentAll.refl _ _)
        · replace h := ifN hp31 h
          refine J.exit ?_
          refine J.thenX ?_
          refine J.thenX ?_
          refine J.inX ?_
          refine J.inN ?_
          refine J.thenN ?_
          exact J.meetI (a28.2) (()) h (by repeat (first | exact SubF.nil | refine SubF.cons rfl ?_)) (SubM.refl _) (LentAll.refl _ _)
      · clear h
        intro a22 b23 h
        unfold graph_symmetric_k2 at h
        refine J.region ?_
        refine J.quiet (Y.addW rfl rfl) rfl ?_
        refine J.quiet (Y.move rfl) rfl ?_
        refine J.done ?_
        refine J.thenN ?_
        exact J.againI ((wI .i64 (a17.1 + (1 : Int))), a22) (()) h (by repeat (first | exact SubF.nil | refine SubF.cons rfl ?_)) (SubM.refl _) (LentAll.refl _ _)
    · replace h := ifN hp20 h
      refine J.exit ?_
      refine J.thenX ?_
      refine J.thenX ?_
      refine J.inX ?_
      refine J.thenN ?_
      exact J.meetI (a17.2) (()) h (by repeat (first | exact SubF.nil | refine SubF.cons rfl ?_)) (SubM.refl _) (LentAll.refl _ _)
  · clear h
    intro a3 b4 h
    unfold graph_symmetric_k1 at h
    refine J.seq ?_
    refine J.seq ?_
    refine J.region ?_
    refine J.quiet (Y.move rfl) rfl ?_
    refine J.loud (Loud.range 0 rfl rfl rfl) rfl fun b5 => ?_
    refine J.done ?_
    refine J.thenN ?_
    refine J.block ?_
    refine J.weakE [(3, Value.map (some b1)), (69, Value.pointer (some ⟨b5, 0, none⟩))] [It b5 b1 (List.length a3) ([]), Mp vI64I64p vI64 b1 a3] [S2 RI64I64p v0 z1 p0] (by repeat (first | exact SubF.nil | refine SubF.cons rfl ?_)) (SubM.refl _) (LentAll.refl _ _) ?_
    refine J.loopMap (graph_symmetric_s1 a3) 1 0 (by intro a b x; unfold graph_symmetric_s1; repeat' split; all_goals first | rfl | contradiction | simp_all) h rfl rfl rfl rfl rfl rfl ?_ ?_
    · clear h
      intro kv6 i7 se8 xa9 hkv10 h
      unfold graph_symmetric_s1 at h
      refine J.block ?_
      refine J.seq ?_
      refine J.region ?_
      refine J.loud (Loud.entry 1 0 hkv10 rfl rfl rfl) rfl fun x11 => ?_
      refine J.quiet (Y.extract rfl rfl) rfl ?_
      refine J.quiet (Y.extract rfl rfl) rfl ?_
      refine J.loud (Loud.alloc (cs := [Value.int .i64 (0 : Int), Value.int .i64 (0 : Int)]) rfl rfl) rfl fun b12 => ?_
      refine J.storeAll 0 (vs := [Value.int .i64 (kv6.1.1), Value.int .i64 (kv6.1.2)]) rfl rfl rfl rfl rfl rfl ?_
      refine J.quiet (Y.assign rfl) rfl ?_
      refine J.done ?_
      refine J.thenN ?_
      refine J.seq ?_
      refine J.region ?_
      refine J.quiet (Y.move rfl) rfl ?_
      refine J.quiet (Y.indexArr (i := 1) rfl rfl rfl rfl rfl (by decide)) rfl ?_
      refine J.quiet (Y.loadB 0 rfl rfl rfl rfl rfl) rfl ?_
      refine J.quiet (Y.indexArr (i := 0) rfl rfl rfl rfl rfl (by decide)) rfl ?_
      refine J.quiet (Y.loadB 0 rfl rfl rfl rfl rfl) rfl ?_
      refine J.quiet (Y.bld2 (r := Value.agg #[Value.int .i64 (kv6.1.2), Value.int .i64 (kv6.1.1)]) rfl rfl (by intro w; simp [Instr.build, Instr.fill, cells_intV, cells_boolV, cells_sliceV, cells_ptrV, cells_strV, cells_funcV, cells_agg])) rfl ?_
      refine J.quiet (Y.lookup 2 ((kv6.1.2, kv6.1.1)) (u := Value.int .i64 (Option.getD (mget (kv6.1.2, kv6.1.1) a3) (0 : Int))) kok_75 rfl rfl rfl rfl rfl (by cases mget ((kv6.1.2, kv6.1.1)) a3 <;> rfl)) rfl ?_
      refine J.quiet (Y.move rfl) rfl ?_
      refine J.quiet (Y.neq rfl rfl) rfl ?_
      refine J.done ?_
      refine J.thenN ?_
      refine J.condD (by exact rfl) (fun hp13 => ?_) (fun hp13 => ?_)
      · replace h := ifP hp13 h
        refine J.seq ?_
        refine J.region ?_
        refine J.quiet (Y.assign rfl) rfl ?_
        refine J.done ?_
        refine J.thenN ?_
        refine J.ret ?_
        refine J.inR ?_
        refine J.thenR ?_
        refine J.inR ?_
        refine J.thenR ?_
        obtain rfl := Option.some.inj h
        exact J.retG1 (()) rfl rfl (RV.tmp rfl) (SubM.nil) LentAll.nil
      · replace h := ifN hp13 h
        refine J.skip ?_
        refine J.inN ?_
        refine J.thenN ?_
        exact J.mapAgain h (by repeat (first | exact SubF.nil | refine SubF.cons rfl ?_)) (SubM.cons 1 rfl (SubM.cons 1 rfl (SubM.nil))) (LentAll.refl _ _)
    · clear h
      intro se8 h
      refine J.inX ?_
      refine J.thenN ?_
      refine J.seq ?_
      refine J.region ?_
      refine J.quiet (Y.assign rfl) rfl ?_
      refine J.done ?_
      refine J.thenN ?_
      refine J.ret ?_
      obtain rfl := Option.some.inj h
      exact J.retG1 (()) rfl rfl (RV.tmp rfl) (SubM.nil) LentAll.nil

end Go.Proofs.Ytemhmmcakmidkaa
