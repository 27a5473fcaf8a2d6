/- The model of graph.Valid and the proof that the function meets it, by program (gen/xt.py). Conditions: none. -/
import Derived.Test.YtemhmmcakmidkaaX87
import Derived.Test.YtemhmmcakmidkaaX98
namespace Go.Proofs.Ytemhmmcakmidkaa
open Go.Sx
set_option linter.unusedVariables false
set_option linter.unusedSimpArgs false

def graph_Valid_k2  (a7 : Bool) : Option (Bool) :=
  some (a7)
def graph_Valid_k1 (fuel : Nat) (p0 : List (Int) × (List (List (Int × Int)))) (a3 : Bool) : Option (Bool) :=
  if a3 = true then (some (false)) else (Option.bind (m_graph_DifferentIDs fuel p0.1) fun r9 => (if r9 = true then (Option.bind (m_graph_symmetric fuel p0.2) fun r13 => (graph_Valid_k2  (r13))) else (graph_Valid_k2  (false))))
def m_graph_Valid (fuel : Nat) (p0 : List (Int) × (List (List (Int × Int)))) : Option (Bool) :=
  if (List.length p0.1 : Int) < (1 : Int) then (graph_Valid_k1 fuel p0 (true)) else (if (24 : Int) < (List.length p0.1 : Int) then (graph_Valid_k1 fuel p0 (true)) else (graph_Valid_k1 fuel p0 (decide ((List.length p0.2 : Int) ≠ (List.length p0.1 : Int)))))

theorem body64 : HasBody Try.prog 64 := Try.call64

set_option maxHeartbeats 4000000 in
set_option maxRecDepth 20000 in
theorem t_graph_Valid (fuel : Nat) {p0 : List (Int) × (List (List (Int × Int)))} (v0 : Value)  (v1 : Value)  (z2 : List (Value × List (Int × Int))) (r : Bool) (h : m_graph_Valid fuel p0 = some r) :
    Meets Try.prog 64 #[Value.agg #[v0, v1]] [Sl RI64 v0 p0.1, S2 RI64I64p v1 z2 p0.2] (fun x : Unit => Value.bool (r)) (fun x l => l) (fun _ l => l) := by
  refine Meets.of (vs := [Value.agg #[v0, v1]]) Try.func64 rfl Try.ntmps64 rfl fun c => ?_
  unfold m_graph_Valid at h
  refine J.seq ?_
  refine J.region ?_
  refine J.loud (Loud.box (cs := [v0, v1]) rfl rfl) rfl fun b1 => ?_
  refine J.quiet (Y.assign rfl) rfl ?_
  refine J.done ?_
  refine J.thenN ?_
  refine J.seq ?_
  refine J.region ?_
  refine J.quiet (Y.fieldB rfl rfl rfl rfl rfl) rfl ?_
  refine J.quiet (Y.loadB 0 rfl rfl rfl rfl rfl) rfl ?_
  refine J.quiet (Y.lenS rfl (Lent.fact 0 rfl) rfl) rfl ?_
  refine J.quiet (Y.assign rfl) rfl ?_
  refine J.done ?_
  refine J.thenN ?_
  refine J.seq ?_
  refine J.seq ?_
  refine J.midI (A := Bool) (B := Unit) (fun a3 => graph_Valid_k1 fuel p0 a3 = some r) (fun a3 b4 => [(1, Value.pointer (some ⟨b1, 0, none⟩)), (19, Value.bool (a3))]) (fun a3 b4 => [Blk b1 [v0, v1] 26]) (fun a3 b4 => [Sl RI64 v0 p0.1, S2 RI64I64p v1 z2 p0.2]) ?_ ?_
  · refine J.region ?_
    refine J.quiet (Y.move rfl) rfl ?_
    refine J.quiet (Y.lss rfl rfl) rfl ?_
    refine J.quiet (Y.move rfl) rfl ?_
    refine J.guardD (by exact rfl) (by exact rfl) (fun hp16 => ?_) (fun hp16 => ?_)
    · replace h := ifP hp16 h
      refine J.guardN rfl rfl rfl ?_
      refine J.guardN rfl rfl rfl ?_
      refine J.quiet (Y.pickT rfl rfl) rfl ?_
      refine J.quiet (Y.move rfl) rfl ?_
      refine J.guardN rfl rfl rfl ?_
      refine J.guardN rfl rfl rfl ?_
      refine J.guardN rfl rfl rfl ?_
      refine J.guardN rfl rfl rfl ?_
      refine J.guardN rfl rfl rfl ?_
      refine J.quiet (Y.pickT rfl rfl) rfl ?_
      refine J.done ?_
      refine J.thenN ?_
      exact J.meetI (true) (()) h (by repeat (first | exact SubF.nil | refine SubF.cons rfl ?_)) (SubM.refl _) (LentAll.refl _ _)
    · replace h := ifN hp16 h
      refine J.guardY rfl (Y.move rfl) rfl ?_
      refine J.guardY rfl (Y.gtr rfl rfl) rfl ?_
      refine J.quiet (Y.pickF rfl rfl) rfl ?_
      refine J.quiet (Y.move rfl) rfl ?_
      refine J.guardD (by exact rfl) (by exact rfl) (fun hp17 => ?_) (fun hp17 => ?_)
      · replace h := ifP hp17 h
        refine J.guardN rfl rfl rfl ?_
        refine J.guardN rfl rfl rfl ?_
        refine J.guardN rfl rfl rfl ?_
        refine J.guardN rfl rfl rfl ?_
        refine J.guardN rfl rfl rfl ?_
        refine J.quiet (Y.pickT rfl rfl) rfl ?_
        refine J.done ?_
        refine J.thenN ?_
        exact J.meetI (true) (()) h (by repeat (first | exact SubF.nil | refine SubF.cons rfl ?_)) (SubM.refl _) (LentAll.refl _ _)
      · replace h := ifN hp17 h
        refine J.guardY rfl (Y.fieldB rfl rfl rfl rfl rfl) rfl ?_
        refine J.guardY rfl (Y.loadB 0 rfl rfl rfl rfl rfl) rfl ?_
        refine J.guardY rfl (Y.lenN rfl (Lent.fact 1 rfl) rfl) rfl ?_
        refine J.guardY rfl (Y.move rfl) rfl ?_
        refine J.guardY rfl (Y.neq rfl rfl) rfl ?_
        refine J.quiet (Y.pickF rfl rfl) rfl ?_
        refine J.done ?_
        refine J.thenN ?_
        exact J.meetI (decide ((List.length p0.2 : Int) ≠ (List.length p0.1 : Int))) (()) h (by repeat (first | exact SubF.nil | refine SubF.cons rfl ?_)) (SubM.refl _) (LentAll.refl _ _)
  · clear h
    intro a3 b4 h
    unfold graph_Valid_k1 at h
    refine J.cond (by exact rfl) (fun hp5 => ?_) (fun hp5 => ?_)
    · replace h := ifP hp5 h
      refine J.seq ?_
      refine J.region ?_
      refine J.quiet (Y.assign rfl) rfl ?_
      refine J.done ?_
      refine J.thenN ?_
      refine J.ret ?_
      refine J.thenR ?_
      obtain rfl := Option.some.inj h
      exact J.retG1 (()) rfl rfl (RV.tmp rfl) (SubM.nil) LentAll.nil
    · replace h := ifBN hp5 h
      refine J.skip ?_
      refine J.thenN ?_
      refine J.seq ?_
      refine J.midI (A := Bool) (B := Unit) (fun a7 => graph_Valid_k2  a7 = some r) (fun a7 b8 => [(2, Value.bool (a7))]) (fun a7 b8 => []) (fun a7 b8 => [Sl RI64 v0 p0.1, S2 RI64I64p v1 z2 p0.2]) ?_ ?_
      · refine J.region ?_
        refine J.quiet (Y.fieldB rfl rfl rfl rfl rfl) rfl ?_
        refine J.quiet (Y.loadB 0 rfl rfl rfl rfl rfl) rfl ?_
        replace h := bnd h; obtain ⟨r9, hr10, h⟩ := h
        refine J.loud (Loud.callL body87 (t_graph_DifferentIDs fuel v0 r9 hr10) rfl (LentAll.cons (Lent.fact 0 rfl) (LentAll.nil)) (fun _ _ => rfl)) rfl fun x11 => ?_
        refine J.quiet (Y.move rfl) rfl ?_
        refine J.guard (by exact rfl) (by exact rfl) (fun hp12 => ?_) (fun hp12 => ?_)
        · replace h := ifP hp12 h
          refine J.guardY rfl (Y.fieldB rfl rfl rfl rfl rfl) rfl ?_
          refine J.guardY rfl (Y.loadB 0 rfl rfl rfl rfl rfl) rfl ?_
          replace h := bnd h; obtain ⟨r13, hr14, h⟩ := h
          refine J.loudG rfl (Loud.callL body98 (t_graph_symmetric fuel v1 z2 r13 hr14) rfl (LentAll.cons (Lent.fact 1 rfl) (LentAll.nil)) (fun _ _ => rfl)) rfl fun x15 => ?_
          refine J.quiet (Y.pickT rfl rfl) rfl ?_
          refine J.quiet (Y.assign rfl) rfl ?_
          refine J.done ?_
          refine J.thenN ?_
          exact J.meetI (r13) (()) h (by repeat (first | exact SubF.nil | refine SubF.cons rfl ?_)) (SubM.nil) (LentAll.refl _ _)
        · replace h := ifBN hp12 h
          refine J.guardN rfl rfl rfl ?_
          refine J.guardN rfl rfl rfl ?_
          refine J.guardN rfl rfl rfl ?_
          refine J.quiet (Y.pickF rfl rfl) rfl ?_
          refine J.quiet (Y.assign rfl) rfl ?_
          refine J.done ?_
          refine J.thenN ?_
          exact J.meetI (false) (()) h (by repeat (first | exact SubF.nil | refine SubF.cons rfl ?_)) (SubM.nil) (LentAll.refl _ _)
      · clear h
        intro a7 b8 h
        unfold graph_Valid_k2 at h
        refine J.ret ?_
        obtain rfl := Option.some.inj h
        exact J.retG1 (()) rfl rfl (RV.tmp rfl) (SubM.refl _) LentAll.nil

end Go.Proofs.Ytemhmmcakmidkaa
