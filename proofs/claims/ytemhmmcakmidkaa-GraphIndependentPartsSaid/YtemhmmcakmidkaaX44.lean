/- The model of graph.Independent and the proof that the function meets it, by program (gen/xt.py). Conditions: none. -/
import Derived.Test.YtemhmmcakmidkaaX64
import Derived.Test.YtemhmmcakmidkaaX84
import Derived.Test.YtemhmmcakmidkaaX85
namespace Go.Proofs.Ytemhmmcakmidkaa
open Go.Sx
set_option linter.unusedVariables false
set_option linter.unusedSimpArgs false

def graph_Independent_k1  (a3 : Bool) : Option (Bool) :=
  some (a3)
def m_graph_Independent (fuel : Nat) (p0 : List (Int) × (List (List (Int × Int)))) (p1 : Int) : Option (Bool) :=
  Option.bind (m_graph_Valid fuel ((p0.1, p0.2))) fun r5 => (if r5 = true then (Option.bind (m_graph_All fuel ((p0.1, p0.2))) fun r9 => (if (bAndNot .u32 p1 r9) = (0 : Int) then (Option.bind (m_graph_around fuel ((p0.1, p0.2)) p1) fun r13 => (graph_Independent_k1  (decide ((bAnd .u32 r13 p1) = (0 : Int))))) else (graph_Independent_k1  (false)))) else (graph_Independent_k1  (false)))

theorem body44 : HasBody Try.prog 44 := Try.call44

set_option maxHeartbeats 4000000 in
set_option maxRecDepth 20000 in
theorem t_graph_Independent (fuel : Nat) {p0 : List (Int) × (List (List (Int × Int)))} {p1 : Int} (v0 : Value)  (v1 : Value)  (z2 : List (Value × List (Int × Int))) (r : Bool) (h : m_graph_Independent fuel p0 p1 = some r) :
    Meets Try.prog 44 #[Value.agg #[v0, v1], Value.int .u32 (p1)] [Sl RI64 v0 p0.1, S2 RI64I64p v1 z2 p0.2] (fun x : Unit => Value.bool (r)) (fun x l => l) (fun _ l => l) := by
  refine Meets.of (vs := [Value.agg #[v0, v1], Value.int .u32 (p1)]) Try.func44 rfl Try.ntmps44 rfl fun c => ?_
  unfold m_graph_Independent at h
  refine J.seq ?_
  refine J.region ?_
  refine J.loud (Loud.box (cs := [v0, v1]) rfl rfl) rfl fun b1 => ?_
  refine J.quiet (Y.assign rfl) rfl ?_
  refine J.done ?_
  refine J.thenN ?_
  refine J.seq ?_
  refine J.midI (A := Bool) (B := Unit) (fun a3 => graph_Independent_k1  a3 = some r) (fun a3 b4 => [(4, Value.bool (a3))]) (fun a3 b4 => []) (fun a3 b4 => [Sl RI64 v0 p0.1, S2 RI64I64p v1 z2 p0.2]) ?_ ?_
  · refine J.region ?_
    refine J.quiet (Y.loadBAll 0 rfl rfl rfl rfl) rfl ?_
    replace h := bnd h; obtain ⟨r5, hr6, h⟩ := h
    refine J.loud (Loud.callL body64 (t_graph_Valid fuel v0 v1 z2 r5 hr6) rfl (LentAll.cons (Lent.fact 0 rfl) (LentAll.cons (Lent.fact 1 rfl) (LentAll.nil))) (fun _ _ => rfl)) rfl fun x7 => ?_
    refine J.quiet (Y.move rfl) rfl ?_
    refine J.guard (by exact rfl) (by exact rfl) (fun hp8 => ?_) (fun hp8 => ?_)
    · replace h := ifP hp8 h
      refine J.guardY rfl (Y.move rfl) rfl ?_
      refine J.guardY rfl (Y.loadBAll 0 rfl rfl rfl rfl) rfl ?_
      replace h := bnd h; obtain ⟨r9, hr10, h⟩ := h
      refine J.loudG rfl (Loud.callL body84 (t_graph_All fuel v0 v1 z2 r9 hr10) rfl (LentAll.cons (Lent.fact 0 rfl) (LentAll.cons (Lent.fact 1 rfl) (LentAll.nil))) (fun _ _ => rfl)) rfl fun x11 => ?_
      refine J.guardY rfl (Y.andNot rfl rfl) rfl ?_
      refine J.guardY rfl (Y.eql rfl rfl) rfl ?_
      refine J.quiet (Y.pickT rfl rfl) rfl ?_
      refine J.quiet (Y.move rfl) rfl ?_
      refine J.guardD (by exact rfl) (by exact rfl) (fun hp12 => ?_) (fun hp12 => ?_)
      · replace h := ifP hp12 h
        refine J.guardY rfl (Y.loadBAll 0 rfl rfl rfl rfl) rfl ?_
        refine J.guardY rfl (Y.move rfl) rfl ?_
        replace h := bnd h; obtain ⟨r13, hr14, h⟩ := h
        refine J.loudG rfl (Loud.callL body85 (t_graph_around fuel v0 v1 z2 r13 hr14) rfl (LentAll.cons (Lent.fact 0 rfl) (LentAll.cons (Lent.fact 1 rfl) (LentAll.nil))) (fun _ _ => rfl)) rfl fun x15 => ?_
        refine J.guardY rfl (Y.move rfl) rfl ?_
        refine J.guardY rfl (Y.and rfl rfl) rfl ?_
        refine J.guardY rfl (Y.eql rfl rfl) rfl ?_
        refine J.quiet (Y.pickT rfl rfl) rfl ?_
        refine J.quiet (Y.assign rfl) rfl ?_
        refine J.done ?_
        refine J.thenN ?_
        exact J.meetI (decide ((bAnd .u32 r13 p1) = (0 : Int))) (()) h (by repeat (first | exact SubF.nil | refine SubF.cons rfl ?_)) (SubM.nil) (LentAll.refl _ _)
      · replace h := ifN hp12 h
        refine J.guardN rfl rfl rfl ?_
        refine J.guardN rfl rfl rfl ?_
        refine J.guardN rfl rfl rfl ?_
        refine J.guardN rfl rfl rfl ?_
        refine J.guardN rfl rfl rfl ?_
        refine J.guardN rfl rfl rfl ?_
        refine J.quiet (Y.pickF rfl rfl) rfl ?_
        refine J.quiet (Y.assign rfl) rfl ?_
        refine J.done ?_
        refine J.thenN ?_
        exact J.meetI (false) (()) h (by repeat (first | exact SubF.nil | refine SubF.cons rfl ?_)) (SubM.nil) (LentAll.refl _ _)
    · replace h := ifBN hp8 h
      refine J.guardN rfl rfl rfl ?_
      refine J.guardN rfl rfl rfl ?_
      refine J.guardN rfl rfl rfl ?_
      refine J.guardN rfl rfl rfl ?_
      refine J.guardN rfl rfl rfl ?_
      refine J.quiet (Y.pickF rfl rfl) rfl ?_
      refine J.quiet (Y.move rfl) rfl ?_
      refine J.guardN rfl rfl rfl ?_
      refine J.guardN rfl rfl rfl ?_
      refine J.guardN rfl rfl rfl ?_
      refine J.guardN rfl rfl rfl ?_
      refine J.guardN rfl rfl rfl ?_
      refine J.guardN rfl rfl rfl ?_
      refine J.quiet (Y.pickF rfl rfl) rfl ?_
      refine J.quiet (Y.assign rfl) rfl ?_
      refine J.done ?_
      refine J.thenN ?_
      exact J.meetI (false) (()) h (by repeat (first | exact SubF.nil | refine SubF.cons rfl ?_)) (SubM.nil) (LentAll.refl _ _)
  · clear h
    intro a3 b4 h
    unfold graph_Independent_k1 at h
    refine J.ret ?_
    obtain rfl := Option.some.inj h
    exact J.retG1 (()) rfl rfl (RV.tmp rfl) (SubM.refl _) LentAll.nil

end Go.Proofs.Ytemhmmcakmidkaa
