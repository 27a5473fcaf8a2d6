/- The model of graph.All and the proof that the function meets it, by program (gen/xt.py). Conditions: none. -/
import Derived.Test.YtemhmmcakmidkaaXp
namespace Go.Proofs.Ytemhmmcakmidkaa
open Go.Sx
set_option linter.unusedVariables false
set_option linter.unusedSimpArgs false

def m_graph_All (fuel : Nat) (p0 : List (Int) × (List (List (Int × Int)))) : Option (Int) :=
  ck (0 ≤ (List.length p0.1 : Int)) (some (wI .u32 ((bShl .u32 (1 : Int) (List.length p0.1 : Int)) - (1 : Int))))

theorem body84 : HasBody Try.prog 84 := Try.call84

set_option maxHeartbeats 4000000 in
set_option maxRecDepth 20000 in
theorem t_graph_All (fuel : Nat) {p0 : List (Int) × (List (List (Int × Int)))} (v0 : Value)  (v1 : Value)  (z2 : List (Value × List (Int × Int))) (r : Int) (h : m_graph_All fuel p0 = some r) :
    Meets Try.prog 84 #[Value.agg #[v0, v1]] [Sl RI64 v0 p0.1, S2 RI64I64p v1 z2 p0.2] (fun x : Unit => Value.int .u32 (r)) (fun x l => l) (fun _ l => l) := by
  refine Meets.of (vs := [Value.agg #[v0, v1]]) Try.func84 rfl Try.ntmps84 rfl fun c => ?_
  unfold m_graph_All at h
  refine J.seq ?_
  refine J.region ?_
  refine J.loud (Loud.box (cs := [v0, v1]) rfl rfl) rfl fun b1 => ?_
  refine J.quiet (Y.assign rfl) rfl ?_
  refine J.done ?_
  refine J.thenN ?_
  refine J.seq ?_
  refine J.region ?_
  refine J.quiet (Y.fieldB rfl rfl rfl rfl rfl) rfl ?_
  refine J.quiet (Y.loadB 0 rfl rfl rfl rfl rfl) rfl ?_
  refine J.quiet (Y.lenS rfl (Lent.fact 0 rfl) rfl) rfl ?_
  replace h := ck_some h; obtain ⟨hc2, h⟩ := h
  refine J.quiet (Y.shl rfl rfl hc2) rfl ?_
  refine J.quiet (Y.subW rfl rfl) rfl ?_
  refine J.quiet (Y.assign rfl) rfl ?_
  refine J.done ?_
  refine J.thenN ?_
  refine J.ret ?_
  obtain rfl := Option.some.inj h
  exact J.retG1 (()) rfl rfl (RV.tmp rfl) (SubM.nil) LentAll.nil

end Go.Proofs.Ytemhmmcakmidkaa
