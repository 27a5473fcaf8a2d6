/- The model of graph.greatest and the proof that the function meets it, by program (gen/xt.py). Conditions: none. -/
import Derived.Test.YtemhmmcakmidkaaXp
namespace Go.Proofs.Ytemhmmcakmidkaa
open Go.Sx
set_option linter.unusedVariables false
set_option linter.unusedSimpArgs false

def graph_greatest_k1  (a2 : Int) : Option (Int) :=
  some (a2)
def graph_greatest_s1 (p0 : List (Int)) (a7 : Int × Int) (ag6 : (Int × Int) → Option (Int)) : Option (Int) :=
  if a7.2 < (List.length p0 : Int) then (ck (0 ≤ a7.2 ∧ a7.2 < (List.length p0 : Int)) (ag6 ((max a7.1 (at' p0 a7.2)), (wI .i64 (a7.2 + (1 : Int)))))) else (graph_greatest_k1  (a7.1))
def m_graph_greatest (fuel : Nat) (p0 : List (Int)) : Option (Int) :=
  iter (graph_greatest_s1 p0) fuel ((-1 : Int), (0 : Int))

theorem body82 : HasBody Try.prog 82 := Try.call82

set_option maxHeartbeats 4000000 in
set_option maxRecDepth 20000 in
theorem t_graph_greatest (fuel : Nat) {p0 : List (Int)} (v0 : Value) (r : Int) (h : m_graph_greatest fuel p0 = some r) :
    Meets Try.prog 82 #[v0] [Sl RI64 v0 p0] (fun x : Unit => Value.int .i64 (r)) (fun x l => l) (fun _ l => l) := by
  refine Meets.of (vs := [v0]) Try.func82 rfl Try.ntmps82 rfl fun c => ?_
  unfold m_graph_greatest at h
  refine J.seq ?_
  refine J.region ?_
  refine J.quiet (Y.assign rfl) rfl ?_
  refine J.done ?_
  refine J.thenN ?_
  refine J.seq ?_
  refine J.region ?_
  refine J.quiet (Y.assign rfl) rfl ?_
  refine J.done ?_
  refine J.thenN ?_
  refine J.seq ?_
  refine J.midI (A := Int) (B := Unit) (fun a2 => graph_greatest_k1  a2 = some r) (fun a2 b3 => [(3, Value.int .i64 (a2))]) (fun a2 b3 => []) (fun a2 b3 => [Sl RI64 v0 p0]) ?_ ?_
  · refine J.seq ?_
    refine J.region ?_
    refine J.quiet (Y.move rfl) rfl ?_
    refine J.quiet (Y.lenS rfl (Lent.fact 0 rfl) rfl) rfl ?_
    refine J.quiet (Y.move rfl) rfl ?_
    refine J.done ?_
    refine J.thenN ?_
    refine J.block ?_
    refine J.loopI (A := Int × Int) (B := Unit) (graph_greatest_s1 p0) (fun a7 b8 => [(3, Value.int .i64 (a7.1)), (6, v0), (7, Value.int .i64 (List.length p0 : Int)), (8, Value.int .i64 (a7.2))]) (fun a7 b8 => []) (fun a7 b8 => [Sl RI64 v0 p0]) ((-1 : Int), (0 : Int)) (()) h (by repeat (first | exact SubF.nil | refine SubF.cons rfl ?_)) (SubM.refl _) (LentAll.refl _ _) ?_
    clear h
    intro k9 a7 b8 h
    unfold graph_greatest_s1 at h
    refine J.seq ?_
    refine J.region ?_
    refine J.quiet (Y.lss rfl rfl) rfl ?_
    refine J.done ?_
    refine J.thenN ?_
    refine J.seq ?_
    refine J.condD (by exact rfl) (fun hp10 => ?_) (fun hp10 => ?_)
    · replace h := ifP hp10 h
      refine J.skip ?_
      refine J.thenN ?_
      refine J.seq ?_
      refine J.block ?_
      refine J.seq ?_
      refine J.region ?_
      replace h := ck_some h; obtain ⟨hc11, h⟩ := h
      refine J.quiet (Y.indexS rfl rfl (Lent.fact 0 rfl) rfl rfl hc11) rfl ?_
      refine J.quiet (Y.loadS0 rfl (Lent.fact 0 rfl) rfl rfl rfl RI64c0 hc11) rfl ?_
      refine J.quiet (Y.assign rfl) rfl ?_
      refine J.done ?_
      refine J.thenN ?_
      refine J.region ?_
      refine J.quiet (Y.move rfl) rfl ?_
      refine J.quiet (Y.move rfl) rfl ?_
      refine J.quiet (Y.max rfl rfl) rfl ?_
      refine J.quiet (Y.assign rfl) rfl ?_
      refine J.done ?_
      refine J.inN ?_
      refine J.thenN ?_
      refine J.region ?_
      refine J.quiet (Y.addW rfl rfl) rfl ?_
      refine J.quiet (Y.move rfl) rfl ?_
      refine J.done ?_
      refine J.thenN ?_
      exact J.againI ((max a7.1 (at' p0 a7.2)), (wI .i64 (a7.2 + (1 : Int)))) (()) h (by repeat (first | exact SubF.nil | refine SubF.cons rfl ?_)) (SubM.refl _) (LentAll.refl _ _)
    · replace h := ifN hp10 h
      refine J.exit ?_
      refine J.thenX ?_
      refine J.thenX ?_
      refine J.inX ?_
      refine J.thenN ?_
      exact J.meetI (a7.1) (()) h (by repeat (first | exact SubF.nil | refine SubF.cons rfl ?_)) (SubM.refl _) (LentAll.refl _ _)
  · clear h
    intro a2 b3 h
    unfold graph_greatest_k1 at h
    refine J.seq ?_
    refine J.region ?_
    refine J.quiet (Y.move rfl) rfl ?_
    refine J.quiet (Y.assign rfl) rfl ?_
    refine J.done ?_
    refine J.thenN ?_
    refine J.ret ?_
    obtain rfl := Option.some.inj h
    exact J.retG1 (()) rfl rfl (RV.tmp rfl) (SubM.refl _) LentAll.nil

end Go.Proofs.Ytemhmmcakmidkaa
