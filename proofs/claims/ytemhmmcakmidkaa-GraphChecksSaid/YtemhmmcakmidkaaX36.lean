/- The model of graph.Diameter and the proof that the function meets it, by program (gen/xt.py). Conditions: none. -/
import Derived.Test.YtemhmmcakmidkaaX37
import Derived.Test.YtemhmmcakmidkaaX81
import Derived.Test.YtemhmmcakmidkaaX82
namespace Go.Proofs.Ytemhmmcakmidkaa
open Go.Sx
set_option linter.unusedVariables false
set_option linter.unusedSimpArgs false

def graph_Diameter_k1  (a7 : Int) : Option (Int) :=
  some (a7)
def graph_Diameter_s1 (fuel : Nat) (p0 : List (Int) × (List (List (Int × Int)))) (a12 : Int × Int) (ag11 : (Int × Int) → Option (Int)) : Option (Int) :=
  if a12.2 < (List.length p0.2 : Int) then (Option.bind (m_graph_search fuel ((p0.1, p0.2)) a12.2) fun r16 => (Option.bind (m_graph_greatest fuel r16) fun r19 => (ag11 ((max a12.1 r19), (wI .i64 (a12.2 + (1 : Int))))))) else (graph_Diameter_k1  (a12.1))
def m_graph_Diameter (fuel : Nat) (p0 : List (Int) × (List (List (Int × Int)))) : Option (Int) :=
  Option.bind (m_graph_Connected fuel ((p0.1, p0.2))) fun r2 => (if (!r2) = true then (some (-1 : Int)) else (iter (graph_Diameter_s1 fuel p0) fuel ((0 : Int), (0 : Int))))

theorem body36 : HasBody Try.prog 36 := Try.call36

set_option maxHeartbeats 4000000 in
set_option maxRecDepth 20000 in
theorem t_graph_Diameter (fuel : Nat) {p0 : List (Int) × (List (List (Int × Int)))} (v0 : Value)  (v1 : Value)  (z2 : List (Value × List (Int × Int))) (r : Int) (h : m_graph_Diameter fuel p0 = some r) :
    Meets Try.prog 36 #[Value.agg #[v0, v1]] [Sl RI64 v0 p0.1, S2 RI64I64p v1 z2 p0.2] (fun x : Unit => Value.int .i64 (r)) (fun x l => l) (fun _ l => l) := by
  refine Meets.of (vs := [Value.agg #[v0, v1]]) Try.func36 rfl Try.ntmps36 rfl fun c => ?_
  unfold m_graph_Diameter at h
  refine J.seq ?_
  refine J.region ?_
  refine J.loud (Loud.box (cs := [v0, v1]) rfl rfl) rfl fun b1 => ?_
  refine J.quiet (Y.assign rfl) rfl ?_
  refine J.done ?_
  refine J.thenN ?_
  refine J.seq ?_
  refine J.seq ?_
  refine J.region ?_
  refine J.quiet (Y.loadBAll 0 rfl rfl rfl rfl) rfl ?_
  replace h := bnd h; obtain ⟨r2, hr3, h⟩ := h
  refine J.loud (Loud.callL body37 (t_graph_Connected fuel v0 v1 z2 r2 hr3) rfl (LentAll.cons (Lent.fact 0 rfl) (LentAll.cons (Lent.fact 1 rfl) (LentAll.nil))) (fun _ _ => rfl)) rfl fun x4 => ?_
  refine J.quiet (Y.not rfl) rfl ?_
  refine J.done ?_
  refine J.thenN ?_
  refine J.cond (by exact rfl) (fun hp5 => ?_) (fun hp5 => ?_)
  · replace h := ifP hp5 h
    refine J.seq ?_
    refine J.region ?_
    refine J.quiet (Y.assign rfl) rfl ?_
    refine J.done ?_
    refine J.thenN ?_
    refine J.ret ?_
    refine J.thenR ?_
    obtain rfl := Option.some.inj h
    exact J.retG1 (()) rfl rfl (RV.tmp rfl) (SubM.nil) LentAll.nil
  · replace h := ifBN hp5 h
    refine J.skip ?_
    refine J.thenN ?_
    refine J.seq ?_
    refine J.region ?_
    refine J.quiet (Y.assign rfl) rfl ?_
    refine J.done ?_
    refine J.thenN ?_
    refine J.seq ?_
    refine J.midI (A := Int) (B := Unit) (fun a7 => graph_Diameter_k1  a7 = some r) (fun a7 b8 => [(3, Value.int .i64 (a7))]) (fun a7 b8 => []) (fun a7 b8 => [Sl RI64 v0 p0.1, S2 RI64I64p v1 z2 p0.2]) ?_ ?_
    · refine J.seq ?_
      refine J.region ?_
      refine J.quiet (Y.fieldB rfl rfl rfl rfl rfl) rfl ?_
      refine J.quiet (Y.loadB 0 rfl rfl rfl rfl rfl) rfl ?_
      refine J.quiet (Y.lenN rfl (Lent.fact 1 rfl) rfl) rfl ?_
      refine J.quiet (Y.move rfl) rfl ?_
      refine J.done ?_
      refine J.thenN ?_
      refine J.block ?_
      refine J.loopI (A := Int × Int) (B := Unit) (graph_Diameter_s1 fuel p0) (fun a12 b13 => [(1, Value.pointer (some ⟨b1, 0, none⟩)), (3, Value.int .i64 (a12.1)), (10, Value.int .i64 (List.length p0.2 : Int)), (11, Value.int .i64 (a12.2))]) (fun a12 b13 => [Blk b1 [v0, v1] 26]) (fun a12 b13 => [Sl RI64 v0 p0.1, S2 RI64I64p v1 z2 p0.2]) ((0 : Int), (0 : Int)) (()) h (by repeat (first | exact SubF.nil | refine SubF.cons rfl ?_)) (SubM.refl _) (LentAll.refl _ _) ?_
      clear h
      intro k14 a12 b13 h
      unfold graph_Diameter_s1 at h
      refine J.seq ?_
      refine J.region ?_
      refine J.quiet (Y.lss rfl rfl) rfl ?_
      refine J.done ?_
      refine J.thenN ?_
      refine J.seq ?_
      refine J.condD (by exact rfl) (fun hp15 => ?_) (fun hp15 => ?_)
      · replace h := ifP hp15 h
        refine J.skip ?_
        refine J.thenN ?_
        refine J.seq ?_
        refine J.block ?_
        refine J.seq ?_
        refine J.region ?_
        refine J.quiet (Y.move rfl) rfl ?_
        refine J.quiet (Y.assign rfl) rfl ?_
        refine J.done ?_
        refine J.thenN ?_
        refine J.region ?_
        refine J.quiet (Y.move rfl) rfl ?_
        refine J.quiet (Y.loadBAll 0 rfl rfl rfl rfl) rfl ?_
        refine J.quiet (Y.move rfl) rfl ?_
        replace h := bnd h; obtain ⟨r16, hr17, h⟩ := h
        refine J.loud (Loud.callL body81 (t_graph_search fuel v0 v1 z2 r16 hr17) rfl (LentAll.cons (Lent.fact 0 rfl) (LentAll.cons (Lent.fact 1 rfl) (LentAll.nil))) (fun _ _ => rfl)) rfl fun x18 => ?_
        replace h := bnd h; obtain ⟨r19, hr20, h⟩ := h
        refine J.loud (Loud.callL body82 (t_graph_greatest fuel x18 r19 hr20) rfl (LentAll.cons (Lent.ar (Lent.res 0 rfl) FI64) (LentAll.nil)) (fun _ _ => rfl)) rfl fun x21 => ?_
        refine J.quiet (Y.max rfl rfl) rfl ?_
        refine J.quiet (Y.assign rfl) rfl ?_
        refine J.done ?_
        refine J.inN ?_
        refine J.thenN ?_
        refine J.region ?_
        refine J.quiet (Y.addW rfl rfl) rfl ?_
        refine J.quiet (Y.move rfl) rfl ?_
        refine J.done ?_
        refine J.thenN ?_
        exact J.againI ((max a12.1 r19), (wI .i64 (a12.2 + (1 : Int)))) (()) h (by repeat (first | exact SubF.nil | refine SubF.cons rfl ?_)) (SubM.cons 1 rfl (SubM.nil)) (LentAll.refl _ _)
      · replace h := ifN hp15 h
        refine J.exit ?_
        refine J.thenX ?_
        refine J.thenX ?_
        refine J.inX ?_
        refine J.thenN ?_
        exact J.meetI (a12.1) (()) h (by repeat (first | exact SubF.nil | refine SubF.cons rfl ?_)) (SubM.nil) (LentAll.refl _ _)
    · clear h
      intro a7 b8 h
      unfold graph_Diameter_k1 at h
      refine J.seq ?_
      refine J.region ?_
      refine J.quiet (Y.move rfl) rfl ?_
      refine J.quiet (Y.assign rfl) rfl ?_
      refine J.done ?_
      refine J.thenN ?_
      refine J.ret ?_
      obtain rfl := Option.some.inj h
      exact J.retG1 (()) rfl rfl (RV.tmp rfl) (SubM.refl _) LentAll.nil

end Go.Proofs.Ytemhmmcakmidkaa
