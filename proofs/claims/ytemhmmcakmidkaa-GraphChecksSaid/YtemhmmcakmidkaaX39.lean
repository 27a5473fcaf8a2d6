/- The model of graph.Size and the proof that the function meets it, by program (gen/xt.py). Conditions: none. -/
import Derived.Test.YtemhmmcakmidkaaX64
namespace Go.Proofs.Ytemhmmcakmidkaa
open Go.Sx
set_option linter.unusedVariables false
set_option linter.unusedSimpArgs false

def graph_Size_k1 (p0 : List (Int) × (List (List (Int × Int)))) (a7 : Int) : Option (Int × Int) :=
  ck ((2 : Int) ≠ 0) (some ((List.length p0.1 : Int), (wI .i64 (Int.tdiv a7 (2 : Int)))))
def graph_Size_s1 (p0 : List (Int) × (List (List (Int × Int)))) (a13 : Int × Int) (ag12 : (Int × Int) → Option (Int × Int)) : Option (Int × Int) :=
  if a13.2 < (List.length p0.2 : Int) then (ck (0 ≤ a13.2 ∧ a13.2 < (List.length p0.2 : Int)) (ag12 ((wI .i64 (a13.1 + (List.length (at' p0.2 a13.2) : Int))), (wI .i64 (a13.2 + (1 : Int)))))) else (graph_Size_k1 p0 (a13.1))
def m_graph_Size (fuel : Nat) (p0 : List (Int) × (List (List (Int × Int)))) : Option (Int × Int) :=
  Option.bind (m_graph_Valid fuel ((p0.1, p0.2))) fun r2 => (if (!r2) = true then (some ((0 : Int), (0 : Int))) else (iter (graph_Size_s1 p0) fuel ((0 : Int), (0 : Int))))

theorem body39 : HasBody Try.prog 39 := Try.call39

set_option maxHeartbeats 4000000 in
set_option maxRecDepth 20000 in
theorem t_graph_Size (fuel : Nat) {p0 : List (Int) × (List (List (Int × Int)))} (v0 : Value)  (v1 : Value)  (z2 : List (Value × List (Int × Int))) (r : Int × Int) (h : m_graph_Size fuel p0 = some r) :
    Meets Try.prog 39 #[Value.agg #[v0, v1]] [Sl RI64 v0 p0.1, S2 RI64I64p v1 z2 p0.2] (fun x : Unit => Value.tuple #[Value.int .i64 (r.1), Value.int .i64 (r.2)]) (fun x l => l) (fun _ l => l) := by
  refine Meets.of (vs := [Value.agg #[v0, v1]]) Try.func39 rfl Try.ntmps39 rfl fun c => ?_
  unfold m_graph_Size at h
  refine J.seq ?_
  refine J.region ?_
  refine J.loud (Loud.box (cs := [v0, v1]) rfl rfl) rfl fun b1 => ?_
  refine J.quiet (Y.assign rfl) rfl ?_
  refine J.quiet (Y.assign rfl) rfl ?_
  refine J.done ?_
  refine J.thenN ?_
  refine J.seq ?_
  refine J.seq ?_
  refine J.region ?_
  refine J.quiet (Y.loadBAll 0 rfl rfl rfl rfl) rfl ?_
  replace h := bnd h; obtain ⟨r2, hr3, h⟩ := h
  refine J.loud (Loud.callL body64 (t_graph_Valid fuel v0 v1 z2 r2 hr3) rfl (LentAll.cons (Lent.fact 0 rfl) (LentAll.cons (Lent.fact 1 rfl) (LentAll.nil))) (fun _ _ => rfl)) rfl fun x4 => ?_
  refine J.quiet (Y.not rfl) rfl ?_
  refine J.done ?_
  refine J.thenN ?_
  refine J.cond (by exact rfl) (fun hp5 => ?_) (fun hp5 => ?_)
  · replace h := ifP hp5 h
    refine J.seq ?_
    refine J.region ?_
    refine J.quiet (Y.assign rfl) rfl ?_
    refine J.quiet (Y.assign rfl) rfl ?_
    refine J.done ?_
    refine J.thenN ?_
    refine J.ret ?_
    refine J.thenR ?_
    obtain rfl := Option.some.inj h
    exact J.retG2 (()) rfl rfl (RV.tmp rfl) (RV.tmp rfl) (SubM.nil) LentAll.nil
  · replace h := ifBN hp5 h
    refine J.skip ?_
    refine J.thenN ?_
    refine J.seq ?_
    refine J.midI (A := Int) (B := Unit) (fun a7 => graph_Size_k1 p0 a7 = some r) (fun a7 b8 => [(1, Value.pointer (some ⟨b1, 0, none⟩)), (3, Value.int .i64 (a7))]) (fun a7 b8 => [Blk b1 [v0, v1] 26]) (fun a7 b8 => [Sl RI64 v0 p0.1, S2 RI64I64p v1 z2 p0.2]) ?_ ?_
    · refine J.seq ?_
      refine J.region ?_
      refine J.quiet (Y.fieldB rfl rfl rfl rfl rfl) rfl ?_
      refine J.quiet (Y.loadB 0 rfl rfl rfl rfl rfl) rfl ?_
      refine J.quiet (Y.lenN rfl (Lent.fact 1 rfl) rfl) rfl ?_
      refine J.quiet (Y.move rfl) rfl ?_
      refine J.done ?_
      refine J.thenN ?_
      refine J.block ?_
      refine J.loopI (A := Int × Int) (B := Unit) (graph_Size_s1 p0) (fun a13 b14 => [(1, Value.pointer (some ⟨b1, 0, none⟩)), (3, Value.int .i64 (a13.1)), (10, v1), (11, Value.int .i64 (List.length p0.2 : Int)), (12, Value.int .i64 (a13.2))]) (fun a13 b14 => [Blk b1 [v0, v1] 26]) (fun a13 b14 => [Sl RI64 v0 p0.1, S2 RI64I64p v1 z2 p0.2]) ((0 : Int), (0 : Int)) (()) h (by repeat (first | exact SubF.nil | refine SubF.cons rfl ?_)) (SubM.refl _) (LentAll.refl _ _) ?_
      clear h
      intro k15 a13 b14 h
      unfold graph_Size_s1 at h
      refine J.seq ?_
      refine J.region ?_
      refine J.quiet (Y.lss rfl rfl) rfl ?_
      refine J.done ?_
      refine J.thenN ?_
      refine J.seq ?_
      refine J.condD (by exact rfl) (fun hp16 => ?_) (fun hp16 => ?_)
      · replace h := ifP hp16 h
        refine J.skip ?_
        refine J.thenN ?_
        refine J.seq ?_
        refine J.block ?_
        refine J.seq ?_
        refine J.region ?_
        replace h := ck_some h; obtain ⟨hc17, h⟩ := h
        refine J.quiet (Y.indexN rfl rfl (Lent.fact 1 rfl) rfl rfl hc17) rfl ?_
        refine J.quiet (Y.loadRow rfl (Lent.fact 1 rfl) rfl rfl hc17) rfl ?_
        refine J.quiet (Y.assign rfl) rfl ?_
        refine J.done ?_
        refine J.thenN ?_
        refine J.region ?_
        refine J.quiet (Y.move rfl) rfl ?_
        refine J.quiet (Y.move rfl) rfl ?_
        refine J.quiet (Y.lenS rfl (Lent.el (Lent.fact 1 rfl) hc17.1 hc17.2) rfl) rfl ?_
        refine J.quiet (Y.addW rfl rfl) rfl ?_
        refine J.quiet (Y.assign rfl) rfl ?_
        refine J.done ?_
        refine J.inN ?_
        refine J.thenN ?_
        refine J.region ?_
        refine J.quiet (Y.addW rfl rfl) rfl ?_
        refine J.quiet (Y.move rfl) rfl ?_
        refine J.done ?_
        refine J.thenN ?_
        exact J.againI ((wI .i64 (a13.1 + (List.length (at' p0.2 a13.2) : Int))), (wI .i64 (a13.2 + (1 : Int)))) (()) h (by repeat (first | exact SubF.nil | refine SubF.cons rfl ?_)) (SubM.refl _) (LentAll.refl _ _)
      · replace h := ifN hp16 h
        refine J.exit ?_
        refine J.thenX ?_
        refine J.thenX ?_
        refine J.inX ?_
        refine J.thenN ?_
        exact J.meetI (a13.1) (()) h (by repeat (first | exact SubF.nil | refine SubF.cons rfl ?_)) (SubM.refl _) (LentAll.refl _ _)
    · clear h
      intro a7 b8 h
      unfold graph_Size_k1 at h
      refine J.seq ?_
      refine J.region ?_
      refine J.quiet (Y.fieldB rfl rfl rfl rfl rfl) rfl ?_
      refine J.quiet (Y.loadB 0 rfl rfl rfl rfl rfl) rfl ?_
      refine J.quiet (Y.lenS rfl (Lent.fact 0 rfl) rfl) rfl ?_
      refine J.quiet (Y.move rfl) rfl ?_
      replace h := ck_some h; obtain ⟨hc9, h⟩ := h
      refine J.quiet (Y.quoW rfl rfl hc9) rfl ?_
      refine J.quiet (Y.assign rfl) rfl ?_
      refine J.quiet (Y.assign rfl) rfl ?_
      refine J.done ?_
      refine J.thenN ?_
      refine J.ret ?_
      obtain rfl := Option.some.inj h
      exact J.retG2 (()) rfl rfl (RV.tmp rfl) (RV.tmp rfl) (SubM.nil) LentAll.nil

end Go.Proofs.Ytemhmmcakmidkaa
