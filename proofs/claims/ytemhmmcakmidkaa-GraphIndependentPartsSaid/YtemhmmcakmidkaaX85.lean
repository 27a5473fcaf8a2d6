/- The model of graph.around and the proof that the function meets it, by program (gen/xt.py). Conditions: none. -/
import Derived.Test.YtemhmmcakmidkaaXp
namespace Go.Proofs.Ytemhmmcakmidkaa
open Go.Sx
set_option linter.unusedVariables false
set_option linter.unusedSimpArgs false

def graph_around_k1  (a3 : Int) : Option (Int) :=
  some (a3)
def graph_around_k2 (a8 : Int × Int) (ag7 : (Int × Int) → Option (Int)) (a13 : Int) : Option (Int) :=
  ag7 (a13, (wI .i64 (a8.2 + (1 : Int))))
def graph_around_k3 (a19 : Int × Int) (ag18 : (Int × Int) → Option (Int)) (a24 : Int) : Option (Int) :=
  ag18 (a24, (wI .i64 (a19.2 + (1 : Int))))
def graph_around_s2 (p0 : List (Int) × (List (List (Int × Int)))) (p1 : Int) (a8 : Int × Int) (ag7 : (Int × Int) → Option (Int)) (a19 : Int × Int) (ag18 : (Int × Int) → Option (Int)) : Option (Int) :=
  if a19.2 < (List.length (at' p0.2 a8.2) : Int) then (ck (0 ≤ a19.2 ∧ a19.2 < (List.length (at' p0.2 a8.2) : Int)) (ck (0 ≤ ((at' (at' p0.2 a8.2) a19.2).1)) (if (bAnd .u32 (bShr .u32 p1 ((at' (at' p0.2 a8.2) a19.2).1)) (1 : Int)) = (1 : Int) then (ck (0 ≤ a8.2) (graph_around_k3 a19 ag18 (bOr .u32 a19.1 (bShl .u32 (1 : Int) a8.2)))) else (graph_around_k3 a19 ag18 (a19.1))))) else (graph_around_k2 a8 ag7 (a19.1))
def graph_around_s1 (fuel : Nat) (p0 : List (Int) × (List (List (Int × Int)))) (p1 : Int) (a8 : Int × Int) (ag7 : (Int × Int) → Option (Int)) : Option (Int) :=
  if a8.2 < (List.length p0.2 : Int) then (ck (0 ≤ a8.2 ∧ a8.2 < (List.length p0.2 : Int)) (iter (graph_around_s2 p0 p1 a8 ag7) fuel (a8.1, (0 : Int)))) else (graph_around_k1  (a8.1))
def m_graph_around (fuel : Nat) (p0 : List (Int) × (List (List (Int × Int)))) (p1 : Int) : Option (Int) :=
  iter (graph_around_s1 fuel p0 p1) fuel ((0 : Int), (0 : Int))

theorem body85 : HasBody Try.prog 85 := Try.call85

set_option maxHeartbeats 4000000 in
set_option maxRecDepth 20000 in
theorem t_graph_around (fuel : Nat) {p0 : List (Int) × (List (List (Int × Int)))} {p1 : Int} (v0 : Value)  (v1 : Value)  (z2 : List (Value × List (Int × Int))) (r : Int) (h : m_graph_around fuel p0 p1 = some r) :
    Meets Try.prog 85 #[Value.agg #[v0, v1], Value.int .u32 (p1)] [Sl RI64 v0 p0.1, S2 RI64I64p v1 z2 p0.2] (fun x : Unit => Value.int .u32 (r)) (fun x l => l) (fun _ l => l) := by
  refine Meets.of (vs := [Value.agg #[v0, v1], Value.int .u32 (p1)]) Try.func85 rfl Try.ntmps85 rfl fun c => ?_
  unfold m_graph_around at h
  refine J.seq ?_
  refine J.region ?_
  refine J.loud (Loud.box (cs := [v0, v1]) rfl rfl) rfl fun b1 => ?_
  refine J.quiet (Y.assign rfl) rfl ?_
  refine J.done ?_
  refine J.thenN ?_
  refine J.seq ?_
  refine J.region ?_
  refine J.quiet (Y.assign rfl) rfl ?_
  refine J.done ?_
  refine J.thenN ?_
  refine J.seq ?_
  refine J.midI (A := Int) (B := Unit) (fun a3 => graph_around_k1  a3 = some r) (fun a3 b4 => [(5, Value.int .u32 (a3))]) (fun a3 b4 => []) (fun a3 b4 => [Sl RI64 v0 p0.1, S2 RI64I64p v1 z2 p0.2]) ?_ ?_
  · refine J.seq ?_
    refine J.region ?_
    refine J.quiet (Y.fieldB rfl rfl rfl rfl rfl) rfl ?_
    refine J.quiet (Y.loadB 0 rfl rfl rfl rfl rfl) rfl ?_
    refine J.quiet (Y.lenN rfl (Lent.fact 1 rfl) rfl) rfl ?_
    refine J.quiet (Y.move rfl) rfl ?_
    refine J.done ?_
    refine J.thenN ?_
    refine J.block ?_
    refine J.loopI (A := Int × Int) (B := Unit) (graph_around_s1 fuel p0 p1) (fun a8 b9 => [(1, Value.int .u32 (p1)), (5, Value.int .u32 (a8.1)), (11, v1), (12, Value.int .i64 (List.length p0.2 : Int)), (13, Value.int .i64 (a8.2))]) (fun a8 b9 => []) (fun a8 b9 => [Sl RI64 v0 p0.1, S2 RI64I64p v1 z2 p0.2]) ((0 : Int), (0 : Int)) (()) h (by repeat (first | exact SubF.nil | refine SubF.cons rfl ?_)) (SubM.nil) (LentAll.refl _ _) ?_
    clear h
    intro k10 a8 b9 h
    unfold graph_around_s1 at h
    refine J.seq ?_
    refine J.region ?_
    refine J.quiet (Y.lss rfl rfl) rfl ?_
    refine J.done ?_
    refine J.thenN ?_
    refine J.seq ?_
    refine J.condD (by exact rfl) (fun hp11 => ?_) (fun hp11 => ?_)
    · replace h := ifP hp11 h
      refine J.skip ?_
      refine J.thenN ?_
      refine J.seq ?_
      refine J.midI (A := Int) (B := Unit) (fun a13 => graph_around_k2 a8 (iter (graph_around_s1 fuel p0 p1) k10) a13 = some r) (fun a13 b14 => [(1, Value.int .u32 (p1)), (5, Value.int .u32 (a13)), (11, v1), (12, Value.int .i64 (List.length p0.2 : Int)), (13, Value.int .i64 (a8.2))]) (fun a13 b14 => []) (fun a13 b14 => [Sl RI64 v0 p0.1, S2 RI64I64p v1 z2 p0.2]) ?_ ?_
      · refine J.block ?_
        refine J.seq ?_
        refine J.region ?_
        refine J.quiet (Y.move rfl) rfl ?_
        replace h := ck_some h; obtain ⟨hc15, h⟩ := h
        refine J.quiet (Y.indexN rfl rfl (Lent.fact 1 rfl) rfl rfl hc15) rfl ?_
        refine J.quiet (Y.loadRow rfl (Lent.fact 1 rfl) rfl rfl hc15) rfl ?_
        refine J.quiet (Y.assign rfl) rfl ?_
        refine J.quiet (Y.assign rfl) rfl ?_
        refine J.done ?_
        refine J.thenN ?_
        refine J.seq ?_
        refine J.region ?_
        refine J.quiet (Y.move rfl) rfl ?_
        refine J.quiet (Y.lenS rfl (Lent.el (Lent.fact 1 rfl) hc15.1 hc15.2) rfl) rfl ?_
        refine J.quiet (Y.move rfl) rfl ?_
        refine J.done ?_
        refine J.thenN ?_
        refine J.block ?_
        refine J.loopI (A := Int × Int) (B := Unit) (graph_around_s2 p0 p1 a8 (iter (graph_around_s1 fuel p0 p1) k10)) (fun a19 b20 => [(1, Value.int .u32 (p1)), (5, Value.int .u32 (a19.1)), (6, Value.int .i64 (a8.2)), (11, v1), (12, Value.int .i64 (List.length p0.2 : Int)), (13, Value.int .i64 (a8.2)), (18, (at' z2 a8.2).1), (19, Value.int .i64 (List.length (at' p0.2 a8.2) : Int)), (20, Value.int .i64 (a19.2))]) (fun a19 b20 => []) (fun a19 b20 => [Sl RI64 v0 p0.1, S2 RI64I64p v1 z2 p0.2]) (a8.1, (0 : Int)) (()) h (by repeat (first | exact SubF.nil | refine SubF.cons rfl ?_)) (SubM.refl _) (LentAll.refl _ _) ?_
        clear h
        intro k21 a19 b20 h
        unfold graph_around_s2 at h
        refine J.seq ?_
        refine J.region ?_
        refine J.quiet (Y.lss rfl rfl) rfl ?_
        refine J.done ?_
        refine J.thenN ?_
        refine J.seq ?_
        refine J.condD (by exact rfl) (fun hp22 => ?_) (fun hp22 => ?_)
        · replace h := ifP hp22 h
          refine J.skip ?_
          refine J.thenN ?_
          refine J.seq ?_
          refine J.midI (A := Int) (B := Unit) (fun a24 => graph_around_k3 a19 (iter (graph_around_s2 p0 p1 a8 (iter (graph_around_s1 fuel p0 p1) k10)) k21) a24 = some r) (fun a24 b25 => [(1, Value.int .u32 (p1)), (5, Value.int .u32 (a24)), (6, Value.int .i64 (a8.2)), (11, v1), (12, Value.int .i64 (List.length p0.2 : Int)), (13, Value.int .i64 (a8.2)), (18, (at' z2 a8.2).1), (19, Value.int .i64 (List.length (at' p0.2 a8.2) : Int)), (20, Value.int .i64 (a19.2))]) (fun a24 b25 => []) (fun a24 b25 => [Sl RI64 v0 p0.1, S2 RI64I64p v1 z2 p0.2]) ?_ ?_
          · refine J.block ?_
            refine J.seq ?_
            refine J.region ?_
            replace h := ck_some h; obtain ⟨hc26, h⟩ := h
            refine J.quiet (Y.indexS rfl rfl (Lent.el (Lent.fact 1 rfl) hc15.1 hc15.2) rfl rfl hc26) rfl ?_
            refine J.quiet (Y.loadAggS (cs := [Value.int .i64 ((at' (at' p0.2 a8.2) a19.2).1), Value.int .i64 ((at' (at' p0.2 a8.2) a19.2).2)]) rfl (Lent.el (Lent.fact 1 rfl) hc15.1 hc15.2) FI64I64p rfl rfl rfl rfl hc26) rfl ?_
            refine J.loud (Loud.alloc (cs := [Value.int .i64 (0 : Int), Value.int .i64 (0 : Int)]) rfl rfl) rfl fun b27 => ?_
            refine J.storeAll 0 (vs := [Value.int .i64 ((at' (at' p0.2 a8.2) a19.2).1), Value.int .i64 ((at' (at' p0.2 a8.2) a19.2).2)]) rfl rfl rfl rfl rfl rfl ?_
            refine J.done ?_
            refine J.thenN ?_
            refine J.seq ?_
            refine J.region ?_
            refine J.quiet (Y.move rfl) rfl ?_
            refine J.quiet (Y.fieldB rfl rfl rfl rfl rfl) rfl ?_
            refine J.quiet (Y.loadB 0 rfl rfl rfl rfl rfl) rfl ?_
            replace h := ck_some h; obtain ⟨hc28, h⟩ := h
            refine J.quiet (Y.shr rfl rfl hc28) rfl ?_
            refine J.quiet (Y.and rfl rfl) rfl ?_
            refine J.quiet (Y.eql rfl rfl) rfl ?_
            refine J.done ?_
            refine J.thenN ?_
            refine J.condD (by exact rfl) (fun hp29 => ?_) (fun hp29 => ?_)
            · replace h := ifP hp29 h
              refine J.region ?_
              refine J.quiet (Y.move rfl) rfl ?_
              refine J.quiet (Y.move rfl) rfl ?_
              replace h := ck_some h; obtain ⟨hc30, h⟩ := h
              refine J.quiet (Y.shl rfl rfl hc30) rfl ?_
              refine J.quiet (Y.or rfl rfl) rfl ?_
              refine J.quiet (Y.assign rfl) rfl ?_
              refine J.done ?_
              refine J.inN ?_
              refine J.thenN ?_
              exact J.meetI (bOr .u32 a19.1 (bShl .u32 (1 : Int) a8.2)) (()) h (by repeat (first | exact SubF.nil | refine SubF.cons rfl ?_)) (SubM.nil) (LentAll.refl _ _)
            · replace h := ifN hp29 h
              refine J.skip ?_
              refine J.inN ?_
              refine J.thenN ?_
              exact J.meetI (a19.1) (()) h (by repeat (first | exact SubF.nil | refine SubF.cons rfl ?_)) (SubM.nil) (LentAll.refl _ _)
          · clear h
            intro a24 b25 h
            unfold graph_around_k3 at h
            refine J.region ?_
            refine J.quiet (Y.addW rfl rfl) rfl ?_
            refine J.quiet (Y.move rfl) rfl ?_
            refine J.done ?_
            refine J.thenN ?_
            exact J.againI (a24, (wI .i64 (a19.2 + (1 : Int)))) (()) h (by repeat (first | exact SubF.nil | refine SubF.cons rfl ?_)) (SubM.refl _) (LentAll.refl _ _)
        · replace h := ifN hp22 h
          refine J.exit ?_
          refine J.thenX ?_
          refine J.thenX ?_
          refine J.inX ?_
          refine J.inN ?_
          refine J.thenN ?_
          exact J.meetI (a19.1) (()) h (by repeat (first | exact SubF.nil | refine SubF.cons rfl ?_)) (SubM.refl _) (LentAll.refl _ _)
      · clear h
        intro a13 b14 h
        unfold graph_around_k2 at h
        refine J.region ?_
        refine J.quiet (Y.addW rfl rfl) rfl ?_
        refine J.quiet (Y.move rfl) rfl ?_
        refine J.done ?_
        refine J.thenN ?_
        exact J.againI (a13, (wI .i64 (a8.2 + (1 : Int)))) (()) h (by repeat (first | exact SubF.nil | refine SubF.cons rfl ?_)) (SubM.refl _) (LentAll.refl _ _)
    · replace h := ifN hp11 h
      refine J.exit ?_
      refine J.thenX ?_
      refine J.thenX ?_
      refine J.inX ?_
      refine J.thenN ?_
      exact J.meetI (a8.1) (()) h (by repeat (first | exact SubF.nil | refine SubF.cons rfl ?_)) (SubM.refl _) (LentAll.refl _ _)
  · clear h
    intro a3 b4 h
    unfold graph_around_k1 at h
    refine J.seq ?_
    refine J.region ?_
    refine J.quiet (Y.move rfl) rfl ?_
    refine J.quiet (Y.assign rfl) rfl ?_
    refine J.done ?_
    refine J.thenN ?_
    refine J.ret ?_
    obtain rfl := Option.some.inj h
    exact J.retG1 (()) rfl rfl (RV.tmp rfl) (SubM.refl _) LentAll.nil

end Go.Proofs.Ytemhmmcakmidkaa
