/- The model of graph.search and the proof that the function meets it, by program (gen/xt.py). Conditions: none. -/
import Derived.Test.YtemhmmcakmidkaaXp
namespace Go.Proofs.Ytemhmmcakmidkaa
open Go.Sx
set_option linter.unusedVariables false
set_option linter.unusedSimpArgs false

def graph_search_k2  (a10 : List (Int)) : Option (List (Int)) :=
  some (a10)
def graph_search_k3 (a29 : Int × List (Int) × List (Int)) (ag28 : (Int × List (Int) × List (Int)) → Option (List (Int))) (a36 : List (Int) × List (Int)) : Option (List (Int)) :=
  ag28 ((wI .i64 (a29.1 + (1 : Int))), a36.1, a36.2)
def graph_search_s2 (p0 : List (Int) × (List (List (Int × Int)))) (a16 : List (Int) × List (Int)) (ag15 : (List (Int) × List (Int)) → Option (List (Int))) (a29 : Int × List (Int) × List (Int)) (ag28 : (Int × List (Int) × List (Int)) → Option (List (Int))) : Option (List (Int)) :=
  if a29.1 < (List.length (at' p0.2 (at' a16.1 (0 : Int))) : Int) then (ck (0 ≤ a29.1 ∧ a29.1 < (List.length (at' p0.2 (at' a16.1 (0 : Int))) : Int)) (ck (0 ≤ ((at' (at' p0.2 (at' a16.1 (0 : Int))) a29.1).1) ∧ ((at' (at' p0.2 (at' a16.1 (0 : Int))) a29.1).1) < (List.length a29.2.2 : Int)) (if (at' a29.2.2 ((at' (at' p0.2 (at' a16.1 (0 : Int))) a29.1).1)) < (0 : Int) then (ck (0 ≤ (at' a16.1 (0 : Int)) ∧ (at' a16.1 (0 : Int)) < (List.length a29.2.2 : Int)) (ck (0 ≤ ((at' (at' p0.2 (at' a16.1 (0 : Int))) a29.1).1) ∧ ((at' (at' p0.2 (at' a16.1 (0 : Int))) a29.1).1) < (List.length a29.2.2 : Int)) (ck ((List.length a29.2.1 : Int) + (List.length ([ ((at' (at' p0.2 (at' a16.1 (0 : Int))) a29.1).1)]) : Int) ≤ 1099511627) (graph_search_k3 a29 ag28 ((a29.2.1 ++ ([ ((at' (at' p0.2 (at' a16.1 (0 : Int))) a29.1).1)])), (List.set a29.2.2 (Int.toNat ((at' (at' p0.2 (at' a16.1 (0 : Int))) a29.1).1)) (wI .i64 ((at' a29.2.2 (at' a16.1 (0 : Int))) + (1 : Int))))))))) else (graph_search_k3 a29 ag28 (a29.2.1, a29.2.2))))) else (ag15 (a29.2.1, a29.2.2))
def graph_search_s1 (fuel : Nat) (p0 : List (Int) × (List (List (Int × Int)))) (a16 : List (Int) × List (Int)) (ag15 : (List (Int) × List (Int)) → Option (List (Int))) : Option (List (Int)) :=
  if (0 : Int) < (List.length a16.1 : Int) then (ck (0 ≤ (0 : Int) ∧ (0 : Int) < (List.length a16.1 : Int)) (ck (0 ≤ (1 : Int) ∧ (1 : Int) ≤ (List.length a16.1 : Int)) (ck (0 ≤ (at' a16.1 (0 : Int)) ∧ (at' a16.1 (0 : Int)) < (List.length p0.2 : Int)) (iter (graph_search_s2 p0 a16 ag15) fuel ((0 : Int), (List.drop (Int.toNat (1 : Int)) a16.1), a16.2))))) else (graph_search_k2  (a16.2))
def graph_search_k1 (fuel : Nat) (p0 : List (Int) × (List (List (Int × Int)))) (p1 : Int) (a5 : List (Int)) : Option (List (Int)) :=
  ck (0 ≤ p1 ∧ p1 < (List.length a5 : Int)) (iter (graph_search_s1 fuel p0) fuel (([p1]), (List.set a5 (Int.toNat p1) (0 : Int))))
def graph_search_s3 (fuel : Nat) (p0 : List (Int) × (List (List (Int × Int)))) (p1 : Int) (a50 : Int × List (Int)) (ag49 : (Int × List (Int)) → Option (List (Int))) : Option (List (Int)) :=
  if a50.1 < (List.length (List.replicate (Int.toNat (List.length p0.2 : Int)) (0 : Int)) : Int) then (ck (0 ≤ a50.1 ∧ a50.1 < (List.length a50.2 : Int)) (ag49 ((wI .i64 (a50.1 + (1 : Int))), (List.set a50.2 (Int.toNat a50.1) (-1 : Int))))) else (graph_search_k1 fuel p0 p1 (a50.2))
def m_graph_search (fuel : Nat) (p0 : List (Int) × (List (List (Int × Int)))) (p1 : Int) : Option (List (Int)) :=
  ck (0 ≤ (List.length p0.2 : Int) ∧ (List.length p0.2 : Int) ≤ 1099511627) (iter (graph_search_s3 fuel p0 p1) fuel ((0 : Int), (List.replicate (Int.toNat (List.length p0.2 : Int)) (0 : Int))))

theorem body81 : HasBody Try.prog 81 := Try.call81

set_option maxHeartbeats 4000000 in
set_option maxRecDepth 20000 in
theorem t_graph_search (fuel : Nat) {p0 : List (Int) × (List (List (Int × Int)))} {p1 : Int} (v0 : Value)  (v1 : Value)  (z2 : List (Value × List (Int × Int))) (r : List (Int)) (h : m_graph_search fuel p0 p1 = some r) :
    Meets Try.prog 81 #[Value.agg #[v0, v1], Value.int .i64 (p1)] [Sl RI64 v0 p0.1, S2 RI64I64p v1 z2 p0.2] (fun x : Value => x) (fun x l => Ar EI64 x r :: l) (fun _ l => l) := by
  refine Meets.of (vs := [Value.agg #[v0, v1], Value.int .i64 (p1)]) Try.func81 rfl Try.ntmps81 rfl fun c => ?_
  unfold m_graph_search at h
  refine J.seq ?_
  refine J.region ?_
  refine J.loud (Loud.box (cs := [v0, v1]) rfl rfl) rfl fun b1 => ?_
  refine J.quiet (Y.assign rfl) rfl ?_
  refine J.done ?_
  refine J.thenN ?_
  refine J.seq ?_
  refine J.region ?_
  refine J.quiet (Y.fieldB rfl rfl rfl rfl rfl) rfl ?_
  refine J.quiet (Y.loadB 0 rfl rfl rfl rfl rfl) rfl ?_
  refine J.quiet (Y.lenN rfl (Lent.fact 1 rfl) rfl) rfl ?_
  replace h := ck_some h; obtain ⟨hc2, h⟩ := h
  refine J.loud (Loud.makeS (e := EI64) (0 : Int) rfl rfl rfl rfl hc2 rfl rfl rfl) rfl fun u3 => ?_
  refine J.quiet (Y.assign rfl) rfl ?_
  refine J.done ?_
  refine J.thenN ?_
  refine J.seq ?_
  refine J.midI (A := List (Int)) (B := Unit) (fun a5 => graph_search_k1 fuel p0 p1 a5 = some r) (fun a5 b6 => [(1, Value.int .i64 (p1)), (2, Value.pointer (some ⟨b1, 0, none⟩)), (5, u3)]) (fun a5 b6 => [Ar EI64 u3 a5, Blk b1 [v0, v1] 26]) (fun a5 b6 => [Sl RI64 v0 p0.1, S2 RI64I64p v1 z2 p0.2]) ?_ ?_
  · refine J.seq ?_
    refine J.region ?_
    refine J.quiet (Y.move rfl) rfl ?_
    refine J.quiet (Y.lenS rfl (Lent.ar (Lent.res 0 rfl) FI64) rfl) rfl ?_
    refine J.quiet (Y.move rfl) rfl ?_
    refine J.done ?_
    refine J.thenN ?_
    refine J.block ?_
    refine J.loopI (A := Int × List (Int)) (B := Unit) (graph_search_s3 fuel p0 p1) (fun a50 b51 => [(1, Value.int .i64 (p1)), (2, Value.pointer (some ⟨b1, 0, none⟩)), (5, u3), (16, Value.int .i64 (List.length (List.replicate (Int.toNat (List.length p0.2 : Int)) (0 : Int)) : Int)), (17, Value.int .i64 (a50.1))]) (fun a50 b51 => [Ar EI64 u3 a50.2, Blk b1 [v0, v1] 26]) (fun a50 b51 => [Sl RI64 v0 p0.1, S2 RI64I64p v1 z2 p0.2]) ((0 : Int), (List.replicate (Int.toNat (List.length p0.2 : Int)) (0 : Int))) (()) h (by repeat (first | exact SubF.nil | refine SubF.cons rfl ?_)) (SubM.refl _) (LentAll.refl _ _) ?_
    clear h
    intro k52 a50 b51 h
    unfold graph_search_s3 at h
    refine J.seq ?_
    refine J.region ?_
    refine J.quiet (Y.lss rfl rfl) rfl ?_
    refine J.done ?_
    refine J.thenN ?_
    refine J.seq ?_
    refine J.condD (by exact rfl) (fun hp53 => ?_) (fun hp53 => ?_)
    · replace h := ifP hp53 h
      refine J.skip ?_
      refine J.thenN ?_
      refine J.seq ?_
      refine J.block ?_
      refine J.seq ?_
      refine J.region ?_
      refine J.quiet (Y.move rfl) rfl ?_
      refine J.quiet (Y.assign rfl) rfl ?_
      refine J.done ?_
      refine J.thenN ?_
      refine J.region ?_
      refine J.quiet (Y.move rfl) rfl ?_
      refine J.quiet (Y.move rfl) rfl ?_
      replace h := ck_some h; obtain ⟨hc54, h⟩ := h
      refine J.quiet (Y.indexS rfl rfl (Lent.ar (Lent.res 0 rfl) FI64) rfl rfl hc54) rfl ?_
      refine J.storeS 0 (-1 : Int) hc54 rfl rfl rfl rfl rfl rfl rfl ?_
      refine J.done ?_
      refine J.inN ?_
      refine J.thenN ?_
      refine J.region ?_
      refine J.quiet (Y.addW rfl rfl) rfl ?_
      refine J.quiet (Y.move rfl) rfl ?_
      refine J.done ?_
      refine J.thenN ?_
      exact J.againI ((wI .i64 (a50.1 + (1 : Int))), (List.set a50.2 (Int.toNat a50.1) (-1 : Int))) (()) h (by repeat (first | exact SubF.nil | refine SubF.cons rfl ?_)) (SubM.refl _) (LentAll.refl _ _)
    · replace h := ifN hp53 h
      refine J.exit ?_
      refine J.thenX ?_
      refine J.thenX ?_
      refine J.inX ?_
      refine J.thenN ?_
      exact J.meetI (a50.2) (()) h (by repeat (first | exact SubF.nil | refine SubF.cons rfl ?_)) (SubM.refl _) (LentAll.refl _ _)
  · clear h
    intro a5 b6 h
    unfold graph_search_k1 at h
    refine J.seq ?_
    refine J.region ?_
    refine J.quiet (Y.move rfl) rfl ?_
    refine J.quiet (Y.move rfl) rfl ?_
    replace h := ck_some h; obtain ⟨hc7, h⟩ := h
    refine J.quiet (Y.indexS rfl rfl (Lent.ar (Lent.res 0 rfl) FI64) rfl rfl hc7) rfl ?_
    refine J.storeS 0 (0 : Int) hc7 rfl rfl rfl rfl rfl rfl rfl ?_
    refine J.done ?_
    refine J.thenN ?_
    refine J.seq ?_
    refine J.region ?_
    refine J.quiet (Y.move rfl) rfl ?_
    refine J.loud (Loud.buildS (e := EI64) [p1] [(0, Value.int .i64 (p1))] rfl rfl rfl rfl (fill_1_1 (Value.int .i64 (p1)) rfl) rfl rfl rfl) rfl fun u8 => ?_
    refine J.quiet (Y.assign rfl) rfl ?_
    refine J.done ?_
    refine J.thenN ?_
    refine J.seq ?_
    refine J.midI (A := List (Int)) (B := Unit) (fun a10 => graph_search_k2  a10 = some r) (fun a10 b11 => [(5, u3)]) (fun a10 b11 => [Ar EI64 u3 a10]) (fun a10 b11 => [Sl RI64 v0 p0.1, S2 RI64I64p v1 z2 p0.2]) ?_ ?_
    · refine J.block ?_
      refine J.loopI (A := List (Int) × List (Int)) (B := Value) (graph_search_s1 fuel p0) (fun a16 b17 => [(2, Value.pointer (some ⟨b1, 0, none⟩)), (5, u3), (7, b17)]) (fun a16 b17 => [Ar EI64 b17 a16.1, Ar EI64 u3 a16.2, Blk b1 [v0, v1] 26]) (fun a16 b17 => [Sl RI64 v0 p0.1, S2 RI64I64p v1 z2 p0.2]) (([p1]), (List.set a5 (Int.toNat p1) (0 : Int))) (u8) h (by repeat (first | exact SubF.nil | refine SubF.cons rfl ?_)) (SubM.refl _) (LentAll.refl _ _) ?_
      clear h
      intro k18 a16 b17 h
      unfold graph_search_s1 at h
      refine J.seq ?_
      refine J.seq ?_
      refine J.region ?_
      refine J.quiet (Y.move rfl) rfl ?_
      refine J.quiet (Y.lenS rfl (Lent.ar (Lent.res 0 rfl) FI64) rfl) rfl ?_
      refine J.quiet (Y.gtr rfl rfl) rfl ?_
      refine J.done ?_
      refine J.thenN ?_
      refine J.condD (by exact rfl) (fun hp19 => ?_) (fun hp19 => ?_)
      · replace h := ifP hp19 h
        refine J.skip ?_
        refine J.thenN ?_
        refine J.block ?_
        refine J.seq ?_
        refine J.region ?_
        refine J.quiet (Y.move rfl) rfl ?_
        replace h := ck_some h; obtain ⟨hc20, h⟩ := h
        refine J.quiet (Y.indexS rfl rfl (Lent.ar (Lent.res 0 rfl) FI64) rfl rfl hc20) rfl ?_
        refine J.quiet (Y.loadS0 rfl (Lent.ar (Lent.res 0 rfl) FI64) rfl rfl rfl RI64c0 hc20) rfl ?_
        refine J.quiet (Y.assign rfl) rfl ?_
        refine J.done ?_
        refine J.thenN ?_
        refine J.seq ?_
        refine J.region ?_
        refine J.quiet (Y.move rfl) rfl ?_
        replace h := ck_some h; obtain ⟨hc21, h⟩ := h
        refine J.loud (Loud.sliceA 0 hc21 rfl rfl rfl rfl rfl rfl) rfl fun u22 => ?_
        refine J.quiet (Y.assign rfl) rfl ?_
        refine J.done ?_
        refine J.thenN ?_
        refine J.seq ?_
        refine J.region ?_
        refine J.quiet (Y.fieldB rfl rfl rfl rfl rfl) rfl ?_
        refine J.quiet (Y.loadB 2 rfl rfl rfl rfl rfl) rfl ?_
        refine J.quiet (Y.move rfl) rfl ?_
        replace h := ck_some h; obtain ⟨hc23, h⟩ := h
        refine J.quiet (Y.indexN rfl rfl (Lent.fact 1 rfl) rfl rfl hc23) rfl ?_
        refine J.quiet (Y.loadRow rfl (Lent.fact 1 rfl) rfl rfl hc23) rfl ?_
        refine J.quiet (Y.lenS rfl (Lent.el (Lent.fact 1 rfl) hc23.1 hc23.2) rfl) rfl ?_
        refine J.quiet (Y.move rfl) rfl ?_
        refine J.done ?_
        refine J.thenN ?_
        refine J.block ?_
        refine J.loopI (A := Int × List (Int) × List (Int)) (B := Value) (graph_search_s2 p0 a16 (iter (graph_search_s1 fuel p0) k18)) (fun a29 b30 => [(2, Value.pointer (some ⟨b1, 0, none⟩)), (5, u3), (7, b30), (8, Value.int .i64 (at' a16.1 (0 : Int))), (41, (at' z2 (at' a16.1 (0 : Int))).1), (42, Value.int .i64 (List.length (at' p0.2 (at' a16.1 (0 : Int))) : Int)), (43, Value.int .i64 (a29.1))]) (fun a29 b30 => [Ar EI64 b30 a29.2.1, Ar EI64 u3 a29.2.2, Blk b1 [v0, v1] 26]) (fun a29 b30 => [Sl RI64 v0 p0.1, S2 RI64I64p v1 z2 p0.2]) ((0 : Int), (List.drop (Int.toNat (1 : Int)) a16.1), a16.2) (u22) h (by repeat (first | exact SubF.nil | refine SubF.cons rfl ?_)) (SubM.refl _) (LentAll.refl _ _) ?_
        clear h
        intro k31 a29 b30 h
        unfold graph_search_s2 at h
        refine J.seq ?_
        refine J.region ?_
        refine J.quiet (Y.lss rfl rfl) rfl ?_
        refine J.done ?_
        refine J.thenN ?_
        refine J.seq ?_
        refine J.condD (by exact rfl) (fun hp32 => ?_) (fun hp32 => ?_)
        · replace h := ifP hp32 h
          refine J.skip ?_
          refine J.thenN ?_
          refine J.seq ?_
          refine J.midI (A := List (Int) × List (Int)) (B := Value) (fun a36 => graph_search_k3 a29 (iter (graph_search_s2 p0 a16 (iter (graph_search_s1 fuel p0) k18)) k31) a36 = some r) (fun a36 b37 => [(2, Value.pointer (some ⟨b1, 0, none⟩)), (5, u3), (7, b37), (8, Value.int .i64 (at' a16.1 (0 : Int))), (41, (at' z2 (at' a16.1 (0 : Int))).1), (42, Value.int .i64 (List.length (at' p0.2 (at' a16.1 (0 : Int))) : Int)), (43, Value.int .i64 (a29.1))]) (fun a36 b37 => [Ar EI64 b37 a36.1, Ar EI64 u3 a36.2, Blk b1 [v0, v1] 26]) (fun a36 b37 => [Sl RI64 v0 p0.1, S2 RI64I64p v1 z2 p0.2]) ?_ ?_
          · refine J.block ?_
            refine J.seq ?_
            refine J.region ?_
            replace h := ck_some h; obtain ⟨hc38, h⟩ := h
            refine J.quiet (Y.indexS rfl rfl (Lent.el (Lent.fact 1 rfl) hc23.1 hc23.2) rfl rfl hc38) rfl ?_
            refine J.quiet (Y.loadAggS (cs := [Value.int .i64 ((at' (at' p0.2 (at' a16.1 (0 : Int))) a29.1).1), Value.int .i64 ((at' (at' p0.2 (at' a16.1 (0 : Int))) a29.1).2)]) rfl (Lent.el (Lent.fact 1 rfl) hc23.1 hc23.2) FI64I64p rfl rfl rfl rfl hc38) rfl ?_
            refine J.loud (Loud.alloc (cs := [Value.int .i64 (0 : Int), Value.int .i64 (0 : Int)]) rfl rfl) rfl fun b39 => ?_
            refine J.storeAll 0 (vs := [Value.int .i64 ((at' (at' p0.2 (at' a16.1 (0 : Int))) a29.1).1), Value.int .i64 ((at' (at' p0.2 (at' a16.1 (0 : Int))) a29.1).2)]) rfl rfl rfl rfl rfl rfl ?_
            refine J.done ?_
            refine J.thenN ?_
            refine J.seq ?_
            refine J.region ?_
            refine J.quiet (Y.move rfl) rfl ?_
            refine J.quiet (Y.fieldB rfl rfl rfl rfl rfl) rfl ?_
            refine J.quiet (Y.loadB 0 rfl rfl rfl rfl rfl) rfl ?_
            replace h := ck_some h; obtain ⟨hc40, h⟩ := h
            refine J.quiet (Y.indexS rfl rfl (Lent.ar (Lent.res 2 rfl) FI64) rfl rfl hc40) rfl ?_
            refine J.quiet (Y.loadS0 rfl (Lent.ar (Lent.res 2 rfl) FI64) rfl rfl rfl RI64c0 hc40) rfl ?_
            refine J.quiet (Y.lss rfl rfl) rfl ?_
            refine J.done ?_
            refine J.thenN ?_
            refine J.condD (by exact rfl) (fun hp41 => ?_) (fun hp41 => ?_)
            · replace h := ifP hp41 h
              refine J.seq ?_
              refine JR.start [0, 0, 2, 0, 0, 24, 56, 120, 255, 511] 8 mixedOrders (by decide +kernel) ?_
              refine JR.open (by exact rfl) ?_
              refine JR.qt rfl (SubM.nil) (SubL.nil) (Y.move rfl) HistOk.z ?_
              refine JR.qt rfl (SubM.nil) (SubL.nil) (Y.fieldB rfl rfl rfl rfl rfl) HistOk.z ?_
              refine JR.qt rfl (SubM.cons 0 rfl (SubM.nil)) (SubL.nil) (Y.loadB 0 rfl rfl rfl rfl rfl) HistOk.z ?_
              refine JR.qt rfl (SubM.nil) (SubL.nil) (Y.move rfl) HistOk.z ?_
              refine JR.qt rfl (SubM.nil) (SubL.nil) (Y.move rfl) HistOk.z ?_
              replace h := ck_some h; obtain ⟨hc42, h⟩ := h
              refine JR.qt rfl (SubM.cons 2 rfl (SubM.nil)) (SubL.nil) (Y.indexS rfl rfl (Lent.ar (Lent.res 0 rfl) FI64) rfl rfl hc42) HistOk.z ?_
              refine JR.qt rfl (SubM.cons 2 rfl (SubM.nil)) (SubL.nil) (Y.loadS0 rfl (Lent.ar (Lent.res 0 rfl) FI64) rfl rfl rfl RI64c0 hc42) HistOk.z ?_
              refine JR.qt rfl (SubM.nil) (SubL.nil) (Y.addW rfl rfl) HistOk.z ?_
              refine JR.tailD 8 rfl rfl ?_
              replace h := ck_some h; obtain ⟨hc43, h⟩ := h
              refine J.quiet (Y.indexS rfl rfl (Lent.ar (Lent.res 2 rfl) FI64) rfl rfl hc43) rfl ?_
              refine J.storeS 2 (wI .i64 ((at' a29.2.2 (at' a16.1 (0 : Int))) + (1 : Int))) hc43 rfl rfl rfl rfl rfl rfl rfl ?_
              refine J.done ?_
              refine J.thenN ?_
              refine J.region ?_
              refine J.quiet (Y.move rfl) rfl ?_
              refine J.quiet (Y.fieldB rfl rfl rfl rfl rfl) rfl ?_
              refine J.quiet (Y.loadB 0 rfl rfl rfl rfl rfl) rfl ?_
              refine J.loud (Loud.buildS (e := EI64) [((at' (at' p0.2 (at' a16.1 (0 : Int))) a29.1).1)] [(0, Value.int .i64 ((at' (at' p0.2 (at' a16.1 (0 : Int))) a29.1).1))] rfl rfl rfl rfl (fill_1_1 (Value.int .i64 ((at' (at' p0.2 (at' a16.1 (0 : Int))) a29.1).1)) rfl) rfl rfl rfl) rfl fun u44 => ?_
              replace h := ck_some h; obtain ⟨hc46, h⟩ := h
              refine J.loud (Loud.appendL 2 FI64 rfl rfl rfl (Lent.ar (Lent.res 0 rfl) FI64) rfl rfl rfl rfl hc46 rfl) rfl fun u45 => ?_
              refine J.quiet (Y.assign rfl) rfl ?_
              refine J.done ?_
              refine J.inN ?_
              refine J.thenN ?_
              exact J.meetI ((a29.2.1 ++ ([ ((at' (at' p0.2 (at' a16.1 (0 : Int))) a29.1).1)])), (List.set a29.2.2 (Int.toNat ((at' (at' p0.2 (at' a16.1 (0 : Int))) a29.1).1)) (wI .i64 ((at' a29.2.2 (at' a16.1 (0 : Int))) + (1 : Int))))) (u45) h (by repeat (first | exact SubF.nil | refine SubF.cons rfl ?_)) (SubM.cons 2 rfl (SubM.cons 2 rfl (SubM.cons 2 rfl (SubM.nil)))) (LentAll.refl _ _)
            · replace h := ifN hp41 h
              refine J.skip ?_
              refine J.inN ?_
              refine J.thenN ?_
              exact J.meetI (a29.2.1, a29.2.2) (b30) h (by repeat (first | exact SubF.nil | refine SubF.cons rfl ?_)) (SubM.cons 1 rfl (SubM.cons 1 rfl (SubM.cons 1 rfl (SubM.nil)))) (LentAll.refl _ _)
          · clear h
            intro a36 b37 h
            unfold graph_search_k3 at h
            refine J.region ?_
            refine J.quiet (Y.addW rfl rfl) rfl ?_
            refine J.quiet (Y.move rfl) rfl ?_
            refine J.done ?_
            refine J.thenN ?_
            exact J.againI ((wI .i64 (a29.1 + (1 : Int))), a36.1, a36.2) (b37) h (by repeat (first | exact SubF.nil | refine SubF.cons rfl ?_)) (SubM.refl _) (LentAll.refl _ _)
        · replace h := ifN hp32 h
          refine J.exit ?_
          refine J.thenX ?_
          refine J.thenX ?_
          refine J.inX ?_
          refine J.inN ?_
          refine J.thenN ?_
          exact J.againI (a29.2.1, a29.2.2) (b30) h (by repeat (first | exact SubF.nil | refine SubF.cons rfl ?_)) (SubM.refl _) (LentAll.refl _ _)
      · replace h := ifN hp19 h
        refine J.exit ?_
        refine J.thenX ?_
        refine J.thenX ?_
        refine J.inX ?_
        refine J.thenN ?_
        exact J.meetI (a16.2) (()) h (by repeat (first | exact SubF.nil | refine SubF.cons rfl ?_)) (SubM.cons 1 rfl (SubM.nil)) (LentAll.refl _ _)
    · clear h
      intro a10 b11 h
      unfold graph_search_k2 at h
      refine J.seq ?_
      refine J.region ?_
      refine J.quiet (Y.move rfl) rfl ?_
      refine J.quiet (Y.assign rfl) rfl ?_
      refine J.done ?_
      refine J.thenN ?_
      refine J.ret ?_
      obtain rfl := Option.some.inj h
      exact J.retG1 (u3) rfl rfl (RV.tmp rfl) (SubM.refl _) LentAll.nil

end Go.Proofs.Ytemhmmcakmidkaa
