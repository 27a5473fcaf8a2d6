/- The model of selfstablaw01.GraphTreesHaveLeaves and the proof that the function meets it, by program (gen/xt.py). Conditions: none. -/
import Derived.Test.YtemhmmcakmidkaaX32
import Derived.Test.YtemhmmcakmidkaaX33
import Derived.Test.YtemhmmcakmidkaaX37
import Derived.Test.YtemhmmcakmidkaaX39
import Derived.Test.YtemhmmcakmidkaaX40
import Derived.Test.YtemhmmcakmidkaaX41
namespace Go.Proofs.Ytemhmmcakmidkaa
open Go.Sx
set_option linter.unusedVariables false
set_option linter.unusedSimpArgs false

def law01_GraphTreesHaveLeaves_k3  (a20 : Bool) : Option (Bool) :=
  some (a20)
def law01_GraphTreesHaveLeaves_k2 (fuel : Nat) (p0 : List (Int) × (List (List (Int × Int)))) (r9 : Int × Int) (a16 : Bool) : Option (Bool) :=
  if a16 = true then (some (false)) else (Option.bind (m_law01_awake fuel ) fun r22 => (if r22 = true then (law01_GraphTreesHaveLeaves_k3  (decide (r9.1 = (List.length p0.2 : Int)))) else (law01_GraphTreesHaveLeaves_k3  (false))))
def law01_GraphTreesHaveLeaves_k1 (fuel : Nat) (p0 : List (Int) × (List (List (Int × Int)))) (r9 : Int × Int) (a13 : Int) : Option (Bool) :=
  Option.bind (m_graph_Connected fuel ((p0.1, p0.2))) fun r26 => (if r26 = true then (if r9.2 < (wI .i64 (r9.1 - (1 : Int))) then (law01_GraphTreesHaveLeaves_k2 fuel p0 r9 (true)) else (Option.bind (m_graph_Tree fuel ((p0.1, p0.2))) fun r31 => (if r31 = true then (if r9.2 ≠ (wI .i64 (r9.1 - (1 : Int))) then (law01_GraphTreesHaveLeaves_k2 fuel p0 r9 (true)) else (if (1 : Int) < r9.1 then (law01_GraphTreesHaveLeaves_k2 fuel p0 r9 (decide (a13 < (2 : Int)))) else (law01_GraphTreesHaveLeaves_k2 fuel p0 r9 (false)))) else (law01_GraphTreesHaveLeaves_k2 fuel p0 r9 (false))))) else (Option.bind (m_graph_Tree fuel ((p0.1, p0.2))) fun r37 => (if r37 = true then (if r9.2 ≠ (wI .i64 (r9.1 - (1 : Int))) then (law01_GraphTreesHaveLeaves_k2 fuel p0 r9 (true)) else (if (1 : Int) < r9.1 then (law01_GraphTreesHaveLeaves_k2 fuel p0 r9 (decide (a13 < (2 : Int)))) else (law01_GraphTreesHaveLeaves_k2 fuel p0 r9 (false)))) else (law01_GraphTreesHaveLeaves_k2 fuel p0 r9 (false)))))
def law01_GraphTreesHaveLeaves_k4 (a46 : Int × Int) (ag45 : (Int × Int) → Option (Bool)) (a51 : Int) : Option (Bool) :=
  ag45 (a51, (wI .i64 (a46.2 + (1 : Int))))
def law01_GraphTreesHaveLeaves_s1 (fuel : Nat) (p0 : List (Int) × (List (List (Int × Int)))) (r9 : Int × Int) (a46 : Int × Int) (ag45 : (Int × Int) → Option (Bool)) : Option (Bool) :=
  if a46.2 < (List.length p0.2 : Int) then (Option.bind (m_graph_Degree fuel ((p0.1, p0.2)) a46.2) fun r53 => (if r53 = (1 : Int) then (law01_GraphTreesHaveLeaves_k4 a46 ag45 (wI .i64 (a46.1 + (1 : Int)))) else (law01_GraphTreesHaveLeaves_k4 a46 ag45 (a46.1)))) else (law01_GraphTreesHaveLeaves_k1 fuel p0 r9 (a46.1))
def m_law01_GraphTreesHaveLeaves (fuel : Nat) (p0 : List (Int) × (List (List (Int × Int)))) : Option (Bool) :=
  Option.bind (m_law01_fair fuel ((p0.1, p0.2))) fun r2 => (if (!r2) = true then (Option.bind (m_law01_awake fuel ) fun r6 => (some (r6))) else (Option.bind (m_graph_Size fuel ((p0.1, p0.2))) fun r9 => (iter (law01_GraphTreesHaveLeaves_s1 fuel p0 r9) fuel ((0 : Int), (0 : Int)))))

theorem body7 : HasBody Try.prog 7 := Try.call7

set_option maxHeartbeats 4000000 in
set_option maxRecDepth 20000 in
theorem t_law01_GraphTreesHaveLeaves (fuel : Nat) {p0 : List (Int) × (List (List (Int × Int)))} (v0 : Value)  (v1 : Value)  (z2 : List (Value × List (Int × Int))) (r : Bool) (h : m_law01_GraphTreesHaveLeaves fuel p0 = some r) :
    Meets Try.prog 7 #[Value.agg #[v0, v1]] [Sl RI64 v0 p0.1, S2 RI64I64p v1 z2 p0.2] (fun x : Unit => Value.bool (r)) (fun x l => l) (fun _ l => l) := by
  refine Meets.of (vs := [Value.agg #[v0, v1]]) Try.func7 rfl Try.ntmps7 rfl fun c => ?_
  unfold m_law01_GraphTreesHaveLeaves at h
  refine J.seq ?_
  refine J.region ?_
  refine J.loud (Loud.box (cs := [v0, v1]) rfl rfl) rfl fun b1 => ?_
  refine J.quiet (Y.assign rfl) rfl ?_
  refine J.done ?_
  refine J.thenN ?_
  refine J.seq ?_
  refine J.seq ?_
  refine J.region ?_
  refine J.quiet (Y.loadBAll 0 rfl rfl rfl rfl) rfl ?_
  replace h := bnd h; obtain ⟨r2, hr3, h⟩ := h
  refine J.loud (Loud.callL body32 (t_law01_fair fuel v0 v1 z2 r2 hr3) rfl (LentAll.cons (Lent.fact 0 rfl) (LentAll.cons (Lent.fact 1 rfl) (LentAll.nil))) (fun _ _ => rfl)) rfl fun x4 => ?_
  refine J.quiet (Y.not rfl) rfl ?_
  refine J.done ?_
  refine J.thenN ?_
  refine J.cond (by exact rfl) (fun hp5 => ?_) (fun hp5 => ?_)
  · replace h := ifP hp5 h
    refine J.seq ?_
    refine J.region ?_
    replace h := bnd h; obtain ⟨r6, hr7, h⟩ := h
    refine J.loud (Loud.callL body33 (t_law01_awake fuel  r6 hr7) rfl (LentAll.nil) (fun _ _ => rfl)) rfl fun x8 => ?_
    refine J.quiet (Y.assign rfl) rfl ?_
    refine J.done ?_
    refine J.thenN ?_
    refine J.ret ?_
    refine J.thenR ?_
    obtain rfl := Option.some.inj h
    exact J.retG1 (()) rfl rfl (RV.tmp rfl) (SubM.nil) LentAll.nil
  · replace h := ifBN hp5 h
    refine J.skip ?_
    refine J.thenN ?_
    refine J.seq ?_
    refine J.region ?_
    refine J.quiet (Y.loadBAll 0 rfl rfl rfl rfl) rfl ?_
    replace h := bnd h; obtain ⟨r9, hr10, h⟩ := h
    refine J.loud (Loud.callL body39 (t_graph_Size fuel v0 v1 z2 r9 hr10) rfl (LentAll.cons (Lent.fact 0 rfl) (LentAll.cons (Lent.fact 1 rfl) (LentAll.nil))) (fun _ _ => rfl)) rfl fun x11 => ?_
    refine J.quiet (Y.move rfl) rfl ?_
    refine J.quiet (Y.extract rfl rfl) rfl ?_
    refine J.quiet (Y.extract rfl rfl) rfl ?_
    refine J.quiet (Y.assign rfl) rfl ?_
    refine J.quiet (Y.assign rfl) rfl ?_
    refine J.done ?_
    refine J.thenN ?_
    refine J.seq ?_
    refine J.region ?_
    refine J.quiet (Y.assign rfl) rfl ?_
    refine J.done ?_
    refine J.thenN ?_
    refine J.seq ?_
    refine J.midI (A := Int) (B := Unit) (fun a13 => law01_GraphTreesHaveLeaves_k1 fuel p0 r9 a13 = some r) (fun a13 b14 => [(1, Value.pointer (some ⟨b1, 0, none⟩)), (3, Value.int .i64 (r9.1)), (4, Value.int .i64 (r9.2)), (5, Value.int .i64 (a13))]) (fun a13 b14 => [Blk b1 [v0, v1] 26]) (fun a13 b14 => [Sl RI64 v0 p0.1, S2 RI64I64p v1 z2 p0.2]) ?_ ?_
    · refine J.seq ?_
      refine J.region ?_
      refine J.quiet (Y.assign rfl) rfl ?_
      refine J.done ?_
      refine J.thenN ?_
      refine J.block ?_
      refine J.loopI (A := Int × Int) (B := Unit) (law01_GraphTreesHaveLeaves_s1 fuel p0 r9) (fun a46 b47 => [(1, Value.pointer (some ⟨b1, 0, none⟩)), (3, Value.int .i64 (r9.1)), (4, Value.int .i64 (r9.2)), (5, Value.int .i64 (a46.1)), (6, Value.int .i64 (a46.2))]) (fun a46 b47 => [Blk b1 [v0, v1] 26]) (fun a46 b47 => [Sl RI64 v0 p0.1, S2 RI64I64p v1 z2 p0.2]) ((0 : Int), (0 : Int)) (()) h (by repeat (first | exact SubF.nil | refine SubF.cons rfl ?_)) (SubM.refl _) (LentAll.refl _ _) ?_
      clear h
      intro k48 a46 b47 h
      unfold law01_GraphTreesHaveLeaves_s1 at h
      refine J.seq ?_
      refine J.seq ?_
      refine J.region ?_
      refine J.quiet (Y.move rfl) rfl ?_
      refine J.quiet (Y.fieldB rfl rfl rfl rfl rfl) rfl ?_
      refine J.quiet (Y.loadB 0 rfl rfl rfl rfl rfl) rfl ?_
      refine J.quiet (Y.lenN rfl (Lent.fact 1 rfl) rfl) rfl ?_
      refine J.quiet (Y.lss rfl rfl) rfl ?_
      refine J.done ?_
      refine J.thenN ?_
      refine J.condD (by exact rfl) (fun hp49 => ?_) (fun hp49 => ?_)
      · replace h := ifP hp49 h
        refine J.skip ?_
        refine J.thenN ?_
        refine J.seq ?_
        refine J.midI (A := Int) (B := Unit) (fun a51 => law01_GraphTreesHaveLeaves_k4 a46 (iter (law01_GraphTreesHaveLeaves_s1 fuel p0 r9) k48) a51 = some r) (fun a51 b52 => [(1, Value.pointer (some ⟨b1, 0, none⟩)), (3, Value.int .i64 (r9.1)), (4, Value.int .i64 (r9.2)), (5, Value.int .i64 (a51)), (6, Value.int .i64 (a46.2))]) (fun a51 b52 => [Blk b1 [v0, v1] 26]) (fun a51 b52 => [Sl RI64 v0 p0.1, S2 RI64I64p v1 z2 p0.2]) ?_ ?_
        · refine J.block ?_
          refine J.seq ?_
          refine J.region ?_
          refine J.quiet (Y.loadBAll 0 rfl rfl rfl rfl) rfl ?_
          refine J.quiet (Y.move rfl) rfl ?_
          replace h := bnd h; obtain ⟨r53, hr54, h⟩ := h
          refine J.loud (Loud.callL body40 (t_graph_Degree fuel v0 v1 z2 r53 hr54) rfl (LentAll.cons (Lent.fact 0 rfl) (LentAll.cons (Lent.fact 1 rfl) (LentAll.nil))) (fun _ _ => rfl)) rfl fun x55 => ?_
          refine J.quiet (Y.eql rfl rfl) rfl ?_
          refine J.done ?_
          refine J.thenN ?_
          refine J.condD (by exact rfl) (fun hp56 => ?_) (fun hp56 => ?_)
          · replace h := ifP hp56 h
            refine J.region ?_
            refine J.quiet (Y.move rfl) rfl ?_
            refine J.quiet (Y.addW rfl rfl) rfl ?_
            refine J.quiet (Y.assign rfl) rfl ?_
            refine J.done ?_
            refine J.inN ?_
            refine J.thenN ?_
            exact J.meetI (wI .i64 (a46.1 + (1 : Int))) (()) h (by repeat (first | exact SubF.nil | refine SubF.cons rfl ?_)) (SubM.refl _) (LentAll.refl _ _)
          · replace h := ifN hp56 h
            refine J.skip ?_
            refine J.inN ?_
            refine J.thenN ?_
            exact J.meetI (a46.1) (()) h (by repeat (first | exact SubF.nil | refine SubF.cons rfl ?_)) (SubM.refl _) (LentAll.refl _ _)
        · clear h
          intro a51 b52 h
          unfold law01_GraphTreesHaveLeaves_k4 at h
          refine J.region ?_
          refine J.quiet (Y.move rfl) rfl ?_
          refine J.quiet (Y.addW rfl rfl) rfl ?_
          refine J.quiet (Y.assign rfl) rfl ?_
          refine J.done ?_
          refine J.thenN ?_
          exact J.againI (a51, (wI .i64 (a46.2 + (1 : Int)))) (()) h (by repeat (first | exact SubF.nil | refine SubF.cons rfl ?_)) (SubM.refl _) (LentAll.refl _ _)
      · replace h := ifN hp49 h
        refine J.exit ?_
        refine J.thenX ?_
        refine J.thenX ?_
        refine J.inX ?_
        refine J.thenN ?_
        exact J.meetI (a46.1) (()) h (by repeat (first | exact SubF.nil | refine SubF.cons rfl ?_)) (SubM.refl _) (LentAll.refl _ _)
    · clear h
      intro a13 b14 h
      unfold law01_GraphTreesHaveLeaves_k1 at h
      refine J.seq ?_
      refine J.seq ?_
      refine J.midI (A := Bool) (B := Unit) (fun a16 => law01_GraphTreesHaveLeaves_k2 fuel p0 r9 a16 = some r) (fun a16 b17 => [(1, Value.pointer (some ⟨b1, 0, none⟩)), (3, Value.int .i64 (r9.1)), (54, Value.bool (a16))]) (fun a16 b17 => [Blk b1 [v0, v1] 26]) (fun a16 b17 => [Sl RI64 v0 p0.1, S2 RI64I64p v1 z2 p0.2]) ?_ ?_
      · refine J.region ?_
        refine J.quiet (Y.loadBAll 0 rfl rfl rfl rfl) rfl ?_
        replace h := bnd h; obtain ⟨r26, hr27, h⟩ := h
        refine J.loud (Loud.callL body37 (t_graph_Connected fuel v0 v1 z2 r26 hr27) rfl (LentAll.cons (Lent.fact 0 rfl) (LentAll.cons (Lent.fact 1 rfl) (LentAll.nil))) (fun _ _ => rfl)) rfl fun x28 => ?_
        refine J.quiet (Y.move rfl) rfl ?_
        refine J.guard (by exact rfl) (by exact rfl) (fun hp29 => ?_) (fun hp29 => ?_)
        · replace h := ifP hp29 h
          refine J.guardY rfl (Y.move rfl) rfl ?_
          refine J.guardY rfl (Y.move rfl) rfl ?_
          refine J.guardY rfl (Y.subW rfl rfl) rfl ?_
          refine J.guardY rfl (Y.lss rfl rfl) rfl ?_
          refine J.quiet (Y.pickT rfl rfl) rfl ?_
          refine J.quiet (Y.move rfl) rfl ?_
          refine J.guardD (by exact rfl) (by exact rfl) (fun hp30 => ?_) (fun hp30 => ?_)
          · replace h := ifP hp30 h
            refine J.guardN rfl rfl rfl ?_
            refine J.guardN rfl rfl rfl ?_
            refine J.guardN rfl rfl rfl ?_
            refine J.qu (h := ?_)
            refine J.qu (h := ?_)
            refine J.qu (h := ?_)
            refine J.qu (h := ?_)
            refine J.qu (h := ?_)
            refine J.qu (h := ?_)
            refine J.qu (h := ?_)
            refine J.qu (h := ?_)
            refine J.qu (h := ?_)
            refine J.qu (h := ?_)
            refine J.qu (h := ?_)
            refine J.qu (h := ?_)
            refine J.guardN rfl rfl rfl ?_
            refine J.quiet (Y.pickT rfl rfl) rfl ?_
            refine J.done ?_
            refine J.thenN ?_
            exact J.meetI (true) (()) h (by repeat (first | exact SubF.nil | refine SubF.cons rfl ?_)) (SubM.refl _) (LentAll.refl _ _)
          · replace h := ifN hp30 h
            refine J.guardY rfl (Y.loadBAll 0 rfl rfl rfl rfl) rfl ?_
            replace h := bnd h; obtain ⟨r31, hr32, h⟩ := h
            refine J.loudG rfl (Loud.callL body41 (t_graph_Tree fuel v0 v1 z2 r31 hr32) rfl (LentAll.cons (Lent.fact 0 rfl) (LentAll.cons (Lent.fact 1 rfl) (LentAll.nil))) (fun _ _ => rfl)) rfl fun x33 => ?_
            refine J.guardY rfl (Y.move rfl) rfl ?_
            refine J.guard (by exact rfl) (by exact rfl) (fun hp34 => ?_) (fun hp34 => ?_)
            · replace h := ifP hp34 h
              refine J.guardY rfl (Y.move rfl) rfl ?_
              refine J.guardY rfl (Y.move rfl) rfl ?_
              refine J.guardY rfl (Y.subW rfl rfl) rfl ?_
              refine J.guardY rfl (Y.neq rfl rfl) rfl ?_
              refine J.guardY rfl (Y.move rfl) rfl ?_
              refine J.guardD (by exact rfl) (by exact rfl) (fun hp35 => ?_) (fun hp35 => ?_)
              · replace h := ifP hp35 h
                refine J.guardN rfl rfl rfl ?_
                refine J.guardN rfl rfl rfl ?_
                refine J.guardN rfl rfl rfl ?_
                refine J.qu (h := ?_)
                refine J.qu (h := ?_)
                refine J.guardN rfl rfl rfl ?_
                refine J.guardY rfl (Y.pickT rfl rfl) rfl ?_
                refine J.guardY rfl (Y.pickT rfl rfl) rfl ?_
                refine J.quiet (Y.pickF rfl rfl) rfl ?_
                refine J.done ?_
                refine J.thenN ?_
                exact J.meetI (true) (()) h (by repeat (first | exact SubF.nil | refine SubF.cons rfl ?_)) (SubM.refl _) (LentAll.refl _ _)
              · replace h := ifN hp35 h
                refine J.guardY rfl (Y.move rfl) rfl ?_
                refine J.guardY rfl (Y.gtr rfl rfl) rfl ?_
                refine J.guardY rfl (Y.move rfl) rfl ?_
                refine J.guardD (by exact rfl) (by exact rfl) (fun hp36 => ?_) (fun hp36 => ?_)
                · replace h := ifP hp36 h
                  refine J.guardY rfl (Y.move rfl) rfl ?_
                  refine J.guardY rfl (Y.lss rfl rfl) rfl ?_
                  refine J.guardY rfl (Y.pickT rfl rfl) rfl ?_
                  refine J.guardY rfl (Y.pickF rfl rfl) rfl ?_
                  refine J.guardY rfl (Y.pickT rfl rfl) rfl ?_
                  refine J.quiet (Y.pickF rfl rfl) rfl ?_
                  refine J.done ?_
                  refine J.thenN ?_
                  exact J.meetI (decide (a13 < (2 : Int))) (()) h (by repeat (first | exact SubF.nil | refine SubF.cons rfl ?_)) (SubM.refl _) (LentAll.refl _ _)
                · replace h := ifN hp36 h
                  refine J.guardN rfl rfl rfl ?_
                  refine J.guardN rfl rfl rfl ?_
                  refine J.guardY rfl (Y.pickF rfl rfl) rfl ?_
                  refine J.guardY rfl (Y.pickF rfl rfl) rfl ?_
                  refine J.guardY rfl (Y.pickT rfl rfl) rfl ?_
                  refine J.quiet (Y.pickF rfl rfl) rfl ?_
                  refine J.done ?_
                  refine J.thenN ?_
                  exact J.meetI (false) (()) h (by repeat (first | exact SubF.nil | refine SubF.cons rfl ?_)) (SubM.refl _) (LentAll.refl _ _)
            · replace h := ifBN hp34 h
              refine J.guardN rfl rfl rfl ?_
              refine J.guardN rfl rfl rfl ?_
              refine J.guardN rfl rfl rfl ?_
              refine J.guardN rfl rfl rfl ?_
              refine J.guardN rfl rfl rfl ?_
              refine J.qu (h := ?_)
              refine J.qu (h := ?_)
              refine J.qu (h := ?_)
              refine J.qu (h := ?_)
              refine J.qu (h := ?_)
              refine J.qu (h := ?_)
              refine J.guardN rfl rfl rfl ?_
              refine J.guardY rfl (Y.pickF rfl rfl) rfl ?_
              refine J.quiet (Y.pickF rfl rfl) rfl ?_
              refine J.done ?_
              refine J.thenN ?_
              exact J.meetI (false) (()) h (by repeat (first | exact SubF.nil | refine SubF.cons rfl ?_)) (SubM.refl _) (LentAll.refl _ _)
        · replace h := ifBN hp29 h
          refine J.guardN rfl rfl rfl ?_
          refine J.guardN rfl rfl rfl ?_
          refine J.guardN rfl rfl rfl ?_
          refine J.guardN rfl rfl rfl ?_
          refine J.quiet (Y.pickF rfl rfl) rfl ?_
          refine J.quiet (Y.move rfl) rfl ?_
          refine J.guardY rfl (Y.loadBAll 0 rfl rfl rfl rfl) rfl ?_
          replace h := bnd h; obtain ⟨r37, hr38, h⟩ := h
          refine J.loudG rfl (Loud.callL body41 (t_graph_Tree fuel v0 v1 z2 r37 hr38) rfl (LentAll.cons (Lent.fact 0 rfl) (LentAll.cons (Lent.fact 1 rfl) (LentAll.nil))) (fun _ _ => rfl)) rfl fun x39 => ?_
          refine J.guardY rfl (Y.move rfl) rfl ?_
          refine J.guard (by exact rfl) (by exact rfl) (fun hp40 => ?_) (fun hp40 => ?_)
          · replace h := ifP hp40 h
            refine J.guardY rfl (Y.move rfl) rfl ?_
            refine J.guardY rfl (Y.move rfl) rfl ?_
            refine J.guardY rfl (Y.subW rfl rfl) rfl ?_
            refine J.guardY rfl (Y.neq rfl rfl) rfl ?_
            refine J.guardY rfl (Y.move rfl) rfl ?_
            refine J.guardD (by exact rfl) (by exact rfl) (fun hp41 => ?_) (fun hp41 => ?_)
            · replace h := ifP hp41 h
              refine J.guardN rfl rfl rfl ?_
              refine J.guardN rfl rfl rfl ?_
              refine J.guardN rfl rfl rfl ?_
              refine J.qu (h := ?_)
              refine J.qu (h := ?_)
              refine J.guardN rfl rfl rfl ?_
              refine J.guardY rfl (Y.pickT rfl rfl) rfl ?_
              refine J.guardY rfl (Y.pickT rfl rfl) rfl ?_
              refine J.quiet (Y.pickF rfl rfl) rfl ?_
              refine J.done ?_
              refine J.thenN ?_
              exact J.meetI (true) (()) h (by repeat (first | exact SubF.nil | refine SubF.cons rfl ?_)) (SubM.refl _) (LentAll.refl _ _)
            · replace h := ifN hp41 h
              refine J.guardY rfl (Y.move rfl) rfl ?_
              refine J.guardY rfl (Y.gtr rfl rfl) rfl ?_
              refine J.guardY rfl (Y.move rfl) rfl ?_
              refine J.guardD (by exact rfl) (by exact rfl) (fun hp42 => ?_) (fun hp42 => ?_)
              · replace h := ifP hp42 h
                refine J.guardY rfl (Y.move rfl) rfl ?_
                refine J.guardY rfl (Y.lss rfl rfl) rfl ?_
                refine J.guardY rfl (Y.pickT rfl rfl) rfl ?_
                refine J.guardY rfl (Y.pickF rfl rfl) rfl ?_
                refine J.guardY rfl (Y.pickT rfl rfl) rfl ?_
                refine J.quiet (Y.pickF rfl rfl) rfl ?_
                refine J.done ?_
                refine J.thenN ?_
                exact J.meetI (decide (a13 < (2 : Int))) (()) h (by repeat (first | exact SubF.nil | refine SubF.cons rfl ?_)) (SubM.refl _) (LentAll.refl _ _)
              · replace h := ifN hp42 h
                refine J.guardN rfl rfl rfl ?_
                refine J.guardN rfl rfl rfl ?_
                refine J.guardY rfl (Y.pickF rfl rfl) rfl ?_
                refine J.guardY rfl (Y.pickF rfl rfl) rfl ?_
                refine J.guardY rfl (Y.pickT rfl rfl) rfl ?_
                refine J.quiet (Y.pickF rfl rfl) rfl ?_
                refine J.done ?_
                refine J.thenN ?_
                exact J.meetI (false) (()) h (by repeat (first | exact SubF.nil | refine SubF.cons rfl ?_)) (SubM.refl _) (LentAll.refl _ _)
          · replace h := ifBN hp40 h
            refine J.guardN rfl rfl rfl ?_
            refine J.guardN rfl rfl rfl ?_
            refine J.guardN rfl rfl rfl ?_
            refine J.guardN rfl rfl rfl ?_
            refine J.guardN rfl rfl rfl ?_
            refine J.qu (h := ?_)
            refine J.qu (h := ?_)
            refine J.qu (h := ?_)
            refine J.qu (h := ?_)
            refine J.qu (h := ?_)
            refine J.qu (h := ?_)
            refine J.guardN rfl rfl rfl ?_
            refine J.guardY rfl (Y.pickF rfl rfl) rfl ?_
            refine J.quiet (Y.pickF rfl rfl) rfl ?_
            refine J.done ?_
            refine J.thenN ?_
            exact J.meetI (false) (()) h (by repeat (first | exact SubF.nil | refine SubF.cons rfl ?_)) (SubM.refl _) (LentAll.refl _ _)
      · clear h
        intro a16 b17 h
        unfold law01_GraphTreesHaveLeaves_k2 at h
        refine J.cond (by exact rfl) (fun hp18 => ?_) (fun hp18 => ?_)
        · replace h := ifP hp18 h
          refine J.seq ?_
          refine J.region ?_
          refine J.quiet (Y.assign rfl) rfl ?_
          refine J.done ?_
          refine J.thenN ?_
          refine J.ret ?_
          refine J.thenR ?_
          obtain rfl := Option.some.inj h
          exact J.retG1 (()) rfl rfl (RV.tmp rfl) (SubM.nil) LentAll.nil
        · replace h := ifBN hp18 h
          refine J.skip ?_
          refine J.thenN ?_
          refine J.seq ?_
          refine J.midI (A := Bool) (B := Unit) (fun a20 => law01_GraphTreesHaveLeaves_k3  a20 = some r) (fun a20 b21 => [(2, Value.bool (a20))]) (fun a20 b21 => []) (fun a20 b21 => [Sl RI64 v0 p0.1, S2 RI64I64p v1 z2 p0.2]) ?_ ?_
          · refine J.region ?_
            replace h := bnd h; obtain ⟨r22, hr23, h⟩ := h
            refine J.loud (Loud.callL body33 (t_law01_awake fuel  r22 hr23) rfl (LentAll.nil) (fun _ _ => rfl)) rfl fun x24 => ?_
            refine J.quiet (Y.move rfl) rfl ?_
            refine J.guard (by exact rfl) (by exact rfl) (fun hp25 => ?_) (fun hp25 => ?_)
            · replace h := ifP hp25 h
              refine J.guardY rfl (Y.move rfl) rfl ?_
              refine J.guardY rfl (Y.fieldB rfl rfl rfl rfl rfl) rfl ?_
              refine J.guardY rfl (Y.loadB 0 rfl rfl rfl rfl rfl) rfl ?_
              refine J.guardY rfl (Y.lenN rfl (Lent.fact 1 rfl) rfl) rfl ?_
              refine J.guardY rfl (Y.eql rfl rfl) rfl ?_
              refine J.quiet (Y.pickT rfl rfl) rfl ?_
              refine J.quiet (Y.assign rfl) rfl ?_
              refine J.done ?_
              refine J.thenN ?_
              exact J.meetI (decide (r9.1 = (List.length p0.2 : Int))) (()) h (by repeat (first | exact SubF.nil | refine SubF.cons rfl ?_)) (SubM.nil) (LentAll.refl _ _)
            · replace h := ifBN hp25 h
              refine J.guardN rfl rfl rfl ?_
              refine J.guardN rfl rfl rfl ?_
              refine J.guardN rfl rfl rfl ?_
              refine J.guardN rfl rfl rfl ?_
              refine J.guardN rfl rfl rfl ?_
              refine J.quiet (Y.pickF rfl rfl) rfl ?_
              refine J.quiet (Y.assign rfl) rfl ?_
              refine J.done ?_
              refine J.thenN ?_
              exact J.meetI (false) (()) h (by repeat (first | exact SubF.nil | refine SubF.cons rfl ?_)) (SubM.nil) (LentAll.refl _ _)
          · clear h
            intro a20 b21 h
            unfold law01_GraphTreesHaveLeaves_k3 at h
            refine J.ret ?_
            obtain rfl := Option.some.inj h
            exact J.retG1 (()) rfl rfl (RV.tmp rfl) (SubM.refl _) LentAll.nil

end Go.Proofs.Ytemhmmcakmidkaa
