/- The model of selfstablaw01.GraphDistancesAreSteps and the proof that the function meets it, by program (gen/xt.py). Conditions: none. -/
import Derived.Test.YtemhmmcakmidkaaX32
import Derived.Test.YtemhmmcakmidkaaX33
import Derived.Test.YtemhmmcakmidkaaX34
import Derived.Test.YtemhmmcakmidkaaX35
namespace Go.Proofs.Ytemhmmcakmidkaa
open Go.Sx
set_option linter.unusedVariables false
set_option linter.unusedSimpArgs false

def law01_GraphDistancesAreSteps_k1 (fuel : Nat) (a16 : Unit) : Option (Bool) :=
  Option.bind (m_law01_awake fuel ) fun r18 => (some (r18))
def law01_GraphDistancesAreSteps_k4 (a23 : Int) (ag22 : (Int) → Option (Bool)) (a35 : Bool) : Option (Bool) :=
  if a35 = true then (some (false)) else (ag22 (wI .i64 (a23 + (1 : Int))))
def law01_GraphDistancesAreSteps_k3 (r12 : List (Int)) (a23 : Int) (ag22 : (Int) → Option (Bool)) (a32 : Bool) : Option (Bool) :=
  ck (0 ≤ a23 ∧ a23 < (List.length r12 : Int)) (if (0 : Int) < (at' r12 a23) then (law01_GraphDistancesAreSteps_k4 a23 ag22 ((!a32))) else (law01_GraphDistancesAreSteps_k4 a23 ag22 (false)))
def law01_GraphDistancesAreSteps_k5 (a43 : Bool × Int) (ag42 : (Bool × Int) → Option (Bool)) (a49 : Bool) : Option (Bool) :=
  ag42 (a49, (wI .i64 (a43.2 + (1 : Int))))
def law01_GraphDistancesAreSteps_k6 (p0 : List (Int) × (List (List (Int × Int)))) (r12 : List (Int)) (a23 : Int) (a43 : Bool × Int) (ag42 : (Bool × Int) → Option (Bool)) (a55 : Bool) : Option (Bool) :=
  if a55 = true then (some (false)) else (if a43.1 = true then (law01_GraphDistancesAreSteps_k5 a43 ag42 (true)) else (ck (0 ≤ a23 ∧ a23 < (List.length r12 : Int)) (law01_GraphDistancesAreSteps_k5 a43 ag42 (decide ((at' r12 ((at' (at' p0.2 a23) a43.2).1)) = (wI .i64 ((at' r12 a23) - (1 : Int))))))))
def law01_GraphDistancesAreSteps_s2 (p0 : List (Int) × (List (List (Int × Int)))) (r12 : List (Int)) (a23 : Int) (ag22 : (Int) → Option (Bool)) (a43 : Bool × Int) (ag42 : (Bool × Int) → Option (Bool)) : Option (Bool) :=
  ck (0 ≤ a23 ∧ a23 < (List.length p0.2 : Int)) (if a43.2 < (List.length (at' p0.2 a23) : Int) then (ck (0 ≤ a23 ∧ a23 < (List.length p0.2 : Int)) (ck (0 ≤ a43.2 ∧ a43.2 < (List.length (at' p0.2 a23) : Int)) (ck (0 ≤ ((at' (at' p0.2 a23) a43.2).1) ∧ ((at' (at' p0.2 a23) a43.2).1) < (List.length r12 : Int)) (ck (0 ≤ a23 ∧ a23 < (List.length r12 : Int)) (if ((decide ((at' r12 ((at' (at' p0.2 a23) a43.2).1)) < (0 : Int))) != (decide ((at' r12 a23) < (0 : Int)))) = true then (law01_GraphDistancesAreSteps_k6 p0 r12 a23 a43 ag42 (true)) else (ck (0 ≤ a23 ∧ a23 < (List.length r12 : Int)) (if (1 : Int) < (wI .i64 ((at' r12 ((at' (at' p0.2 a23) a43.2).1)) - (at' r12 a23))) then (law01_GraphDistancesAreSteps_k6 p0 r12 a23 a43 ag42 (true)) else (ck (0 ≤ a23 ∧ a23 < (List.length r12 : Int)) (law01_GraphDistancesAreSteps_k6 p0 r12 a23 a43 ag42 (decide ((1 : Int) < (wI .i64 ((at' r12 a23) - (at' r12 ((at' (at' p0.2 a23) a43.2).1))))))))))))))) else (law01_GraphDistancesAreSteps_k3 r12 a23 ag22 (a43.1)))
def law01_GraphDistancesAreSteps_k2 (fuel : Nat) (p0 : List (Int) × (List (List (Int × Int)))) (r12 : List (Int)) (a23 : Int) (ag22 : (Int) → Option (Bool)) (a28 : Bool) : Option (Bool) :=
  if a28 = true then (some (false)) else (iter (law01_GraphDistancesAreSteps_s2 p0 r12 a23 ag22) fuel (false, (0 : Int)))
def law01_GraphDistancesAreSteps_s1 (fuel : Nat) (p0 : List (Int) × (List (List (Int × Int)))) (r9 : Int) (r12 : List (Int)) (a23 : Int) (ag22 : (Int) → Option (Bool)) : Option (Bool) :=
  if a23 < (List.length r12 : Int) then (ck (0 ≤ a23 ∧ a23 < (List.length r12 : Int)) (if (at' r12 a23) < (-1 : Int) then (law01_GraphDistancesAreSteps_k2 fuel p0 r12 a23 ag22 (true)) else (ck (0 ≤ a23 ∧ a23 < (List.length r12 : Int)) (law01_GraphDistancesAreSteps_k2 fuel p0 r12 a23 ag22 (((decide ((at' r12 a23) = (0 : Int))) != (decide (a23 = r9)))))))) else (law01_GraphDistancesAreSteps_k1 fuel (()))
def m_law01_GraphDistancesAreSteps (fuel : Nat) (p0 : List (Int) × (List (List (Int × Int)))) (p1 : Int) : Option (Bool) :=
  Option.bind (m_law01_fair fuel ((p0.1, p0.2))) fun r2 => (if (!r2) = true then (Option.bind (m_law01_awake fuel ) fun r6 => (some (r6))) else (Option.bind (m_made_Mod fuel p1 (List.length p0.2 : Int)) fun r9 => (Option.bind (m_graph_Distances fuel ((p0.1, p0.2)) r9) fun r12 => (if (List.length r12 : Int) ≠ (List.length p0.2 : Int) then (some (false)) else (iter (law01_GraphDistancesAreSteps_s1 fuel p0 r9 r12) fuel (0 : Int))))))

theorem body4 : HasBody Try.prog 4 := Try.call4

set_option maxHeartbeats 4000000 in
set_option maxRecDepth 20000 in
theorem t_law01_GraphDistancesAreSteps (fuel : Nat) {p0 : List (Int) × (List (List (Int × Int)))} {p1 : Int} (v0 : Value)  (v1 : Value)  (z2 : List (Value × List (Int × Int))) (r : Bool) (h : m_law01_GraphDistancesAreSteps fuel p0 p1 = some r) :
    Meets Try.prog 4 #[Value.agg #[v0, v1], Value.int .i64 (p1)] [Sl RI64 v0 p0.1, S2 RI64I64p v1 z2 p0.2] (fun x : Unit => Value.bool (r)) (fun x l => l) (fun _ l => l) := by
  refine Meets.of (vs := [Value.agg #[v0, v1], Value.int .i64 (p1)]) Try.func4 rfl Try.ntmps4 rfl fun c => ?_
  unfold m_law01_GraphDistancesAreSteps at h
  refine J.seq ?_
  refine J.region ?_
  refine J.loud (Loud.box (cs := [v0, v1]) rfl rfl) rfl fun b1 => ?_
  refine J.quiet (Y.assign rfl) rfl ?_
  refine J.done ?_
  refine J.thenN ?_
  refine J.seq ?_
  refine J.seq ?_
  refine J.region ?_
  refine J.quiet (Y.loadBAll 0 rfl rfl rfl rfl) rfl ?_
  replace h := bnd h; obtain ⟨r2, hr3, h⟩ := h
  refine J.loud (Loud.callL body32 (t_law01_fair fuel v0 v1 z2 r2 hr3) rfl (LentAll.cons (Lent.fact 0 rfl) (LentAll.cons (Lent.fact 1 rfl) (LentAll.nil))) (fun _ _ => rfl)) rfl fun x4 => ?_
  refine J.quiet (Y.not rfl) rfl ?_
  refine J.done ?_
  refine J.thenN ?_
  refine J.cond (by exact rfl) (fun hp5 => ?_) (fun hp5 => ?_)
  · replace h := ifP hp5 h
    refine J.seq ?_
    refine J.region ?_
    replace h := bnd h; obtain ⟨r6, hr7, h⟩ := h
    refine J.loud (Loud.callL body33 (t_law01_awake fuel  r6 hr7) rfl (LentAll.nil) (fun _ _ => rfl)) rfl fun x8 => ?_
    refine J.quiet (Y.assign rfl) rfl ?_
    refine J.done ?_
    refine J.thenN ?_
    refine J.ret ?_
    refine J.thenR ?_
    obtain rfl := Option.some.inj h
    exact J.retG1 (()) rfl rfl (RV.tmp rfl) (SubM.nil) LentAll.nil
  · replace h := ifBN hp5 h
    refine J.skip ?_
    refine J.thenN ?_
    refine J.seq ?_
    refine J.region ?_
    refine J.quiet (Y.move rfl) rfl ?_
    refine J.quiet (Y.fieldB rfl rfl rfl rfl rfl) rfl ?_
    refine J.quiet (Y.loadB 0 rfl rfl rfl rfl rfl) rfl ?_
    refine J.quiet (Y.lenN rfl (Lent.fact 1 rfl) rfl) rfl ?_
    replace h := bnd h; obtain ⟨r9, hr10, h⟩ := h
    refine J.loud (Loud.callL body34 (t_made_Mod fuel  r9 hr10) rfl (LentAll.nil) (fun _ _ => rfl)) rfl fun x11 => ?_
    refine J.quiet (Y.assign rfl) rfl ?_
    refine J.done ?_
    refine J.thenN ?_
    refine J.seq ?_
    refine J.region ?_
    refine J.quiet (Y.loadBAll 0 rfl rfl rfl rfl) rfl ?_
    refine J.quiet (Y.move rfl) rfl ?_
    replace h := bnd h; obtain ⟨r12, hr13, h⟩ := h
    refine J.loud (Loud.callL body35 (t_graph_Distances fuel v0 v1 z2 r12 hr13) rfl (LentAll.cons (Lent.fact 0 rfl) (LentAll.cons (Lent.fact 1 rfl) (LentAll.nil))) (fun _ _ => rfl)) rfl fun x14 => ?_
    refine J.quiet (Y.assign rfl) rfl ?_
    refine J.done ?_
    refine J.thenN ?_
    refine J.seq ?_
    refine J.seq ?_
    refine J.region ?_
    refine J.quiet (Y.move rfl) rfl ?_
    refine J.quiet (Y.lenS rfl (Lent.ar (Lent.res 0 rfl) FI64) rfl) rfl ?_
    refine J.quiet (Y.fieldB rfl rfl rfl rfl rfl) rfl ?_
    refine J.quiet (Y.loadB 1 rfl rfl rfl rfl rfl) rfl ?_
    refine J.quiet (Y.lenN rfl (Lent.fact 1 rfl) rfl) rfl ?_
    refine J.quiet (Y.neq rfl rfl) rfl ?_
    refine J.done ?_
    refine J.thenN ?_
    refine J.condD (by exact rfl) (fun hp15 => ?_) (fun hp15 => ?_)
    · replace h := ifP hp15 h
      refine J.seq ?_
      refine J.region ?_
      refine J.quiet (Y.assign rfl) rfl ?_
      refine J.done ?_
      refine J.thenN ?_
      refine J.ret ?_
      refine J.thenR ?_
      obtain rfl := Option.some.inj h
      exact J.retG1 (()) rfl rfl (RV.tmp rfl) (SubM.nil) LentAll.nil
    · replace h := ifN hp15 h
      refine J.skip ?_
      refine J.thenN ?_
      refine J.seq ?_
      refine J.midI (A := Unit) (B := Unit) (fun a16 => law01_GraphDistancesAreSteps_k1 fuel a16 = some r) (fun a16 b17 => []) (fun a16 b17 => []) (fun a16 b17 => [Sl RI64 v0 p0.1, S2 RI64I64p v1 z2 p0.2]) ?_ ?_
      · refine J.seq ?_
        refine J.region ?_
        refine J.quiet (Y.assign rfl) rfl ?_
        refine J.done ?_
        refine J.thenN ?_
        refine J.block ?_
        refine J.loopI (A := Int) (B := Unit) (law01_GraphDistancesAreSteps_s1 fuel p0 r9 r12) (fun a23 b24 => [(1, Value.int .i64 (r9)), (2, Value.pointer (some ⟨b1, 0, none⟩)), (5, x14), (6, Value.int .i64 (a23))]) (fun a23 b24 => [Ar EI64 x14 r12, Blk b1 [v0, v1] 26]) (fun a23 b24 => [Sl RI64 v0 p0.1, S2 RI64I64p v1 z2 p0.2]) (0 : Int) (()) h (by repeat (first | exact SubF.nil | refine SubF.cons rfl ?_)) (SubM.refl _) (LentAll.refl _ _) ?_
        clear h
        intro k25 a23 b24 h
        unfold law01_GraphDistancesAreSteps_s1 at h
        refine J.seq ?_
        refine J.seq ?_
        refine J.region ?_
        refine J.quiet (Y.move rfl) rfl ?_
        refine J.quiet (Y.move rfl) rfl ?_
        refine J.quiet (Y.lenS rfl (Lent.ar (Lent.res 0 rfl) FI64) rfl) rfl ?_
        refine J.quiet (Y.lss rfl rfl) rfl ?_
        refine J.done ?_
        refine J.thenN ?_
        refine J.condD (by exact rfl) (fun hp26 => ?_) (fun hp26 => ?_)
        · replace h := ifP hp26 h
          refine J.skip ?_
          refine J.thenN ?_
          refine J.seq ?_
          refine J.block ?_
          refine J.seq ?_
          refine J.seq ?_
          refine J.midI (A := Bool) (B := Unit) (fun a28 => law01_GraphDistancesAreSteps_k2 fuel p0 r12 a23 (iter (law01_GraphDistancesAreSteps_s1 fuel p0 r9 r12) k25) a28 = some r) (fun a28 b29 => [(1, Value.int .i64 (r9)), (2, Value.pointer (some ⟨b1, 0, none⟩)), (5, x14), (6, Value.int .i64 (a23)), (49, Value.bool (a28))]) (fun a28 b29 => [Ar EI64 x14 r12, Blk b1 [v0, v1] 26]) (fun a28 b29 => [Sl RI64 v0 p0.1, S2 RI64I64p v1 z2 p0.2]) ?_ ?_
          · refine J.region ?_
            refine J.quiet (Y.move rfl) rfl ?_
            refine J.quiet (Y.move rfl) rfl ?_
            replace h := ck_some h; obtain ⟨hc65, h⟩ := h
            refine J.quiet (Y.indexS rfl rfl (Lent.ar (Lent.res 0 rfl) FI64) rfl rfl hc65) rfl ?_
            refine J.quiet (Y.loadS0 rfl (Lent.ar (Lent.res 0 rfl) FI64) rfl rfl rfl RI64c0 hc65) rfl ?_
            refine J.quiet (Y.lss rfl rfl) rfl ?_
            refine J.quiet (Y.move rfl) rfl ?_
            refine J.guardD (by exact rfl) (by exact rfl) (fun hp66 => ?_) (fun hp66 => ?_)
            · replace h := ifP hp66 h
              refine J.guardN rfl rfl rfl ?_
              refine J.guardN rfl rfl rfl ?_
              refine J.guardN rfl rfl rfl ?_
              refine J.guardN rfl rfl rfl ?_
              refine J.guardN rfl rfl rfl ?_
              refine J.guardN rfl rfl rfl ?_
              refine J.guardN rfl rfl rfl ?_
              refine J.guardN rfl rfl rfl ?_
              refine J.guardN rfl rfl rfl ?_
              refine J.quiet (Y.pickT rfl rfl) rfl ?_
              refine J.done ?_
              refine J.thenN ?_
              exact J.meetI (true) (()) h (by repeat (first | exact SubF.nil | refine SubF.cons rfl ?_)) (SubM.refl _) (LentAll.refl _ _)
            · replace h := ifN hp66 h
              refine J.guardY rfl (Y.move rfl) rfl ?_
              refine J.guardY rfl (Y.move rfl) rfl ?_
              replace h := ck_some h; obtain ⟨hc67, h⟩ := h
              refine J.guardY rfl (Y.indexS rfl rfl (Lent.ar (Lent.res 0 rfl) FI64) rfl rfl hc67) rfl ?_
              refine J.guardY rfl (Y.loadS0 rfl (Lent.ar (Lent.res 0 rfl) FI64) rfl rfl rfl RI64c0 hc67) rfl ?_
              refine J.guardY rfl (Y.eql rfl rfl) rfl ?_
              refine J.guardY rfl (Y.move rfl) rfl ?_
              refine J.guardY rfl (Y.move rfl) rfl ?_
              refine J.guardY rfl (Y.eql rfl rfl) rfl ?_
              refine J.guardY rfl (Y.neqB rfl rfl rfl) rfl ?_
              refine J.quiet (Y.pickF rfl rfl) rfl ?_
              refine J.done ?_
              refine J.thenN ?_
              exact J.meetI (((decide ((at' r12 a23) = (0 : Int))) != (decide (a23 = r9)))) (()) h (by repeat (first | exact SubF.nil | refine SubF.cons rfl ?_)) (SubM.refl _) (LentAll.refl _ _)
          · clear h
            intro a28 b29 h
            unfold law01_GraphDistancesAreSteps_k2 at h
            refine J.cond (by exact rfl) (fun hp30 => ?_) (fun hp30 => ?_)
            · replace h := ifP hp30 h
              refine J.seq ?_
              refine J.region ?_
              refine J.quiet (Y.assign rfl) rfl ?_
              refine J.done ?_
              refine J.thenN ?_
              refine J.ret ?_
              refine J.thenR ?_
              refine J.inR ?_
              refine J.thenR ?_
              refine J.thenR ?_
              refine J.inR ?_
              refine J.thenR ?_
              obtain rfl := Option.some.inj h
              exact J.retG1 (()) rfl rfl (RV.tmp rfl) (SubM.nil) LentAll.nil
            · replace h := ifBN hp30 h
              refine J.skip ?_
              refine J.thenN ?_
              refine J.seq ?_
              refine J.region ?_
              refine J.quiet (Y.assign rfl) rfl ?_
              refine J.done ?_
              refine J.thenN ?_
              refine J.seq ?_
              refine J.midI (A := Bool) (B := Unit) (fun a32 => law01_GraphDistancesAreSteps_k3 r12 a23 (iter (law01_GraphDistancesAreSteps_s1 fuel p0 r9 r12) k25) a32 = some r) (fun a32 b33 => [(1, Value.int .i64 (r9)), (2, Value.pointer (some ⟨b1, 0, none⟩)), (5, x14), (6, Value.int .i64 (a23)), (7, Value.bool (a32))]) (fun a32 b33 => [Ar EI64 x14 r12, Blk b1 [v0, v1] 26]) (fun a32 b33 => [Sl RI64 v0 p0.1, S2 RI64I64p v1 z2 p0.2]) ?_ ?_
              · refine J.seq ?_
                refine J.region ?_
                refine J.quiet (Y.assign rfl) rfl ?_
                refine J.done ?_
                refine J.thenN ?_
                refine J.block ?_
                refine J.loopI (A := Bool × Int) (B := Unit) (law01_GraphDistancesAreSteps_s2 p0 r12 a23 (iter (law01_GraphDistancesAreSteps_s1 fuel p0 r9 r12) k25)) (fun a43 b44 => [(1, Value.int .i64 (r9)), (2, Value.pointer (some ⟨b1, 0, none⟩)), (5, x14), (6, Value.int .i64 (a23)), (7, Value.bool (a43.1)), (8, Value.int .i64 (a43.2))]) (fun a43 b44 => [Ar EI64 x14 r12, Blk b1 [v0, v1] 26]) (fun a43 b44 => [Sl RI64 v0 p0.1, S2 RI64I64p v1 z2 p0.2]) (false, (0 : Int)) (()) h (by repeat (first | exact SubF.nil | refine SubF.cons rfl ?_)) (SubM.refl _) (LentAll.refl _ _) ?_
                clear h
                intro k45 a43 b44 h
                unfold law01_GraphDistancesAreSteps_s2 at h
                refine J.seq ?_
                refine J.seq ?_
                refine J.region ?_
                refine J.quiet (Y.move rfl) rfl ?_
                refine J.quiet (Y.fieldB rfl rfl rfl rfl rfl) rfl ?_
                refine J.quiet (Y.loadB 1 rfl rfl rfl rfl rfl) rfl ?_
                refine J.quiet (Y.move rfl) rfl ?_
                replace h := ck_some h; obtain ⟨hc46, h⟩ := h
                refine J.quiet (Y.indexN rfl rfl (Lent.fact 1 rfl) rfl rfl hc46) rfl ?_
                refine J.quiet (Y.loadRow rfl (Lent.fact 1 rfl) rfl rfl hc46) rfl ?_
                refine J.quiet (Y.lenS rfl (Lent.el (Lent.fact 1 rfl) hc46.1 hc46.2) rfl) rfl ?_
                refine J.quiet (Y.lss rfl rfl) rfl ?_
                refine J.done ?_
                refine J.thenN ?_
                refine J.condD (by exact rfl) (fun hp47 => ?_) (fun hp47 => ?_)
                · replace h := ifP hp47 h
                  refine J.skip ?_
                  refine J.thenN ?_
                  refine J.seq ?_
                  refine J.midI (A := Bool) (B := Unit) (fun a49 => law01_GraphDistancesAreSteps_k5 a43 (iter (law01_GraphDistancesAreSteps_s2 p0 r12 a23 (iter (law01_GraphDistancesAreSteps_s1 fuel p0 r9 r12) k25)) k45) a49 = some r) (fun a49 b50 => [(1, Value.int .i64 (r9)), (2, Value.pointer (some ⟨b1, 0, none⟩)), (5, x14), (6, Value.int .i64 (a23)), (7, Value.bool (a49)), (8, Value.int .i64 (a43.2))]) (fun a49 b50 => [Ar EI64 x14 r12, Blk b1 [v0, v1] 26]) (fun a49 b50 => [Sl RI64 v0 p0.1, S2 RI64I64p v1 z2 p0.2]) ?_ ?_
                  · refine J.block ?_
                    refine J.seq ?_
                    refine J.region ?_
                    refine J.quiet (Y.move rfl) rfl ?_
                    refine J.quiet (Y.fieldB rfl rfl rfl rfl rfl) rfl ?_
                    refine J.quiet (Y.loadB 1 rfl rfl rfl rfl rfl) rfl ?_
                    refine J.quiet (Y.move rfl) rfl ?_
                    replace h := ck_some h; obtain ⟨hc51, h⟩ := h
                    refine J.quiet (Y.indexN rfl rfl (Lent.fact 1 rfl) rfl rfl hc51) rfl ?_
                    refine J.quiet (Y.loadRow rfl (Lent.fact 1 rfl) rfl rfl hc51) rfl ?_
                    refine J.quiet (Y.move rfl) rfl ?_
                    replace h := ck_some h; obtain ⟨hc52, h⟩ := h
                    refine J.quiet (Y.indexS rfl rfl (Lent.el (Lent.fact 1 rfl) hc51.1 hc51.2) rfl rfl hc52) rfl ?_
                    refine J.quiet (Y.fieldEl rfl rfl rfl rfl rfl) rfl ?_
                    refine J.quiet (Y.loadS rfl (Lent.el (Lent.fact 1 rfl) hc51.1 hc51.2) rfl rfl rfl RI64I64pc0 hc52) rfl ?_
                    replace h := ck_some h; obtain ⟨hc53, h⟩ := h
                    refine J.quiet (Y.indexS rfl rfl (Lent.ar (Lent.res 0 rfl) FI64) rfl rfl hc53) rfl ?_
                    refine J.quiet (Y.loadS0 rfl (Lent.ar (Lent.res 0 rfl) FI64) rfl rfl rfl RI64c0 hc53) rfl ?_
                    refine J.quiet (Y.assign rfl) rfl ?_
                    refine J.done ?_
                    refine J.thenN ?_
                    refine J.seq ?_
                    refine J.seq ?_
                    refine J.midI (A := Bool) (B := Unit) (fun a55 => law01_GraphDistancesAreSteps_k6 p0 r12 a23 a43 (iter (law01_GraphDistancesAreSteps_s2 p0 r12 a23 (iter (law01_GraphDistancesAreSteps_s1 fuel p0 r9 r12) k25)) k45) a55 = some r) (fun a55 b56 => [(1, Value.int .i64 (r9)), (2, Value.pointer (some ⟨b1, 0, none⟩)), (5, x14), (6, Value.int .i64 (a23)), (7, Value.bool (a43.1)), (8, Value.int .i64 (a43.2)), (9, Value.int .i64 (at' r12 ((at' (at' p0.2 a23) a43.2).1))), (97, Value.bool (a55))]) (fun a55 b56 => [Ar EI64 x14 r12, Blk b1 [v0, v1] 26]) (fun a55 b56 => [Sl RI64 v0 p0.1, S2 RI64I64p v1 z2 p0.2]) ?_ ?_
                    · refine J.region ?_
                      refine J.quiet (Y.move rfl) rfl ?_
                      refine J.quiet (Y.lss rfl rfl) rfl ?_
                      refine J.quiet (Y.move rfl) rfl ?_
                      refine J.quiet (Y.move rfl) rfl ?_
                      replace h := ck_some h; obtain ⟨hc60, h⟩ := h
                      refine J.quiet (Y.indexS rfl rfl (Lent.ar (Lent.res 0 rfl) FI64) rfl rfl hc60) rfl ?_
                      refine J.quiet (Y.loadS0 rfl (Lent.ar (Lent.res 0 rfl) FI64) rfl rfl rfl RI64c0 hc60) rfl ?_
                      refine J.quiet (Y.lss rfl rfl) rfl ?_
                      refine J.quiet (Y.neqB rfl rfl rfl) rfl ?_
                      refine J.quiet (Y.move rfl) rfl ?_
                      refine J.guard (by exact rfl) (by exact rfl) (fun hp61 => ?_) (fun hp61 => ?_)
                      · replace h := ifP hp61 h
                        refine J.guardN rfl rfl rfl ?_
                        refine J.guardN rfl rfl rfl ?_
                        refine J.guardN rfl rfl rfl ?_
                        refine J.guardN rfl rfl rfl ?_
                        refine J.guardN rfl rfl rfl ?_
                        refine J.guardN rfl rfl rfl ?_
                        refine J.guardN rfl rfl rfl ?_
                        refine J.quiet (Y.pickT rfl rfl) rfl ?_
                        refine J.quiet (Y.move rfl) rfl ?_
                        refine J.guardN rfl rfl rfl ?_
                        refine J.guardN rfl rfl rfl ?_
                        refine J.guardN rfl rfl rfl ?_
                        refine J.guardN rfl rfl rfl ?_
                        refine J.guardN rfl rfl rfl ?_
                        refine J.guardN rfl rfl rfl ?_
                        refine J.guardN rfl rfl rfl ?_
                        refine J.quiet (Y.pickT rfl rfl) rfl ?_
                        refine J.done ?_
                        refine J.thenN ?_
                        exact J.meetI (true) (()) h (by repeat (first | exact SubF.nil | refine SubF.cons rfl ?_)) (SubM.refl _) (LentAll.refl _ _)
                      · replace h := ifBN hp61 h
                        refine J.guardY rfl (Y.move rfl) rfl ?_
                        refine J.guardY rfl (Y.move rfl) rfl ?_
                        refine J.guardY rfl (Y.move rfl) rfl ?_
                        replace h := ck_some h; obtain ⟨hc62, h⟩ := h
                        refine J.guardY rfl (Y.indexS rfl rfl (Lent.ar (Lent.res 0 rfl) FI64) rfl rfl hc62) rfl ?_
                        refine J.guardY rfl (Y.loadS0 rfl (Lent.ar (Lent.res 0 rfl) FI64) rfl rfl rfl RI64c0 hc62) rfl ?_
                        refine J.guardY rfl (Y.subW rfl rfl) rfl ?_
                        refine J.guardY rfl (Y.gtr rfl rfl) rfl ?_
                        refine J.quiet (Y.pickF rfl rfl) rfl ?_
                        refine J.quiet (Y.move rfl) rfl ?_
                        refine J.guardD (by exact rfl) (by exact rfl) (fun hp63 => ?_) (fun hp63 => ?_)
                        · replace h := ifP hp63 h
                          refine J.guardN rfl rfl rfl ?_
                          refine J.guardN rfl rfl rfl ?_
                          refine J.guardN rfl rfl rfl ?_
                          refine J.guardN rfl rfl rfl ?_
                          refine J.guardN rfl rfl rfl ?_
                          refine J.guardN rfl rfl rfl ?_
                          refine J.guardN rfl rfl rfl ?_
                          refine J.quiet (Y.pickT rfl rfl) rfl ?_
                          refine J.done ?_
                          refine J.thenN ?_
                          exact J.meetI (true) (()) h (by repeat (first | exact SubF.nil | refine SubF.cons rfl ?_)) (SubM.refl _) (LentAll.refl _ _)
                        · replace h := ifN hp63 h
                          refine J.guardY rfl (Y.move rfl) rfl ?_
                          refine J.guardY rfl (Y.move rfl) rfl ?_
                          replace h := ck_some h; obtain ⟨hc64, h⟩ := h
                          refine J.guardY rfl (Y.indexS rfl rfl (Lent.ar (Lent.res 0 rfl) FI64) rfl rfl hc64) rfl ?_
                          refine J.guardY rfl (Y.loadS0 rfl (Lent.ar (Lent.res 0 rfl) FI64) rfl rfl rfl RI64c0 hc64) rfl ?_
                          refine J.guardY rfl (Y.move rfl) rfl ?_
                          refine J.guardY rfl (Y.subW rfl rfl) rfl ?_
                          refine J.guardY rfl (Y.gtr rfl rfl) rfl ?_
                          refine J.quiet (Y.pickF rfl rfl) rfl ?_
                          refine J.done ?_
                          refine J.thenN ?_
                          exact J.meetI (decide ((1 : Int) < (wI .i64 ((at' r12 a23) - (at' r12 ((at' (at' p0.2 a23) a43.2).1)))))) (()) h (by repeat (first | exact SubF.nil | refine SubF.cons rfl ?_)) (SubM.refl _) (LentAll.refl _ _)
                    · clear h
                      intro a55 b56 h
                      unfold law01_GraphDistancesAreSteps_k6 at h
                      refine J.cond (by exact rfl) (fun hp57 => ?_) (fun hp57 => ?_)
                      · replace h := ifP hp57 h
                        refine J.seq ?_
                        refine J.region ?_
                        refine J.quiet (Y.assign rfl) rfl ?_
                        refine J.done ?_
                        refine J.thenN ?_
                        refine J.ret ?_
                        refine J.thenR ?_
                        refine J.inR ?_
                        refine J.thenR ?_
                        refine J.thenR ?_
                        refine J.inR ?_
                        refine J.thenR ?_
                        refine J.inR ?_
                        refine J.thenR ?_
                        refine J.thenR ?_
                        refine J.inR ?_
                        refine J.thenR ?_
                        obtain rfl := Option.some.inj h
                        exact J.retG1 (()) rfl rfl (RV.tmp rfl) (SubM.nil) LentAll.nil
                      · replace h := ifBN hp57 h
                        refine J.skip ?_
                        refine J.thenN ?_
                        refine J.region ?_
                        refine J.quiet (Y.move rfl) rfl ?_
                        refine J.quiet (Y.move rfl) rfl ?_
                        refine J.guard (by exact rfl) (by exact rfl) (fun hp58 => ?_) (fun hp58 => ?_)
                        · replace h := ifP hp58 h
                          refine J.guardN rfl rfl rfl ?_
                          refine J.guardN rfl rfl rfl ?_
                          refine J.guardN rfl rfl rfl ?_
                          refine J.guardN rfl rfl rfl ?_
                          refine J.guardN rfl rfl rfl ?_
                          refine J.guardN rfl rfl rfl ?_
                          refine J.guardN rfl rfl rfl ?_
                          refine J.quiet (Y.pickT rfl rfl) rfl ?_
                          refine J.quiet (Y.assign rfl) rfl ?_
                          refine J.done ?_
                          refine J.inN ?_
                          refine J.thenN ?_
                          exact J.meetI (true) (()) h (by repeat (first | exact SubF.nil | refine SubF.cons rfl ?_)) (SubM.refl _) (LentAll.refl _ _)
                        · replace h := ifBN hp58 h
                          refine J.guardY rfl (Y.move rfl) rfl ?_
                          refine J.guardY rfl (Y.move rfl) rfl ?_
                          refine J.guardY rfl (Y.move rfl) rfl ?_
                          replace h := ck_some h; obtain ⟨hc59, h⟩ := h
                          refine J.guardY rfl (Y.indexS rfl rfl (Lent.ar (Lent.res 0 rfl) FI64) rfl rfl hc59) rfl ?_
                          refine J.guardY rfl (Y.loadS0 rfl (Lent.ar (Lent.res 0 rfl) FI64) rfl rfl rfl RI64c0 hc59) rfl ?_
                          refine J.guardY rfl (Y.subW rfl rfl) rfl ?_
                          refine J.guardY rfl (Y.eql rfl rfl) rfl ?_
                          refine J.quiet (Y.pickF rfl rfl) rfl ?_
                          refine J.quiet (Y.assign rfl) rfl ?_
                          refine J.done ?_
                          refine J.inN ?_
                          refine J.thenN ?_
                          exact J.meetI (decide ((at' r12 ((at' (at' p0.2 a23) a43.2).1)) = (wI .i64 ((at' r12 a23) - (1 : Int))))) (()) h (by repeat (first | exact SubF.nil | refine SubF.cons rfl ?_)) (SubM.refl _) (LentAll.refl _ _)
                  · clear h
                    intro a49 b50 h
                    unfold law01_GraphDistancesAreSteps_k5 at h
                    refine J.region ?_
                    refine J.quiet (Y.move rfl) rfl ?_
                    refine J.quiet (Y.addW rfl rfl) rfl ?_
                    refine J.quiet (Y.assign rfl) rfl ?_
                    refine J.done ?_
                    refine J.thenN ?_
                    exact J.againI (a49, (wI .i64 (a43.2 + (1 : Int)))) (()) h (by repeat (first | exact SubF.nil | refine SubF.cons rfl ?_)) (SubM.refl _) (LentAll.refl _ _)
                · replace h := ifN hp47 h
                  refine J.exit ?_
                  refine J.thenX ?_
                  refine J.thenX ?_
                  refine J.inX ?_
                  refine J.thenN ?_
                  exact J.meetI (a43.1) (()) h (by repeat (first | exact SubF.nil | refine SubF.cons rfl ?_)) (SubM.refl _) (LentAll.refl _ _)
              · clear h
                intro a32 b33 h
                unfold law01_GraphDistancesAreSteps_k3 at h
                refine J.seq ?_
                refine J.midI (A := Bool) (B := Unit) (fun a35 => law01_GraphDistancesAreSteps_k4 a23 (iter (law01_GraphDistancesAreSteps_s1 fuel p0 r9 r12) k25) a35 = some r) (fun a35 b36 => [(1, Value.int .i64 (r9)), (2, Value.pointer (some ⟨b1, 0, none⟩)), (5, x14), (6, Value.int .i64 (a23)), (116, Value.bool (a35))]) (fun a35 b36 => [Ar EI64 x14 r12, Blk b1 [v0, v1] 26]) (fun a35 b36 => [Sl RI64 v0 p0.1, S2 RI64I64p v1 z2 p0.2]) ?_ ?_
                · refine J.region ?_
                  refine J.quiet (Y.move rfl) rfl ?_
                  refine J.quiet (Y.move rfl) rfl ?_
                  replace h := ck_some h; obtain ⟨hc38, h⟩ := h
                  refine J.quiet (Y.indexS rfl rfl (Lent.ar (Lent.res 0 rfl) FI64) rfl rfl hc38) rfl ?_
                  refine J.quiet (Y.loadS0 rfl (Lent.ar (Lent.res 0 rfl) FI64) rfl rfl rfl RI64c0 hc38) rfl ?_
                  refine J.quiet (Y.gtr rfl rfl) rfl ?_
                  refine J.quiet (Y.move rfl) rfl ?_
                  refine J.guardD (by exact rfl) (by exact rfl) (fun hp39 => ?_) (fun hp39 => ?_)
                  · replace h := ifP hp39 h
                    refine J.guardY rfl (Y.move rfl) rfl ?_
                    refine J.guardY rfl (Y.not rfl) rfl ?_
                    refine J.quiet (Y.pickT rfl rfl) rfl ?_
                    refine J.done ?_
                    refine J.thenN ?_
                    exact J.meetI ((!a32)) (()) h (by repeat (first | exact SubF.nil | refine SubF.cons rfl ?_)) (SubM.refl _) (LentAll.refl _ _)
                  · replace h := ifN hp39 h
                    refine J.guardN rfl rfl rfl ?_
                    refine J.guardN rfl rfl rfl ?_
                    refine J.quiet (Y.pickF rfl rfl) rfl ?_
                    refine J.done ?_
                    refine J.thenN ?_
                    exact J.meetI (false) (()) h (by repeat (first | exact SubF.nil | refine SubF.cons rfl ?_)) (SubM.refl _) (LentAll.refl _ _)
                · clear h
                  intro a35 b36 h
                  unfold law01_GraphDistancesAreSteps_k4 at h
                  refine J.cond (by exact rfl) (fun hp37 => ?_) (fun hp37 => ?_)
                  · replace h := ifP hp37 h
                    refine J.seq ?_
                    refine J.region ?_
                    refine J.quiet (Y.assign rfl) rfl ?_
                    refine J.done ?_
                    refine J.thenN ?_
                    refine J.ret ?_
                    refine J.inR ?_
                    refine J.thenR ?_
                    refine J.thenR ?_
                    refine J.inR ?_
                    refine J.thenR ?_
                    obtain rfl := Option.some.inj h
                    exact J.retG1 (()) rfl rfl (RV.tmp rfl) (SubM.nil) LentAll.nil
                  · replace h := ifBN hp37 h
                    refine J.skip ?_
                    refine J.inN ?_
                    refine J.thenN ?_
                    refine J.region ?_
                    refine J.quiet (Y.move rfl) rfl ?_
                    refine J.quiet (Y.addW rfl rfl) rfl ?_
                    refine J.quiet (Y.assign rfl) rfl ?_
                    refine J.done ?_
                    refine J.thenN ?_
                    exact J.againI (wI .i64 (a23 + (1 : Int))) (()) h (by repeat (first | exact SubF.nil | refine SubF.cons rfl ?_)) (SubM.refl _) (LentAll.refl _ _)
        · replace h := ifN hp26 h
          refine J.exit ?_
          refine J.thenX ?_
          refine J.thenX ?_
          refine J.inX ?_
          refine J.thenN ?_
          exact J.meetI (()) (()) h (by repeat (first | exact SubF.nil | refine SubF.cons rfl ?_)) (SubM.nil) (LentAll.refl _ _)
      · clear h
        intro a16 b17 h
        unfold law01_GraphDistancesAreSteps_k1 at h
        refine J.seq ?_
        refine J.region ?_
        replace h := bnd h; obtain ⟨r18, hr19, h⟩ := h
        refine J.loud (Loud.callL body33 (t_law01_awake fuel  r18 hr19) rfl (LentAll.nil) (fun _ _ => rfl)) rfl fun x20 => ?_
        refine J.quiet (Y.assign rfl) rfl ?_
        refine J.done ?_
        refine J.thenN ?_
        refine J.ret ?_
        obtain rfl := Option.some.inj h
        exact J.retG1 (()) rfl rfl (RV.tmp rfl) (SubM.refl _) LentAll.nil

end Go.Proofs.Ytemhmmcakmidkaa
