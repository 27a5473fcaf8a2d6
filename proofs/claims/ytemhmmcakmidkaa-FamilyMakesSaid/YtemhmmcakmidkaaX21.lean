/- The model of selfstabref01.Same and the proof that the function meets it, by program (gen/xt.py). Conditions: none. -/
import Derived.Test.YtemhmmcakmidkaaXp
namespace Go.Proofs.Ytemhmmcakmidkaa
open Go.Sx

def ref01_Same_k3  (a9 : Unit) : Option (Bool) :=
  some (true)
def ref01_Same_k4 (a13 : Int) (ag12 : (Int) → Option (Bool)) (a17 : Unit) : Option (Bool) :=
  ag12 (wI .i64 (a13 + (1 : Int)))
def ref01_Same_s2 (p0 : List (Int) × (List (List (Int × Int)))) (p1 : List (Int) × (List (List (Int × Int)))) (a13 : Int) (ag12 : (Int) → Option (Bool)) (a24 : Int) (ag23 : (Int) → Option (Bool)) : Option (Bool) :=
  ck (0 ≤ a13 ∧ a13 < (List.length p0.2 : Int)) (if a24 < (List.length (at' p0.2 a13) : Int) then (ck (0 ≤ a13 ∧ a13 < (List.length p0.2 : Int)) (ck (0 ≤ a24 ∧ a24 < (List.length (at' p0.2 a13) : Int)) (ck (0 ≤ a13 ∧ a13 < (List.length p1.2 : Int)) (ck (0 ≤ a24 ∧ a24 < (List.length (at' p1.2 a13) : Int)) (if (((at' (at' p0.2 a13) a24).1), ((at' (at' p0.2 a13) a24).2)) ≠ (((at' (at' p1.2 a13) a24).1), ((at' (at' p1.2 a13) a24).2)) then (some (false)) else (ag23 (wI .i64 (a24 + (1 : Int))))))))) else (ref01_Same_k4 a13 ag12 (())))
def ref01_Same_s1 (fuel : Nat) (p0 : List (Int) × (List (List (Int × Int)))) (p1 : List (Int) × (List (List (Int × Int)))) (a13 : Int) (ag12 : (Int) → Option (Bool)) : Option (Bool) :=
  if a13 < (List.length p0.2 : Int) then (ck (0 ≤ a13 ∧ a13 < (List.length p0.2 : Int)) (ck (0 ≤ a13 ∧ a13 < (List.length p1.2 : Int)) (if (List.length (at' p0.2 a13) : Int) ≠ (List.length (at' p1.2 a13) : Int) then (some (false)) else (iter (ref01_Same_s2 p0 p1 a13 ag12) fuel (0 : Int))))) else (ref01_Same_k3  (()))
def ref01_Same_k2 (fuel : Nat) (p0 : List (Int) × (List (List (Int × Int)))) (p1 : List (Int) × (List (List (Int × Int)))) (a7 : Unit) : Option (Bool) :=
  iter (ref01_Same_s1 fuel p0 p1) fuel (0 : Int)
def ref01_Same_s3 (fuel : Nat) (p0 : List (Int) × (List (List (Int × Int)))) (p1 : List (Int) × (List (List (Int × Int)))) (a36 : Int) (ag35 : (Int) → Option (Bool)) : Option (Bool) :=
  if a36 < (List.length p0.1 : Int) then (ck (0 ≤ a36 ∧ a36 < (List.length p0.1 : Int)) (ck (0 ≤ a36 ∧ a36 < (List.length p1.1 : Int)) (if (at' p0.1 a36) ≠ (at' p1.1 a36) then (some (false)) else (ag35 (wI .i64 (a36 + (1 : Int))))))) else (ref01_Same_k2 fuel p0 p1 (()))
def ref01_Same_k1 (fuel : Nat) (p0 : List (Int) × (List (List (Int × Int)))) (p1 : List (Int) × (List (List (Int × Int)))) (a4 : Bool) : Option (Bool) :=
  if a4 = true then (some (false)) else (iter (ref01_Same_s3 fuel p0 p1) fuel (0 : Int))
def m_ref01_Same (fuel : Nat) (p0 : List (Int) × (List (List (Int × Int)))) (p1 : List (Int) × (List (List (Int × Int)))) : Option (Bool) :=
  if (List.length p0.1 : Int) ≠ (List.length p1.1 : Int) then (ref01_Same_k1 fuel p0 p1 (true)) else (ref01_Same_k1 fuel p0 p1 (decide ((List.length p0.2 : Int) ≠ (List.length p1.2 : Int))))

theorem body21 : HasBody Try.prog 21 := Try.call21

set_option maxHeartbeats 4000000 in
set_option maxRecDepth 20000 in
theorem t_ref01_Same (fuel : Nat) {p0 : List (Int) × (List (List (Int × Int)))} {p1 : List (Int) × (List (List (Int × Int)))} (v0 : Value)  (v1 : Value)  (z2 : List (Value × List (Int × Int)))  (v3 : Value)  (v4 : Value)  (z5 : List (Value × List (Int × Int))) (r : Bool) (h : m_ref01_Same fuel p0 p1 = some r) :
    Meets Try.prog 21 #[Value.agg #[v0, v1], Value.agg #[v3, v4]] [Sl RI64 v0 p0.1, S2 RI64I64p v1 z2 p0.2, Sl RI64 v3 p1.1, S2 RI64I64p v4 z5 p1.2] (fun x : Unit => Value.bool (r)) (fun x l => l) (fun _ l => l) := by
  refine Meets.of (vs := [Value.agg #[v0, v1], Value.agg #[v3, v4]]) Try.func21 rfl Try.ntmps21 rfl fun c => ?_
  unfold m_ref01_Same at h
  refine J.seq ?_
  refine J.region ?_
  refine J.loud (Loud.box (cs := [v0, v1]) rfl rfl) rfl fun b1 => ?_
  refine J.loud (Loud.box (cs := [v3, v4]) rfl rfl) rfl fun b2 => ?_
  refine J.quiet (Y.assign rfl) rfl ?_
  refine J.done ?_
  refine J.thenN ?_
  refine J.seq ?_
  refine J.seq ?_
  refine J.midI (A := Bool) (B := Unit) (fun a4 => ref01_Same_k1 fuel p0 p1 a4 = some r) (fun a4 b5 => [(2, Value.pointer (some ⟨b1, 0, none⟩)), (3, Value.pointer (some ⟨b2, 0, none⟩)), (23, Value.bool (a4))]) (fun a4 b5 => [Blk b2 [v3, v4] 26, Blk b1 [v0, v1] 26]) (fun a4 b5 => [Sl RI64 v0 p0.1, S2 RI64I64p v1 z2 p0.2, Sl RI64 v3 p1.1, S2 RI64I64p v4 z5 p1.2]) ?_ ?_
  · refine J.region ?_
    refine J.quiet (Y.fieldB rfl rfl rfl rfl rfl) rfl ?_
    refine J.quiet (Y.loadB 1 rfl rfl rfl rfl rfl) rfl ?_
    refine J.quiet (Y.lenS rfl (Lent.fact 0 rfl) rfl) rfl ?_
    refine J.quiet (Y.fieldB rfl rfl rfl rfl rfl) rfl ?_
    refine J.quiet (Y.loadB 0 rfl rfl rfl rfl rfl) rfl ?_
    refine J.quiet (Y.lenS rfl (Lent.fact 2 rfl) rfl) rfl ?_
    refine J.quiet (Y.neq rfl rfl) rfl ?_
    refine J.quiet (Y.move rfl) rfl ?_
    refine J.guardD (by exact rfl) (by exact rfl) (fun hp43 => ?_) (fun hp43 => ?_)
    · replace h := ifP hp43 h
      refine J.guardN rfl rfl rfl ?_
      refine J.guardN rfl rfl rfl ?_
      refine J.guardN rfl rfl rfl ?_
      refine J.guardN rfl rfl rfl ?_
      refine J.guardN rfl rfl rfl ?_
      refine J.guardN rfl rfl rfl ?_
      refine J.guardN rfl rfl rfl ?_
      refine J.quiet (Y.pickT rfl rfl) rfl ?_
      refine J.done ?_
      refine J.thenN ?_
      exact J.meetI (true) (()) h (by repeat (first | exact SubF.nil | refine SubF.cons rfl ?_)) (SubM.refl _) (LentAll.refl _ _)
    · replace h := ifN hp43 h
      refine J.guardY rfl (Y.fieldB rfl rfl rfl rfl rfl) rfl ?_
      refine J.guardY rfl (Y.loadB 1 rfl rfl rfl rfl rfl) rfl ?_
      refine J.guardY rfl (Y.lenN rfl (Lent.fact 1 rfl) rfl) rfl ?_
      refine J.guardY rfl (Y.fieldB rfl rfl rfl rfl rfl) rfl ?_
      refine J.guardY rfl (Y.loadB 0 rfl rfl rfl rfl rfl) rfl ?_
      refine J.guardY rfl (Y.lenN rfl (Lent.fact 3 rfl) rfl) rfl ?_
      refine J.guardY rfl (Y.neq rfl rfl) rfl ?_
      refine J.quiet (Y.pickF rfl rfl) rfl ?_
      refine J.done ?_
      refine J.thenN ?_
      exact J.meetI (decide ((List.length p0.2 : Int) ≠ (List.length p1.2 : Int))) (()) h (by repeat (first | exact SubF.nil | refine SubF.cons rfl ?_)) (SubM.refl _) (LentAll.refl _ _)
  · clear h
    intro a4 b5 h
    unfold ref01_Same_k1 at h
    refine J.cond (by exact rfl) (fun hp6 => ?_) (fun hp6 => ?_)
    · replace h := ifP hp6 h
      refine J.seq ?_
      refine J.region ?_
      refine J.quiet (Y.assign rfl) rfl ?_
      refine J.done ?_
      refine J.thenN ?_
      refine J.ret ?_
      refine J.thenR ?_
      obtain rfl := Option.some.inj h
      exact J.retG1 (()) rfl rfl (RV.tmp rfl) (SubM.nil) LentAll.nil
    · replace h := ifBN hp6 h
      refine J.skip ?_
      refine J.thenN ?_
      refine J.seq ?_
      refine J.midI (A := Unit) (B := Unit) (fun a7 => ref01_Same_k2 fuel p0 p1 a7 = some r) (fun a7 b8 => [(2, Value.pointer (some ⟨b1, 0, none⟩)), (3, Value.pointer (some ⟨b2, 0, none⟩))]) (fun a7 b8 => [Blk b2 [v3, v4] 26, Blk b1 [v0, v1] 26]) (fun a7 b8 => [Sl RI64 v0 p0.1, S2 RI64I64p v1 z2 p0.2, Sl RI64 v3 p1.1, S2 RI64I64p v4 z5 p1.2]) ?_ ?_
      · refine J.seq ?_
        refine J.region ?_
        refine J.quiet (Y.assign rfl) rfl ?_
        refine J.done ?_
        refine J.thenN ?_
        refine J.block ?_
        refine J.loopI (A := Int) (B := Unit) (ref01_Same_s3 fuel p0 p1) (fun a36 b37 => [(2, Value.pointer (some ⟨b1, 0, none⟩)), (3, Value.pointer (some ⟨b2, 0, none⟩)), (5, Value.int .i64 (a36))]) (fun a36 b37 => [Blk b2 [v3, v4] 26, Blk b1 [v0, v1] 26]) (fun a36 b37 => [Sl RI64 v0 p0.1, S2 RI64I64p v1 z2 p0.2, Sl RI64 v3 p1.1, S2 RI64I64p v4 z5 p1.2]) (0 : Int) (()) h (by repeat (first | exact SubF.nil | refine SubF.cons rfl ?_)) (SubM.refl _) (LentAll.refl _ _) ?_
        clear h
        intro k38 a36 b37 h
        unfold ref01_Same_s3 at h
        refine J.seq ?_
        refine J.seq ?_
        refine J.region ?_
        refine J.quiet (Y.move rfl) rfl ?_
        refine J.quiet (Y.fieldB rfl rfl rfl rfl rfl) rfl ?_
        refine J.quiet (Y.loadB 1 rfl rfl rfl rfl rfl) rfl ?_
        refine J.quiet (Y.lenS rfl (Lent.fact 0 rfl) rfl) rfl ?_
        refine J.quiet (Y.lss rfl rfl) rfl ?_
        refine J.done ?_
        refine J.thenN ?_
        refine J.condD (by exact rfl) (fun hp39 => ?_) (fun hp39 => ?_)
        · replace h := ifP hp39 h
          refine J.skip ?_
          refine J.thenN ?_
          refine J.seq ?_
          refine J.block ?_
          refine J.seq ?_
          refine JR.start [0, 1, 0, 7, 15, 0, 32, 0, 224, 480, 1023] 10 mixedOrders (by decide +kernel) ?_
          refine JR.open (by exact rfl) ?_
          refine JR.qt rfl (SubM.nil) (SubL.nil) (Y.fieldB rfl rfl rfl rfl rfl) HistOk.z ?_
          refine JR.qt rfl (SubM.cons 1 rfl (SubM.nil)) (SubL.nil) (Y.loadB 0 rfl rfl rfl rfl rfl) HistOk.z ?_
          refine JR.qt rfl (SubM.nil) (SubL.nil) (Y.move rfl) HistOk.z ?_
          replace h := ck_some h; obtain ⟨hc40, h⟩ := h
          refine JR.qt rfl (SubM.nil) (SubL.cons (List.mem_of_getElem? (i := 0) rfl) (SubL.nil)) (Y.indexS rfl rfl (Lent.fact 0 rfl) rfl rfl hc40) HistOk.z ?_
          refine JR.qt rfl (SubM.nil) (SubL.cons (List.mem_of_getElem? (i := 0) rfl) (SubL.nil)) (Y.loadS0 rfl (Lent.fact 0 rfl) rfl rfl rfl RI64c0 hc40) HistOk.z ?_
          refine JR.qt rfl (SubM.nil) (SubL.nil) (Y.fieldB rfl rfl rfl rfl rfl) HistOk.z ?_
          refine JR.qt rfl (SubM.cons 0 rfl (SubM.nil)) (SubL.nil) (Y.loadB 0 rfl rfl rfl rfl rfl) HistOk.z ?_
          refine JR.qt rfl (SubM.nil) (SubL.nil) (Y.move rfl) HistOk.z ?_
          replace h := ck_some h; obtain ⟨hc41, h⟩ := h
          refine JR.qt rfl (SubM.nil) (SubL.cons (List.mem_of_getElem? (i := 2) rfl) (SubL.nil)) (Y.indexS rfl rfl (Lent.fact 0 rfl) rfl rfl hc41) HistOk.z ?_
          refine JR.qt rfl (SubM.nil) (SubL.cons (List.mem_of_getElem? (i := 2) rfl) (SubL.nil)) (Y.loadS0 rfl (Lent.fact 0 rfl) rfl rfl rfl RI64c0 hc41) HistOk.z ?_
          refine JR.tailD 10 rfl rfl ?_
          refine J.quiet (Y.neq rfl rfl) rfl ?_
          refine J.done ?_
          refine J.thenN ?_
          refine J.condD (by exact rfl) (fun hp42 => ?_) (fun hp42 => ?_)
          · replace h := ifP hp42 h
            refine J.seq ?_
            refine J.region ?_
            refine J.quiet (Y.assign rfl) rfl ?_
            refine J.done ?_
            refine J.thenN ?_
            refine J.ret ?_
            refine J.inR ?_
            refine J.thenR ?_
            refine J.thenR ?_
            refine J.inR ?_
            refine J.thenR ?_
            obtain rfl := Option.some.inj h
            exact J.retG1 (()) rfl rfl (RV.tmp rfl) (SubM.nil) LentAll.nil
          · replace h := ifN hp42 h
            refine J.skip ?_
            refine J.inN ?_
            refine J.thenN ?_
            refine J.region ?_
            refine J.quiet (Y.move rfl) rfl ?_
            refine J.quiet (Y.addW rfl rfl) rfl ?_
            refine J.quiet (Y.assign rfl) rfl ?_
            refine J.done ?_
            refine J.thenN ?_
            exact J.againI (wI .i64 (a36 + (1 : Int))) (()) h (by repeat (first | exact SubF.nil | refine SubF.cons rfl ?_)) (SubM.refl _) (LentAll.refl _ _)
        · replace h := ifN hp39 h
          refine J.exit ?_
          refine J.thenX ?_
          refine J.thenX ?_
          refine J.inX ?_
          refine J.thenN ?_
          exact J.meetI (()) (()) h (by repeat (first | exact SubF.nil | refine SubF.cons rfl ?_)) (SubM.refl _) (LentAll.refl _ _)
      · clear h
        intro a7 b8 h
        unfold ref01_Same_k2 at h
        refine J.seq ?_
        refine J.midI (A := Unit) (B := Unit) (fun a9 => ref01_Same_k3  a9 = some r) (fun a9 b10 => []) (fun a9 b10 => []) (fun a9 b10 => [Sl RI64 v0 p0.1, S2 RI64I64p v1 z2 p0.2, Sl RI64 v3 p1.1, S2 RI64I64p v4 z5 p1.2]) ?_ ?_
        · refine J.seq ?_
          refine J.region ?_
          refine J.quiet (Y.assign rfl) rfl ?_
          refine J.done ?_
          refine J.thenN ?_
          refine J.block ?_
          refine J.loopI (A := Int) (B := Unit) (ref01_Same_s1 fuel p0 p1) (fun a13 b14 => [(2, Value.pointer (some ⟨b1, 0, none⟩)), (3, Value.pointer (some ⟨b2, 0, none⟩)), (6, Value.int .i64 (a13))]) (fun a13 b14 => [Blk b2 [v3, v4] 26, Blk b1 [v0, v1] 26]) (fun a13 b14 => [Sl RI64 v0 p0.1, S2 RI64I64p v1 z2 p0.2, Sl RI64 v3 p1.1, S2 RI64I64p v4 z5 p1.2]) (0 : Int) (()) h (by repeat (first | exact SubF.nil | refine SubF.cons rfl ?_)) (SubM.refl _) (LentAll.refl _ _) ?_
          clear h
          intro k15 a13 b14 h
          unfold ref01_Same_s1 at h
          refine J.seq ?_
          refine J.seq ?_
          refine J.region ?_
          refine J.quiet (Y.move rfl) rfl ?_
          refine J.quiet (Y.fieldB rfl rfl rfl rfl rfl) rfl ?_
          refine J.quiet (Y.loadB 1 rfl rfl rfl rfl rfl) rfl ?_
          refine J.quiet (Y.lenN rfl (Lent.fact 1 rfl) rfl) rfl ?_
          refine J.quiet (Y.lss rfl rfl) rfl ?_
          refine J.done ?_
          refine J.thenN ?_
          refine J.condD (by exact rfl) (fun hp16 => ?_) (fun hp16 => ?_)
          · replace h := ifP hp16 h
            refine J.skip ?_
            refine J.thenN ?_
            refine J.seq ?_
            refine J.midI (A := Unit) (B := Unit) (fun a17 => ref01_Same_k4 a13 (iter (ref01_Same_s1 fuel p0 p1) k15) a17 = some r) (fun a17 b18 => [(2, Value.pointer (some ⟨b1, 0, none⟩)), (3, Value.pointer (some ⟨b2, 0, none⟩)), (6, Value.int .i64 (a13))]) (fun a17 b18 => [Blk b2 [v3, v4] 26, Blk b1 [v0, v1] 26]) (fun a17 b18 => [Sl RI64 v0 p0.1, S2 RI64I64p v1 z2 p0.2, Sl RI64 v3 p1.1, S2 RI64I64p v4 z5 p1.2]) ?_ ?_
            · refine J.block ?_
              refine J.seq ?_
              refine J.seq ?_
              refine JR.start [0, 1, 0, 7, 15, 31, 0, 64, 0, 448, 960, 1984, 4095] 12 mixedOrders (by decide +kernel) ?_
              refine JR.open (by exact rfl) ?_
              refine JR.qt rfl (SubM.nil) (SubL.nil) (Y.fieldB rfl rfl rfl rfl rfl) HistOk.z ?_
              refine JR.qt rfl (SubM.cons 1 rfl (SubM.nil)) (SubL.nil) (Y.loadB 0 rfl rfl rfl rfl rfl) HistOk.z ?_
              refine JR.qt rfl (SubM.nil) (SubL.nil) (Y.move rfl) HistOk.z ?_
              replace h := ck_some h; obtain ⟨hc19, h⟩ := h
              refine JR.qt rfl (SubM.nil) (SubL.cons (List.mem_of_getElem? (i := 1) rfl) (SubL.nil)) (Y.indexN rfl rfl (Lent.fact 0 rfl) rfl rfl hc19) HistOk.z ?_
              refine JR.qt rfl (SubM.nil) (SubL.cons (List.mem_of_getElem? (i := 1) rfl) (SubL.nil)) (Y.loadRow rfl (Lent.fact 0 rfl) rfl rfl hc19) HistOk.z ?_
              refine JR.qt rfl (SubM.nil) (SubL.cons (List.mem_of_getElem? (i := 1) rfl) (SubL.nil)) (Y.lenS rfl (Lent.el (Lent.fact 0 rfl) hc19.1 hc19.2) rfl) HistOk.z ?_
              refine JR.qt rfl (SubM.nil) (SubL.nil) (Y.fieldB rfl rfl rfl rfl rfl) HistOk.z ?_
              refine JR.qt rfl (SubM.cons 0 rfl (SubM.nil)) (SubL.nil) (Y.loadB 0 rfl rfl rfl rfl rfl) HistOk.z ?_
              refine JR.qt rfl (SubM.nil) (SubL.nil) (Y.move rfl) HistOk.z ?_
              replace h := ck_some h; obtain ⟨hc20, h⟩ := h
              refine JR.qt rfl (SubM.nil) (SubL.cons (List.mem_of_getElem? (i := 3) rfl) (SubL.nil)) (Y.indexN rfl rfl (Lent.fact 0 rfl) rfl rfl hc20) HistOk.z ?_
              refine JR.qt rfl (SubM.nil) (SubL.cons (List.mem_of_getElem? (i := 3) rfl) (SubL.nil)) (Y.loadRow rfl (Lent.fact 0 rfl) rfl rfl hc20) HistOk.z ?_
              refine JR.qt rfl (SubM.nil) (SubL.cons (List.mem_of_getElem? (i := 3) rfl) (SubL.nil)) (Y.lenS rfl (Lent.el (Lent.fact 0 rfl) hc20.1 hc20.2) rfl) HistOk.z ?_
              refine JR.tailD 12 rfl rfl ?_
              refine J.quiet (Y.neq rfl rfl) rfl ?_
              refine J.done ?_
              refine J.thenN ?_
              refine J.condD (by exact rfl) (fun hp21 => ?_) (fun hp21 => ?_)
              · replace h := ifP hp21 h
                refine J.seq ?_
                refine J.region ?_
                refine J.quiet (Y.assign rfl) rfl ?_
                refine J.done ?_
                refine J.thenN ?_
                refine J.ret ?_
                refine J.thenR ?_
                refine J.inR ?_
                refine J.thenR ?_
                refine J.thenR ?_
                refine J.inR ?_
                refine J.thenR ?_
                obtain rfl := Option.some.inj h
                exact J.retG1 (()) rfl rfl (RV.tmp rfl) (SubM.nil) LentAll.nil
              · replace h := ifN hp21 h
                refine J.skip ?_
                refine J.thenN ?_
                refine J.seq ?_
                refine J.region ?_
                refine J.quiet (Y.assign rfl) rfl ?_
                refine J.done ?_
                refine J.thenN ?_
                refine J.block ?_
                refine J.loopI (A := Int) (B := Unit) (ref01_Same_s2 p0 p1 a13 (iter (ref01_Same_s1 fuel p0 p1) k15)) (fun a24 b25 => [(2, Value.pointer (some ⟨b1, 0, none⟩)), (3, Value.pointer (some ⟨b2, 0, none⟩)), (6, Value.int .i64 (a13)), (7, Value.int .i64 (a24))]) (fun a24 b25 => [Blk b2 [v3, v4] 26, Blk b1 [v0, v1] 26]) (fun a24 b25 => [Sl RI64 v0 p0.1, S2 RI64I64p v1 z2 p0.2, Sl RI64 v3 p1.1, S2 RI64I64p v4 z5 p1.2]) (0 : Int) (()) h (by repeat (first | exact SubF.nil | refine SubF.cons rfl ?_)) (SubM.refl _) (LentAll.refl _ _) ?_
                clear h
                intro k26 a24 b25 h
                unfold ref01_Same_s2 at h
                refine J.seq ?_
                refine J.seq ?_
                refine J.region ?_
                refine J.quiet (Y.move rfl) rfl ?_
                refine J.quiet (Y.fieldB rfl rfl rfl rfl rfl) rfl ?_
                refine J.quiet (Y.loadB 1 rfl rfl rfl rfl rfl) rfl ?_
                refine J.quiet (Y.move rfl) rfl ?_
                replace h := ck_some h; obtain ⟨hc27, h⟩ := h
                refine J.quiet (Y.indexN rfl rfl (Lent.fact 1 rfl) rfl rfl hc27) rfl ?_
                refine J.quiet (Y.loadRow rfl (Lent.fact 1 rfl) rfl rfl hc27) rfl ?_
                refine J.quiet (Y.lenS rfl (Lent.el (Lent.fact 1 rfl) hc27.1 hc27.2) rfl) rfl ?_
                refine J.quiet (Y.lss rfl rfl) rfl ?_
                refine J.done ?_
                refine J.thenN ?_
                refine J.condD (by exact rfl) (fun hp28 => ?_) (fun hp28 => ?_)
                · replace h := ifP hp28 h
                  refine J.skip ?_
                  refine J.thenN ?_
                  refine J.seq ?_
                  refine J.block ?_
                  refine J.seq ?_
                  refine JR.start [0, 1, 0, 7, 15, 0, 63, 127, 0, 256, 0, 1792, 3840, 0, 16128, 32512, 65535] 16 mixedOrders (by decide +kernel) ?_
                  refine JR.open (by exact rfl) ?_
                  refine JR.qt rfl (SubM.nil) (SubL.nil) (Y.fieldB rfl rfl rfl rfl rfl) HistOk.z ?_
                  refine JR.qt rfl (SubM.cons 1 rfl (SubM.nil)) (SubL.nil) (Y.loadB 0 rfl rfl rfl rfl rfl) HistOk.z ?_
                  refine JR.qt rfl (SubM.nil) (SubL.nil) (Y.move rfl) HistOk.z ?_
                  replace h := ck_some h; obtain ⟨hc29, h⟩ := h
                  refine JR.qt rfl (SubM.nil) (SubL.cons (List.mem_of_getElem? (i := 1) rfl) (SubL.nil)) (Y.indexN rfl rfl (Lent.fact 0 rfl) rfl rfl hc29) HistOk.z ?_
                  refine JR.qt rfl (SubM.nil) (SubL.cons (List.mem_of_getElem? (i := 1) rfl) (SubL.nil)) (Y.loadRow rfl (Lent.fact 0 rfl) rfl rfl hc29) HistOk.z ?_
                  refine JR.qt rfl (SubM.nil) (SubL.nil) (Y.move rfl) HistOk.z ?_
                  replace h := ck_some h; obtain ⟨hc30, h⟩ := h
                  refine JR.qt rfl (SubM.nil) (SubL.cons (List.mem_of_getElem? (i := 1) rfl) (SubL.nil)) (Y.indexS rfl rfl (Lent.el (Lent.fact 0 rfl) hc29.1 hc29.2) rfl rfl hc30) HistOk.z ?_
                  refine JR.qt rfl (SubM.nil) (SubL.cons (List.mem_of_getElem? (i := 1) rfl) (SubL.nil)) (Y.loadAggS (cs := [Value.int .i64 ((at' (at' p0.2 a13) a24).1), Value.int .i64 ((at' (at' p0.2 a13) a24).2)]) rfl (Lent.el (Lent.fact 0 rfl) hc29.1 hc29.2) FI64I64p rfl rfl rfl rfl hc30) HistOk.z ?_
                  refine JR.qt rfl (SubM.nil) (SubL.nil) (Y.fieldB rfl rfl rfl rfl rfl) HistOk.z ?_
                  refine JR.qt rfl (SubM.cons 0 rfl (SubM.nil)) (SubL.nil) (Y.loadB 0 rfl rfl rfl rfl rfl) HistOk.z ?_
                  refine JR.qt rfl (SubM.nil) (SubL.nil) (Y.move rfl) HistOk.z ?_
                  replace h := ck_some h; obtain ⟨hc31, h⟩ := h
                  refine JR.qt rfl (SubM.nil) (SubL.cons (List.mem_of_getElem? (i := 3) rfl) (SubL.nil)) (Y.indexN rfl rfl (Lent.fact 0 rfl) rfl rfl hc31) HistOk.z ?_
                  refine JR.qt rfl (SubM.nil) (SubL.cons (List.mem_of_getElem? (i := 3) rfl) (SubL.nil)) (Y.loadRow rfl (Lent.fact 0 rfl) rfl rfl hc31) HistOk.z ?_
                  refine JR.qt rfl (SubM.nil) (SubL.nil) (Y.move rfl) HistOk.z ?_
                  replace h := ck_some h; obtain ⟨hc32, h⟩ := h
                  refine JR.qt rfl (SubM.nil) (SubL.cons (List.mem_of_getElem? (i := 3) rfl) (SubL.nil)) (Y.indexS rfl rfl (Lent.el (Lent.fact 0 rfl) hc31.1 hc31.2) rfl rfl hc32) HistOk.z ?_
                  refine JR.qt rfl (SubM.nil) (SubL.cons (List.mem_of_getElem? (i := 3) rfl) (SubL.nil)) (Y.loadAggS (cs := [Value.int .i64 ((at' (at' p1.2 a13) a24).1), Value.int .i64 ((at' (at' p1.2 a13) a24).2)]) rfl (Lent.el (Lent.fact 0 rfl) hc31.1 hc31.2) FI64I64p rfl rfl rfl rfl hc32) HistOk.z ?_
                  refine JR.tailD 16 rfl rfl ?_
                  refine J.quiet (Y.eqAN rfl rfl (eq_T39N (((at' (at' p0.2 a13) a24).1), ((at' (at' p0.2 a13) a24).2)) (((at' (at' p1.2 a13) a24).1), ((at' (at' p1.2 a13) a24).2)) _ _)) rfl ?_
                  refine J.done ?_
                  refine J.thenN ?_
                  refine J.condD (by exact rfl) (fun hp33 => ?_) (fun hp33 => ?_)
                  · replace h := ifP hp33 h
                    refine J.seq ?_
                    refine J.region ?_
                    refine J.quiet (Y.assign rfl) rfl ?_
                    refine J.done ?_
                    refine J.thenN ?_
                    refine J.ret ?_
                    refine J.inR ?_
                    refine J.thenR ?_
                    refine J.thenR ?_
                    refine J.inR ?_
                    refine J.inR ?_
                    refine J.thenR ?_
                    refine J.thenR ?_
                    refine J.inR ?_
                    refine J.thenR ?_
                    obtain rfl := Option.some.inj h
                    exact J.retG1 (()) rfl rfl (RV.tmp rfl) (SubM.nil) LentAll.nil
                  · replace h := ifN hp33 h
                    refine J.skip ?_
                    refine J.inN ?_
                    refine J.thenN ?_
                    refine J.region ?_
                    refine J.quiet (Y.move rfl) rfl ?_
                    refine J.quiet (Y.addW rfl rfl) rfl ?_
                    refine J.quiet (Y.assign rfl) rfl ?_
                    refine J.done ?_
                    refine J.thenN ?_
                    exact J.againI (wI .i64 (a24 + (1 : Int))) (()) h (by repeat (first | exact SubF.nil | refine SubF.cons rfl ?_)) (SubM.refl _) (LentAll.refl _ _)
                · replace h := ifN hp28 h
                  refine J.exit ?_
                  refine J.thenX ?_
                  refine J.thenX ?_
                  refine J.inX ?_
                  refine J.inN ?_
                  refine J.thenN ?_
                  exact J.meetI (()) (()) h (by repeat (first | exact SubF.nil | refine SubF.cons rfl ?_)) (SubM.refl _) (LentAll.refl _ _)
            · clear h
              intro a17 b18 h
              unfold ref01_Same_k4 at h
              refine J.region ?_
              refine J.quiet (Y.move rfl) rfl ?_
              refine J.quiet (Y.addW rfl rfl) rfl ?_
              refine J.quiet (Y.assign rfl) rfl ?_
              refine J.done ?_
              refine J.thenN ?_
              exact J.againI (wI .i64 (a13 + (1 : Int))) (()) h (by repeat (first | exact SubF.nil | refine SubF.cons rfl ?_)) (SubM.refl _) (LentAll.refl _ _)
          · replace h := ifN hp16 h
            refine J.exit ?_
            refine J.thenX ?_
            refine J.thenX ?_
            refine J.inX ?_
            refine J.thenN ?_
            exact J.meetI (()) (()) h (by repeat (first | exact SubF.nil | refine SubF.cons rfl ?_)) (SubM.nil) (LentAll.refl _ _)
        · clear h
          intro a9 b10 h
          unfold ref01_Same_k3 at h
          refine J.seq ?_
          refine J.region ?_
          refine J.quiet (Y.assign rfl) rfl ?_
          refine J.done ?_
          refine J.thenN ?_
          refine J.ret ?_
          obtain rfl := Option.some.inj h
          exact J.retG1 (()) rfl rfl (RV.tmp rfl) (SubM.refl _) LentAll.nil

end Go.Proofs.Ytemhmmcakmidkaa
