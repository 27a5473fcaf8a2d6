/- The model of selfstabref01.Valid and the proof that the function meets it, by program (gen/xt.py). Conditions: none. -/
import Derived.Test.YtemhmmcakmidkaaX72
import Derived.Test.YtemhmmcakmidkaaX91
import Derived.Test.YtemhmmcakmidkaaX92
namespace Go.Proofs.Ytemhmmcakmidkaa
open Go.Sx
set_option linter.unusedVariables false
set_option linter.unusedSimpArgs false

def ref01_Valid_k3  (a8 : Unit) : Option (Bool) :=
  some (true)
def ref01_Valid_k4 (a12 : Int) (ag11 : (Int) → Option (Bool)) (a16 : Unit) : Option (Bool) :=
  ag11 (wI .i64 (a12 + (1 : Int)))
def ref01_Valid_k5 (a20 : Int) (ag19 : (Int) → Option (Bool)) (a32 : Bool) : Option (Bool) :=
  if a32 = true then (some (false)) else (ag19 (wI .i64 (a20 + (1 : Int))))
def ref01_Valid_s2 (fuel : Nat) (p0 : List (Int) × (List (List (Int × Int)))) (a12 : Int) (ag11 : (Int) → Option (Bool)) (a20 : Int) (ag19 : (Int) → Option (Bool)) : Option (Bool) :=
  ck (0 ≤ a12 ∧ a12 < (List.length p0.2 : Int)) (if a20 < (List.length (at' p0.2 a12) : Int) then (ck (0 ≤ a12 ∧ a12 < (List.length p0.2 : Int)) (ck (0 ≤ a20 ∧ a20 < (List.length (at' p0.2 a12) : Int)) (Option.bind (m_ref01_Port fuel ((p0.1, p0.2)) ((at' (at' p0.2 a12) a20).1) a12) fun r28 => (if r28 < (0 : Int) then (ref01_Valid_k5 a20 ag19 (true)) else (ck (0 ≤ ((at' (at' p0.2 a12) a20).1) ∧ ((at' (at' p0.2 a12) a20).1) < (List.length p0.2 : Int)) (ck (0 ≤ r28 ∧ r28 < (List.length (at' p0.2 ((at' (at' p0.2 a12) a20).1)) : Int)) (ref01_Valid_k5 a20 ag19 (decide (((at' (at' p0.2 ((at' (at' p0.2 a12) a20).1)) r28).2) ≠ ((at' (at' p0.2 a12) a20).2)))))))))) else (ref01_Valid_k4 a12 ag11 (())))
def ref01_Valid_s1 (fuel : Nat) (p0 : List (Int) × (List (List (Int × Int)))) (a12 : Int) (ag11 : (Int) → Option (Bool)) : Option (Bool) :=
  if a12 < (List.length p0.2 : Int) then (iter (ref01_Valid_s2 fuel p0 a12 ag11) fuel (0 : Int)) else (ref01_Valid_k3  (()))
def ref01_Valid_k2 (fuel : Nat) (p0 : List (Int) × (List (List (Int × Int)))) (a6 : Unit) : Option (Bool) :=
  iter (ref01_Valid_s1 fuel p0) fuel (0 : Int)
def ref01_Valid_k6 (a40 : Int) (ag39 : (Int) → Option (Bool)) (a44 : Unit) : Option (Bool) :=
  ag39 (wI .i64 (a40 + (1 : Int)))
def ref01_Valid_s4 (p0 : List (Int) × (List (List (Int × Int)))) (a40 : Int) (ag39 : (Int) → Option (Bool)) (a52 : Int) (ag51 : (Int) → Option (Bool)) : Option (Bool) :=
  if a52 < a40 then (ck (0 ≤ a52 ∧ a52 < (List.length p0.1 : Int)) (ck (0 ≤ a40 ∧ a40 < (List.length p0.1 : Int)) (if (at' p0.1 a52) = (at' p0.1 a40) then (some (false)) else (ag51 (wI .i64 (a52 + (1 : Int))))))) else (ref01_Valid_k6 a40 ag39 (()))
def ref01_Valid_k7 (fuel : Nat) (p0 : List (Int) × (List (List (Int × Int)))) (a40 : Int) (ag39 : (Int) → Option (Bool)) (a47 : Bool) : Option (Bool) :=
  if a47 = true then (some (false)) else (iter (ref01_Valid_s4 p0 a40 ag39) fuel (0 : Int))
def ref01_Valid_s3 (fuel : Nat) (p0 : List (Int) × (List (List (Int × Int)))) (a40 : Int) (ag39 : (Int) → Option (Bool)) : Option (Bool) :=
  if a40 < (List.length p0.2 : Int) then (ck (0 ≤ a40 ∧ a40 < (List.length p0.1 : Int)) (Option.bind (m_ref01_In fuel (at' p0.1 a40) (0 : Int) (255 : Int)) fun r60 => (if (!r60) = true then (ref01_Valid_k7 fuel p0 a40 ag39 (true)) else (ck (0 ≤ a40 ∧ a40 < (List.length p0.2 : Int)) (if (List.length p0.2 : Int) ≤ (List.length (at' p0.2 a40) : Int) then (ref01_Valid_k7 fuel p0 a40 ag39 (true)) else (ck (0 ≤ a40 ∧ a40 < (List.length p0.2 : Int)) (Option.bind (m_ref01_linksValid fuel (at' p0.2 a40) a40 (List.length p0.2 : Int)) fun r67 => (ref01_Valid_k7 fuel p0 a40 ag39 ((!r67)))))))))) else (ref01_Valid_k2 fuel p0 (()))
def ref01_Valid_k1 (fuel : Nat) (p0 : List (Int) × (List (List (Int × Int)))) (a3 : Bool) : Option (Bool) :=
  if a3 = true then (some (false)) else (iter (ref01_Valid_s3 fuel p0) fuel (0 : Int))
def m_ref01_Valid (fuel : Nat) (p0 : List (Int) × (List (List (Int × Int)))) : Option (Bool) :=
  Option.bind (m_ref01_In fuel (List.length p0.2 : Int) (1 : Int) (24 : Int)) fun r70 => (if (!r70) = true then (ref01_Valid_k1 fuel p0 (true)) else (ref01_Valid_k1 fuel p0 (decide ((List.length p0.1 : Int) ≠ (List.length p0.2 : Int)))))

theorem body51 : HasBody Try.prog 51 := Try.call51

set_option maxHeartbeats 4000000 in
set_option maxRecDepth 20000 in
theorem t_ref01_Valid (fuel : Nat) {p0 : List (Int) × (List (List (Int × Int)))} (v0 : Value)  (v1 : Value)  (z2 : List (Value × List (Int × Int))) (r : Bool) (h : m_ref01_Valid fuel p0 = some r) :
    Meets Try.prog 51 #[Value.agg #[v0, v1]] [Sl RI64 v0 p0.1, S2 RI64I64p v1 z2 p0.2] (fun x : Unit => Value.bool (r)) (fun x l => l) (fun _ l => l) := by
  refine Meets.of (vs := [Value.agg #[v0, v1]]) Try.func51 rfl Try.ntmps51 rfl fun c => ?_
  unfold m_ref01_Valid at h
  refine J.seq ?_
  refine J.region ?_
  refine J.loud (Loud.box (cs := [v0, v1]) rfl rfl) rfl fun b1 => ?_
  refine J.quiet (Y.assign rfl) rfl ?_
  refine J.done ?_
  refine J.thenN ?_
  refine J.seq ?_
  refine J.region ?_
  refine J.quiet (Y.fieldB rfl rfl rfl rfl rfl) rfl ?_
  refine J.quiet (Y.loadB 0 rfl rfl rfl rfl rfl) rfl ?_
  refine J.quiet (Y.lenN rfl (Lent.fact 1 rfl) rfl) rfl ?_
  refine J.quiet (Y.assign rfl) rfl ?_
  refine J.done ?_
  refine J.thenN ?_
  refine J.seq ?_
  refine J.seq ?_
  refine J.midI (A := Bool) (B := Unit) (fun a3 => ref01_Valid_k1 fuel p0 a3 = some r) (fun a3 b4 => [(1, Value.pointer (some ⟨b1, 0, none⟩)), (3, Value.int .i64 (List.length p0.2 : Int)), (22, Value.bool (a3))]) (fun a3 b4 => [Blk b1 [v0, v1] 26]) (fun a3 b4 => [Sl RI64 v0 p0.1, S2 RI64I64p v1 z2 p0.2]) ?_ ?_
  · refine J.region ?_
    refine J.quiet (Y.move rfl) rfl ?_
    replace h := bnd h; obtain ⟨r70, hr71, h⟩ := h
    refine J.loud (Loud.callL body72 (t_ref01_In fuel  r70 hr71) rfl (LentAll.nil) (fun _ _ => rfl)) rfl fun x72 => ?_
    refine J.quiet (Y.not rfl) rfl ?_
    refine J.quiet (Y.move rfl) rfl ?_
    refine J.guard (by exact rfl) (by exact rfl) (fun hp73 => ?_) (fun hp73 => ?_)
    · replace h := ifP hp73 h
      refine J.guardN rfl rfl rfl ?_
      refine J.guardN rfl rfl rfl ?_
      refine J.guardN rfl rfl rfl ?_
      refine J.guardN rfl rfl rfl ?_
      refine J.guardN rfl rfl rfl ?_
      refine J.quiet (Y.pickT rfl rfl) rfl ?_
      refine J.done ?_
      refine J.thenN ?_
      exact J.meetI (true) (()) h (by repeat (first | exact SubF.nil | refine SubF.cons rfl ?_)) (SubM.refl _) (LentAll.refl _ _)
    · replace h := ifBN hp73 h
      refine J.guardY rfl (Y.fieldB rfl rfl rfl rfl rfl) rfl ?_
      refine J.guardY rfl (Y.loadB 0 rfl rfl rfl rfl rfl) rfl ?_
      refine J.guardY rfl (Y.lenS rfl (Lent.fact 0 rfl) rfl) rfl ?_
      refine J.guardY rfl (Y.move rfl) rfl ?_
      refine J.guardY rfl (Y.neq rfl rfl) rfl ?_
      refine J.quiet (Y.pickF rfl rfl) rfl ?_
      refine J.done ?_
      refine J.thenN ?_
      exact J.meetI (decide ((List.length p0.1 : Int) ≠ (List.length p0.2 : Int))) (()) h (by repeat (first | exact SubF.nil | refine SubF.cons rfl ?_)) (SubM.refl _) (LentAll.refl _ _)
  · clear h
    intro a3 b4 h
    unfold ref01_Valid_k1 at h
    refine J.cond (by exact rfl) (fun hp5 => ?_) (fun hp5 => ?_)
    · replace h := ifP hp5 h
      refine J.seq ?_
      refine J.region ?_
      refine J.quiet (Y.assign rfl) rfl ?_
      refine J.done ?_
      refine J.thenN ?_
      refine J.ret ?_
      refine J.thenR ?_
      obtain rfl := Option.some.inj h
      exact J.retG1 (()) rfl rfl (RV.tmp rfl) (SubM.nil) LentAll.nil
    · replace h := ifBN hp5 h
      refine J.skip ?_
      refine J.thenN ?_
      refine J.seq ?_
      refine J.midI (A := Unit) (B := Unit) (fun a6 => ref01_Valid_k2 fuel p0 a6 = some r) (fun a6 b7 => [(1, Value.pointer (some ⟨b1, 0, none⟩)), (3, Value.int .i64 (List.length p0.2 : Int))]) (fun a6 b7 => [Blk b1 [v0, v1] 26]) (fun a6 b7 => [Sl RI64 v0 p0.1, S2 RI64I64p v1 z2 p0.2]) ?_ ?_
      · refine J.seq ?_
        refine J.region ?_
        refine J.quiet (Y.assign rfl) rfl ?_
        refine J.done ?_
        refine J.thenN ?_
        refine J.block ?_
        refine J.loopI (A := Int) (B := Unit) (ref01_Valid_s3 fuel p0) (fun a40 b41 => [(1, Value.pointer (some ⟨b1, 0, none⟩)), (3, Value.int .i64 (List.length p0.2 : Int)), (4, Value.int .i64 (a40))]) (fun a40 b41 => [Blk b1 [v0, v1] 26]) (fun a40 b41 => [Sl RI64 v0 p0.1, S2 RI64I64p v1 z2 p0.2]) (0 : Int) (()) h (by repeat (first | exact SubF.nil | refine SubF.cons rfl ?_)) (SubM.refl _) (LentAll.refl _ _) ?_
        clear h
        intro k42 a40 b41 h
        unfold ref01_Valid_s3 at h
        refine J.seq ?_
        refine J.seq ?_
        refine J.region ?_
        refine J.quiet (Y.move rfl) rfl ?_
        refine J.quiet (Y.move rfl) rfl ?_
        refine J.quiet (Y.lss rfl rfl) rfl ?_
        refine J.done ?_
        refine J.thenN ?_
        refine J.condD (by exact rfl) (fun hp43 => ?_) (fun hp43 => ?_)
        · replace h := ifP hp43 h
          refine J.skip ?_
          refine J.thenN ?_
          refine J.seq ?_
          refine J.midI (A := Unit) (B := Unit) (fun a44 => ref01_Valid_k6 a40 (iter (ref01_Valid_s3 fuel p0) k42) a44 = some r) (fun a44 b45 => [(1, Value.pointer (some ⟨b1, 0, none⟩)), (3, Value.int .i64 (List.length p0.2 : Int)), (4, Value.int .i64 (a40))]) (fun a44 b45 => [Blk b1 [v0, v1] 26]) (fun a44 b45 => [Sl RI64 v0 p0.1, S2 RI64I64p v1 z2 p0.2]) ?_ ?_
          · refine J.block ?_
            refine J.seq ?_
            refine J.seq ?_
            refine J.midI (A := Bool) (B := Unit) (fun a47 => ref01_Valid_k7 fuel p0 a40 (iter (ref01_Valid_s3 fuel p0) k42) a47 = some r) (fun a47 b48 => [(1, Value.pointer (some ⟨b1, 0, none⟩)), (3, Value.int .i64 (List.length p0.2 : Int)), (4, Value.int .i64 (a40)), (55, Value.bool (a47))]) (fun a47 b48 => [Blk b1 [v0, v1] 26]) (fun a47 b48 => [Sl RI64 v0 p0.1, S2 RI64I64p v1 z2 p0.2]) ?_ ?_
            · refine J.region ?_
              refine J.quiet (Y.fieldB rfl rfl rfl rfl rfl) rfl ?_
              refine J.quiet (Y.loadB 0 rfl rfl rfl rfl rfl) rfl ?_
              refine J.quiet (Y.move rfl) rfl ?_
              replace h := ck_some h; obtain ⟨hc59, h⟩ := h
              refine J.quiet (Y.indexS rfl rfl (Lent.fact 0 rfl) rfl rfl hc59) rfl ?_
              refine J.quiet (Y.loadS0 rfl (Lent.fact 0 rfl) rfl rfl rfl RI64c0 hc59) rfl ?_
              replace h := bnd h; obtain ⟨r60, hr61, h⟩ := h
              refine J.loud (Loud.callL body72 (t_ref01_In fuel  r60 hr61) rfl (LentAll.nil) (fun _ _ => rfl)) rfl fun x62 => ?_
              refine J.quiet (Y.not rfl) rfl ?_
              refine J.quiet (Y.move rfl) rfl ?_
              refine J.guard (by exact rfl) (by exact rfl) (fun hp63 => ?_) (fun hp63 => ?_)
              · replace h := ifP hp63 h
                refine J.guardN rfl rfl rfl ?_
                refine J.guardN rfl rfl rfl ?_
                refine J.guardN rfl rfl rfl ?_
                refine J.guardN rfl rfl rfl ?_
                refine J.guardN rfl rfl rfl ?_
                refine J.guardN rfl rfl rfl ?_
                refine J.guardN rfl rfl rfl ?_
                refine J.guardN rfl rfl rfl ?_
                refine J.quiet (Y.pickT rfl rfl) rfl ?_
                refine J.quiet (Y.move rfl) rfl ?_
                refine J.guardN rfl rfl rfl ?_
                refine J.guardN rfl rfl rfl ?_
                refine J.guardN rfl rfl rfl ?_
                refine J.guardN rfl rfl rfl ?_
                refine J.guardN rfl rfl rfl ?_
                refine J.guardN rfl rfl rfl ?_
                refine J.guardN rfl rfl rfl ?_
                refine J.guardN rfl rfl rfl ?_
                refine J.guardN rfl rfl rfl ?_
                refine J.quiet (Y.pickT rfl rfl) rfl ?_
                refine J.done ?_
                refine J.thenN ?_
                exact J.meetI (true) (()) h (by repeat (first | exact SubF.nil | refine SubF.cons rfl ?_)) (SubM.refl _) (LentAll.refl _ _)
              · replace h := ifBN hp63 h
                refine J.guardY rfl (Y.fieldB rfl rfl rfl rfl rfl) rfl ?_
                refine J.guardY rfl (Y.loadB 0 rfl rfl rfl rfl rfl) rfl ?_
                refine J.guardY rfl (Y.move rfl) rfl ?_
                replace h := ck_some h; obtain ⟨hc64, h⟩ := h
                refine J.guardY rfl (Y.indexN rfl rfl (Lent.fact 1 rfl) rfl rfl hc64) rfl ?_
                refine J.guardY rfl (Y.loadRow rfl (Lent.fact 1 rfl) rfl rfl hc64) rfl ?_
                refine J.guardY rfl (Y.lenS rfl (Lent.el (Lent.fact 1 rfl) hc64.1 hc64.2) rfl) rfl ?_
                refine J.guardY rfl (Y.move rfl) rfl ?_
                refine J.guardY rfl (Y.geq rfl rfl) rfl ?_
                refine J.quiet (Y.pickF rfl rfl) rfl ?_
                refine J.quiet (Y.move rfl) rfl ?_
                refine J.guardD (by exact rfl) (by exact rfl) (fun hp65 => ?_) (fun hp65 => ?_)
                · replace h := ifP hp65 h
                  refine J.guardN rfl rfl rfl ?_
                  refine J.guardN rfl rfl rfl ?_
                  refine J.guardN rfl rfl rfl ?_
                  refine J.guardN rfl rfl rfl ?_
                  refine J.guardN rfl rfl rfl ?_
                  refine J.guardN rfl rfl rfl ?_
                  refine J.guardN rfl rfl rfl ?_
                  refine J.guardN rfl rfl rfl ?_
                  refine J.guardN rfl rfl rfl ?_
                  refine J.quiet (Y.pickT rfl rfl) rfl ?_
                  refine J.done ?_
                  refine J.thenN ?_
                  exact J.meetI (true) (()) h (by repeat (first | exact SubF.nil | refine SubF.cons rfl ?_)) (SubM.refl _) (LentAll.refl _ _)
                · replace h := ifN hp65 h
                  refine J.guardY rfl (Y.fieldB rfl rfl rfl rfl rfl) rfl ?_
                  refine J.guardY rfl (Y.loadB 0 rfl rfl rfl rfl rfl) rfl ?_
                  refine J.guardY rfl (Y.move rfl) rfl ?_
                  replace h := ck_some h; obtain ⟨hc66, h⟩ := h
                  refine J.guardY rfl (Y.indexN rfl rfl (Lent.fact 1 rfl) rfl rfl hc66) rfl ?_
                  refine J.guardY rfl (Y.loadRow rfl (Lent.fact 1 rfl) rfl rfl hc66) rfl ?_
                  refine J.guardY rfl (Y.move rfl) rfl ?_
                  refine J.guardY rfl (Y.move rfl) rfl ?_
                  replace h := bnd h; obtain ⟨r67, hr68, h⟩ := h
                  refine J.loudG rfl (Loud.callL body91 (t_ref01_linksValid fuel ((at' z2 a40).1) r67 hr68) rfl (LentAll.cons (Lent.el (Lent.fact 1 rfl) hc66.1 hc66.2) (LentAll.nil)) (fun _ _ => rfl)) rfl fun x69 => ?_
                  refine J.guardY rfl (Y.not rfl) rfl ?_
                  refine J.quiet (Y.pickF rfl rfl) rfl ?_
                  refine J.done ?_
                  refine J.thenN ?_
                  exact J.meetI ((!r67)) (()) h (by repeat (first | exact SubF.nil | refine SubF.cons rfl ?_)) (SubM.refl _) (LentAll.refl _ _)
            · clear h
              intro a47 b48 h
              unfold ref01_Valid_k7 at h
              refine J.cond (by exact rfl) (fun hp49 => ?_) (fun hp49 => ?_)
              · replace h := ifP hp49 h
                refine J.seq ?_
                refine J.region ?_
                refine J.quiet (Y.assign rfl) rfl ?_
                refine J.done ?_
                refine J.thenN ?_
                refine J.ret ?_
                refine J.thenR ?_
                refine J.inR ?_
                refine J.thenR ?_
                refine J.thenR ?_
                refine J.inR ?_
                refine J.thenR ?_
                obtain rfl := Option.some.inj h
                exact J.retG1 (()) rfl rfl (RV.tmp rfl) (SubM.nil) LentAll.nil
              · replace h := ifBN hp49 h
                refine J.skip ?_
                refine J.thenN ?_
                refine J.seq ?_
                refine J.region ?_
                refine J.quiet (Y.assign rfl) rfl ?_
                refine J.done ?_
                refine J.thenN ?_
                refine J.block ?_
                refine J.loopI (A := Int) (B := Unit) (ref01_Valid_s4 p0 a40 (iter (ref01_Valid_s3 fuel p0) k42)) (fun a52 b53 => [(1, Value.pointer (some ⟨b1, 0, none⟩)), (3, Value.int .i64 (List.length p0.2 : Int)), (4, Value.int .i64 (a40)), (5, Value.int .i64 (a52))]) (fun a52 b53 => [Blk b1 [v0, v1] 26]) (fun a52 b53 => [Sl RI64 v0 p0.1, S2 RI64I64p v1 z2 p0.2]) (0 : Int) (()) h (by repeat (first | exact SubF.nil | refine SubF.cons rfl ?_)) (SubM.refl _) (LentAll.refl _ _) ?_
                clear h
                intro k54 a52 b53 h
                unfold ref01_Valid_s4 at h
                refine J.seq ?_
                refine J.seq ?_
                refine J.region ?_
                refine J.quiet (Y.move rfl) rfl ?_
                refine J.quiet (Y.move rfl) rfl ?_
                refine J.quiet (Y.lss rfl rfl) rfl ?_
                refine J.done ?_
                refine J.thenN ?_
                refine J.condD (by exact rfl) (fun hp55 => ?_) (fun hp55 => ?_)
                · replace h := ifP hp55 h
                  refine J.skip ?_
                  refine J.thenN ?_
                  refine J.seq ?_
                  refine J.block ?_
                  refine J.seq ?_
                  refine JR.start [0, 1, 0, 7, 15, 0, 32, 0, 224, 480, 1023] 10 mixedOrders (by decide +kernel) ?_
                  refine JR.open (by exact rfl) ?_
                  refine JR.qt rfl (SubM.nil) (SubL.nil) (Y.fieldB rfl rfl rfl rfl rfl) HistOk.z ?_
                  refine JR.qt rfl (SubM.refl _) (SubL.nil) (Y.loadB 0 rfl rfl rfl rfl rfl) HistOk.z ?_
                  refine JR.qt rfl (SubM.nil) (SubL.nil) (Y.move rfl) HistOk.z ?_
                  replace h := ck_some h; obtain ⟨hc56, h⟩ := h
                  refine JR.qt rfl (SubM.nil) (SubL.cons (List.mem_of_getElem? (i := 0) rfl) (SubL.nil)) (Y.indexS rfl rfl (Lent.fact 0 rfl) rfl rfl hc56) HistOk.z ?_
                  refine JR.qt rfl (SubM.nil) (SubL.cons (List.mem_of_getElem? (i := 0) rfl) (SubL.nil)) (Y.loadS0 rfl (Lent.fact 0 rfl) rfl rfl rfl RI64c0 hc56) HistOk.z ?_
                  refine JR.qt rfl (SubM.nil) (SubL.nil) (Y.fieldB rfl rfl rfl rfl rfl) HistOk.z ?_
                  refine JR.qt rfl (SubM.refl _) (SubL.nil) (Y.loadB 0 rfl rfl rfl rfl rfl) HistOk.z ?_
                  refine JR.qt rfl (SubM.nil) (SubL.nil) (Y.move rfl) HistOk.z ?_
                  replace h := ck_some h; obtain ⟨hc57, h⟩ := h
                  refine JR.qt rfl (SubM.nil) (SubL.cons (List.mem_of_getElem? (i := 0) rfl) (SubL.nil)) (Y.indexS rfl rfl (Lent.fact 0 rfl) rfl rfl hc57) HistOk.z ?_
                  refine JR.qt rfl (SubM.nil) (SubL.cons (List.mem_of_getElem? (i := 0) rfl) (SubL.nil)) (Y.loadS0 rfl (Lent.fact 0 rfl) rfl rfl rfl RI64c0 hc57) HistOk.z ?_
                  refine JR.tailD 10 rfl rfl ?_
                  refine J.quiet (Y.eql rfl rfl) rfl ?_
                  refine J.done ?_
                  refine J.thenN ?_
                  refine J.condD (by exact rfl) (fun hp58 => ?_) (fun hp58 => ?_)
                  · replace h := ifP hp58 h
                    refine J.seq ?_
                    refine J.region ?_
                    refine J.quiet (Y.assign rfl) rfl ?_
                    refine J.done ?_
                    refine J.thenN ?_
                    refine J.ret ?_
                    refine J.inR ?_
                    refine J.thenR ?_
                    refine J.thenR ?_
                    refine J.inR ?_
                    refine J.inR ?_
                    refine J.thenR ?_
                    refine J.thenR ?_
                    refine J.inR ?_
                    refine J.thenR ?_
                    obtain rfl := Option.some.inj h
                    exact J.retG1 (()) rfl rfl (RV.tmp rfl) (SubM.nil) LentAll.nil
                  · replace h := ifN hp58 h
                    refine J.skip ?_
                    refine J.inN ?_
                    refine J.thenN ?_
                    refine J.region ?_
                    refine J.quiet (Y.move rfl) rfl ?_
                    refine J.quiet (Y.addW rfl rfl) rfl ?_
                    refine J.quiet (Y.assign rfl) rfl ?_
                    refine J.done ?_
                    refine J.thenN ?_
                    exact J.againI (wI .i64 (a52 + (1 : Int))) (()) h (by repeat (first | exact SubF.nil | refine SubF.cons rfl ?_)) (SubM.refl _) (LentAll.refl _ _)
                · replace h := ifN hp55 h
                  refine J.exit ?_
                  refine J.thenX ?_
                  refine J.thenX ?_
                  refine J.inX ?_
                  refine J.inN ?_
                  refine J.thenN ?_
                  exact J.meetI (()) (()) h (by repeat (first | exact SubF.nil | refine SubF.cons rfl ?_)) (SubM.refl _) (LentAll.refl _ _)
          · clear h
            intro a44 b45 h
            unfold ref01_Valid_k6 at h
            refine J.region ?_
            refine J.quiet (Y.move rfl) rfl ?_
            refine J.quiet (Y.addW rfl rfl) rfl ?_
            refine J.quiet (Y.assign rfl) rfl ?_
            refine J.done ?_
            refine J.thenN ?_
            exact J.againI (wI .i64 (a40 + (1 : Int))) (()) h (by repeat (first | exact SubF.nil | refine SubF.cons rfl ?_)) (SubM.refl _) (LentAll.refl _ _)
        · replace h := ifN hp43 h
          refine J.exit ?_
          refine J.thenX ?_
          refine J.thenX ?_
          refine J.inX ?_
          refine J.thenN ?_
          exact J.meetI (()) (()) h (by repeat (first | exact SubF.nil | refine SubF.cons rfl ?_)) (SubM.refl _) (LentAll.refl _ _)
      · clear h
        intro a6 b7 h
        unfold ref01_Valid_k2 at h
        refine J.seq ?_
        refine J.midI (A := Unit) (B := Unit) (fun a8 => ref01_Valid_k3  a8 = some r) (fun a8 b9 => []) (fun a8 b9 => []) (fun a8 b9 => [Sl RI64 v0 p0.1, S2 RI64I64p v1 z2 p0.2]) ?_ ?_
        · refine J.seq ?_
          refine J.region ?_
          refine J.quiet (Y.assign rfl) rfl ?_
          refine J.done ?_
          refine J.thenN ?_
          refine J.block ?_
          refine J.loopI (A := Int) (B := Unit) (ref01_Valid_s1 fuel p0) (fun a12 b13 => [(1, Value.pointer (some ⟨b1, 0, none⟩)), (3, Value.int .i64 (List.length p0.2 : Int)), (6, Value.int .i64 (a12))]) (fun a12 b13 => [Blk b1 [v0, v1] 26]) (fun a12 b13 => [Sl RI64 v0 p0.1, S2 RI64I64p v1 z2 p0.2]) (0 : Int) (()) h (by repeat (first | exact SubF.nil | refine SubF.cons rfl ?_)) (SubM.refl _) (LentAll.refl _ _) ?_
          clear h
          intro k14 a12 b13 h
          unfold ref01_Valid_s1 at h
          refine J.seq ?_
          refine J.seq ?_
          refine J.region ?_
          refine J.quiet (Y.move rfl) rfl ?_
          refine J.quiet (Y.move rfl) rfl ?_
          refine J.quiet (Y.lss rfl rfl) rfl ?_
          refine J.done ?_
          refine J.thenN ?_
          refine J.condD (by exact rfl) (fun hp15 => ?_) (fun hp15 => ?_)
          · replace h := ifP hp15 h
            refine J.skip ?_
            refine J.thenN ?_
            refine J.seq ?_
            refine J.midI (A := Unit) (B := Unit) (fun a16 => ref01_Valid_k4 a12 (iter (ref01_Valid_s1 fuel p0) k14) a16 = some r) (fun a16 b17 => [(1, Value.pointer (some ⟨b1, 0, none⟩)), (3, Value.int .i64 (List.length p0.2 : Int)), (6, Value.int .i64 (a12))]) (fun a16 b17 => [Blk b1 [v0, v1] 26]) (fun a16 b17 => [Sl RI64 v0 p0.1, S2 RI64I64p v1 z2 p0.2]) ?_ ?_
            · refine J.block ?_
              refine J.seq ?_
              refine J.region ?_
              refine J.quiet (Y.assign rfl) rfl ?_
              refine J.done ?_
              refine J.thenN ?_
              refine J.block ?_
              refine J.loopI (A := Int) (B := Unit) (ref01_Valid_s2 fuel p0 a12 (iter (ref01_Valid_s1 fuel p0) k14)) (fun a20 b21 => [(1, Value.pointer (some ⟨b1, 0, none⟩)), (3, Value.int .i64 (List.length p0.2 : Int)), (6, Value.int .i64 (a12)), (7, Value.int .i64 (a20))]) (fun a20 b21 => [Blk b1 [v0, v1] 26]) (fun a20 b21 => [Sl RI64 v0 p0.1, S2 RI64I64p v1 z2 p0.2]) (0 : Int) (()) h (by repeat (first | exact SubF.nil | refine SubF.cons rfl ?_)) (SubM.refl _) (LentAll.refl _ _) ?_
              clear h
              intro k22 a20 b21 h
              unfold ref01_Valid_s2 at h
              refine J.seq ?_
              refine J.seq ?_
              refine J.region ?_
              refine J.quiet (Y.move rfl) rfl ?_
              refine J.quiet (Y.fieldB rfl rfl rfl rfl rfl) rfl ?_
              refine J.quiet (Y.loadB 0 rfl rfl rfl rfl rfl) rfl ?_
              refine J.quiet (Y.move rfl) rfl ?_
              replace h := ck_some h; obtain ⟨hc23, h⟩ := h
              refine J.quiet (Y.indexN rfl rfl (Lent.fact 1 rfl) rfl rfl hc23) rfl ?_
              refine J.quiet (Y.loadRow rfl (Lent.fact 1 rfl) rfl rfl hc23) rfl ?_
              refine J.quiet (Y.lenS rfl (Lent.el (Lent.fact 1 rfl) hc23.1 hc23.2) rfl) rfl ?_
              refine J.quiet (Y.lss rfl rfl) rfl ?_
              refine J.done ?_
              refine J.thenN ?_
              refine J.condD (by exact rfl) (fun hp24 => ?_) (fun hp24 => ?_)
              · replace h := ifP hp24 h
                refine J.skip ?_
                refine J.thenN ?_
                refine J.seq ?_
                refine J.block ?_
                refine J.seq ?_
                refine J.region ?_
                refine J.quiet (Y.fieldB rfl rfl rfl rfl rfl) rfl ?_
                refine J.quiet (Y.loadB 0 rfl rfl rfl rfl rfl) rfl ?_
                refine J.quiet (Y.move rfl) rfl ?_
                replace h := ck_some h; obtain ⟨hc25, h⟩ := h
                refine J.quiet (Y.indexN rfl rfl (Lent.fact 1 rfl) rfl rfl hc25) rfl ?_
                refine J.quiet (Y.loadRow rfl (Lent.fact 1 rfl) rfl rfl hc25) rfl ?_
                refine J.quiet (Y.move rfl) rfl ?_
                replace h := ck_some h; obtain ⟨hc26, h⟩ := h
                refine J.quiet (Y.indexS rfl rfl (Lent.el (Lent.fact 1 rfl) hc25.1 hc25.2) rfl rfl hc26) rfl ?_
                refine J.quiet (Y.loadAggS (cs := [Value.int .i64 ((at' (at' p0.2 a12) a20).1), Value.int .i64 ((at' (at' p0.2 a12) a20).2)]) rfl (Lent.el (Lent.fact 1 rfl) hc25.1 hc25.2) FI64I64p rfl rfl rfl rfl hc26) rfl ?_
                refine J.loud (Loud.alloc (cs := [Value.int .i64 (0 : Int), Value.int .i64 (0 : Int)]) rfl rfl) rfl fun b27 => ?_
                refine J.storeAll 0 (vs := [Value.int .i64 ((at' (at' p0.2 a12) a20).1), Value.int .i64 ((at' (at' p0.2 a12) a20).2)]) rfl rfl rfl rfl rfl rfl ?_
                refine J.done ?_
                refine J.thenN ?_
                refine J.seq ?_
                refine J.region ?_
                refine J.quiet (Y.loadBAll 1 rfl rfl rfl rfl) rfl ?_
                refine J.quiet (Y.fieldB rfl rfl rfl rfl rfl) rfl ?_
                refine J.quiet (Y.loadB 0 rfl rfl rfl rfl rfl) rfl ?_
                refine J.quiet (Y.move rfl) rfl ?_
                replace h := bnd h; obtain ⟨r28, hr29, h⟩ := h
                refine J.loud (Loud.callL body92 (t_ref01_Port fuel v0 v1 z2 r28 hr29) rfl (LentAll.cons (Lent.fact 0 rfl) (LentAll.cons (Lent.fact 1 rfl) (LentAll.nil))) (fun _ _ => rfl)) rfl fun x30 => ?_
                refine J.quiet (Y.assign rfl) rfl ?_
                refine J.done ?_
                refine J.thenN ?_
                refine J.seq ?_
                refine J.midI (A := Bool) (B := Unit) (fun a32 => ref01_Valid_k5 a20 (iter (ref01_Valid_s2 fuel p0 a12 (iter (ref01_Valid_s1 fuel p0) k14)) k22) a32 = some r) (fun a32 b33 => [(1, Value.pointer (some ⟨b1, 0, none⟩)), (3, Value.int .i64 (List.length p0.2 : Int)), (6, Value.int .i64 (a12)), (7, Value.int .i64 (a20)), (116, Value.bool (a32))]) (fun a32 b33 => [Blk b1 [v0, v1] 26]) (fun a32 b33 => [Sl RI64 v0 p0.1, S2 RI64I64p v1 z2 p0.2]) ?_ ?_
                · refine JR.start [0, 1, 3, 7, 15, 7, 39, 127, 255, 7, 1023, 2047, 4095, 7, 8199, 32767, 65535] 15 mixedOrders (by decide +kernel) ?_
                  refine JR.open (by exact rfl) ?_
                  refine JR.qt rfl (SubM.nil) (SubL.nil) (Y.move rfl) HistOk.z ?_
                  refine JR.qt rfl (SubM.nil) (SubL.nil) (Y.lss rfl rfl) HistOk.z ?_
                  refine JR.qt rfl (SubM.nil) (SubL.nil) (Y.move rfl) HistOk.z ?_
                  refine JR.guardD (by exact rfl) (by exact rfl) (by exact rfl) (fun hp35 => ?_) (fun hp35 => ?_)
                  · replace h := ifP hp35 h
                    refine JR.guardN rfl rfl rfl rfl ?_
                    refine JR.guardN rfl rfl rfl rfl ?_
                    refine JR.guardN rfl rfl rfl rfl ?_
                    refine JR.guardN rfl rfl rfl rfl ?_
                    refine JR.guardN rfl rfl rfl rfl ?_
                    refine JR.guardN rfl rfl rfl rfl ?_
                    refine JR.guardN rfl rfl rfl rfl ?_
                    refine JR.guardN rfl rfl rfl rfl ?_
                    refine JR.guardN rfl rfl rfl rfl ?_
                    refine JR.guardN rfl rfl rfl rfl ?_
                    refine JR.guardN rfl rfl rfl rfl ?_
                    refine JR.guardN rfl rfl rfl rfl ?_
                    refine JR.tailD 15 rfl rfl ?_
                    refine J.guardN rfl rfl rfl ?_
                    refine J.quiet (Y.pickT rfl rfl) rfl ?_
                    refine J.done ?_
                    refine J.thenN ?_
                    exact J.meetI (true) (()) h (by repeat (first | exact SubF.nil | refine SubF.cons rfl ?_)) (SubM.cons 1 rfl (SubM.nil)) (LentAll.refl _ _)
                  · replace h := ifN hp35 h
                    refine JR.qtG rfl (SubM.nil) (SubL.nil) (Y.fieldB rfl rfl rfl rfl rfl) HistOk.z ?_
                    refine JR.qtG rfl (SubM.cons 1 rfl (SubM.nil)) (SubL.nil) (Y.loadB 0 rfl rfl rfl rfl rfl) HistOk.z ?_
                    refine JR.qtG rfl (SubM.nil) (SubL.nil) (Y.fieldB rfl rfl rfl rfl rfl) HistOk.z ?_
                    refine JR.qtG rfl (SubM.cons 0 rfl (SubM.nil)) (SubL.nil) (Y.loadB 0 rfl rfl rfl rfl rfl) HistOk.z ?_
                    replace h := ck_some h; obtain ⟨hc36, h⟩ := h
                    refine JR.qtG rfl (SubM.nil) (SubL.cons (List.mem_of_getElem? (i := 1) rfl) (SubL.nil)) (Y.indexN rfl rfl (Lent.fact 0 rfl) rfl rfl hc36) HistOk.z ?_
                    refine JR.qtG rfl (SubM.nil) (SubL.cons (List.mem_of_getElem? (i := 1) rfl) (SubL.nil)) (Y.loadRow rfl (Lent.fact 0 rfl) rfl rfl hc36) HistOk.z ?_
                    refine JR.qtG rfl (SubM.nil) (SubL.nil) (Y.move rfl) HistOk.z ?_
                    replace h := ck_some h; obtain ⟨hc37, h⟩ := h
                    refine JR.qtG rfl (SubM.nil) (SubL.cons (List.mem_of_getElem? (i := 1) rfl) (SubL.nil)) (Y.indexS rfl rfl (Lent.el (Lent.fact 0 rfl) hc36.1 hc36.2) rfl rfl hc37) HistOk.z ?_
                    refine JR.qtG rfl (SubM.nil) (SubL.nil) (Y.fieldEl rfl rfl rfl rfl rfl) HistOk.z ?_
                    refine JR.qtG rfl (SubM.nil) (SubL.cons (List.mem_of_getElem? (i := 1) rfl) (SubL.nil)) (Y.loadS rfl (Lent.el (Lent.fact 0 rfl) hc36.1 hc36.2) rfl rfl rfl RI64I64pc1 hc37) HistOk.z ?_
                    refine JR.qtG rfl (SubM.nil) (SubL.nil) (Y.fieldB rfl rfl rfl rfl rfl) HistOk.z ?_
                    refine JR.qtG rfl (SubM.cons 0 rfl (SubM.nil)) (SubL.nil) (Y.loadB 0 rfl rfl rfl rfl rfl) HistOk.z ?_
                    refine JR.tailD 15 rfl rfl ?_
                    refine J.guardY rfl (Y.neq rfl rfl) rfl ?_
                    refine J.quiet (Y.pickF rfl rfl) rfl ?_
                    refine J.done ?_
                    refine J.thenN ?_
                    exact J.meetI (decide (((at' (at' p0.2 ((at' (at' p0.2 a12) a20).1)) r28).2) ≠ ((at' (at' p0.2 a12) a20).2))) (()) h (by repeat (first | exact SubF.nil | refine SubF.cons rfl ?_)) (SubM.cons 1 rfl (SubM.nil)) (LentAll.refl _ _)
                · clear h
                  intro a32 b33 h
                  unfold ref01_Valid_k5 at h
                  refine J.cond (by exact rfl) (fun hp34 => ?_) (fun hp34 => ?_)
                  · replace h := ifP hp34 h
                    refine J.seq ?_
                    refine J.region ?_
                    refine J.quiet (Y.assign rfl) rfl ?_
                    refine J.done ?_
                    refine J.thenN ?_
                    refine J.ret ?_
                    refine J.inR ?_
                    refine J.thenR ?_
                    refine J.thenR ?_
                    refine J.inR ?_
                    refine J.inR ?_
                    refine J.thenR ?_
                    refine J.thenR ?_
                    refine J.inR ?_
                    refine J.thenR ?_
                    obtain rfl := Option.some.inj h
                    exact J.retG1 (()) rfl rfl (RV.tmp rfl) (SubM.nil) LentAll.nil
                  · replace h := ifBN hp34 h
                    refine J.skip ?_
                    refine J.inN ?_
                    refine J.thenN ?_
                    refine J.region ?_
                    refine J.quiet (Y.move rfl) rfl ?_
                    refine J.quiet (Y.addW rfl rfl) rfl ?_
                    refine J.quiet (Y.assign rfl) rfl ?_
                    refine J.done ?_
                    refine J.thenN ?_
                    exact J.againI (wI .i64 (a20 + (1 : Int))) (()) h (by repeat (first | exact SubF.nil | refine SubF.cons rfl ?_)) (SubM.refl _) (LentAll.refl _ _)
              · replace h := ifN hp24 h
                refine J.exit ?_
                refine J.thenX ?_
                refine J.thenX ?_
                refine J.inX ?_
                refine J.inN ?_
                refine J.thenN ?_
                exact J.meetI (()) (()) h (by repeat (first | exact SubF.nil | refine SubF.cons rfl ?_)) (SubM.refl _) (LentAll.refl _ _)
            · clear h
              intro a16 b17 h
              unfold ref01_Valid_k4 at h
              refine J.region ?_
              refine J.quiet (Y.move rfl) rfl ?_
              refine J.quiet (Y.addW rfl rfl) rfl ?_
              refine J.quiet (Y.assign rfl) rfl ?_
              refine J.done ?_
              refine J.thenN ?_
              exact J.againI (wI .i64 (a12 + (1 : Int))) (()) h (by repeat (first | exact SubF.nil | refine SubF.cons rfl ?_)) (SubM.refl _) (LentAll.refl _ _)
          · replace h := ifN hp15 h
            refine J.exit ?_
            refine J.thenX ?_
            refine J.thenX ?_
            refine J.inX ?_
            refine J.thenN ?_
            exact J.meetI (()) (()) h (by repeat (first | exact SubF.nil | refine SubF.cons rfl ?_)) (SubM.nil) (LentAll.refl _ _)
        · clear h
          intro a8 b9 h
          unfold ref01_Valid_k3 at h
          refine J.seq ?_
          refine J.region ?_
          refine J.quiet (Y.assign rfl) rfl ?_
          refine J.done ?_
          refine J.thenN ?_
          refine J.ret ?_
          obtain rfl := Option.some.inj h
          exact J.retG1 (()) rfl rfl (RV.tmp rfl) (SubM.refl _) LentAll.nil

end Go.Proofs.Ytemhmmcakmidkaa
