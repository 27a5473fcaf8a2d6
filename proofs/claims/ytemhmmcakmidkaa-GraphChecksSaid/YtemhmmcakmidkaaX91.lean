/- The model of selfstabref01.linksValid and the proof that the function meets it, by program (gen/xt.py). Conditions: none. -/
import Derived.Test.YtemhmmcakmidkaaX72
namespace Go.Proofs.Ytemhmmcakmidkaa
open Go.Sx
set_option linter.unusedVariables false
set_option linter.unusedSimpArgs false

def ref01_linksValid_k1  (a1 : Unit) : Option (Bool) :=
  some (true)
def ref01_linksValid_k2 (a5 : Int) (ag4 : (Int) → Option (Bool)) (a9 : Unit) : Option (Bool) :=
  ag4 (wI .i64 (a5 + (1 : Int)))
def ref01_linksValid_s2 (p0 : List (Int × Int)) (a5 : Int) (ag4 : (Int) → Option (Bool)) (a17 : Int) (ag16 : (Int) → Option (Bool)) : Option (Bool) :=
  if a17 < a5 then (ck (0 ≤ a17 ∧ a17 < (List.length p0 : Int)) (ck (0 ≤ a5 ∧ a5 < (List.length p0 : Int)) (if ((at' p0 a17).1) = ((at' p0 a5).1) then (some (false)) else (ag16 (wI .i64 (a17 + (1 : Int))))))) else (ref01_linksValid_k2 a5 ag4 (()))
def ref01_linksValid_k3 (fuel : Nat) (p0 : List (Int × Int)) (a5 : Int) (ag4 : (Int) → Option (Bool)) (a12 : Bool) : Option (Bool) :=
  if a12 = true then (some (false)) else (iter (ref01_linksValid_s2 p0 a5 ag4) fuel (0 : Int))
def ref01_linksValid_s1 (fuel : Nat) (p0 : List (Int × Int)) (p1 : Int) (p2 : Int) (a5 : Int) (ag4 : (Int) → Option (Bool)) : Option (Bool) :=
  if a5 < (List.length p0 : Int) then (ck (0 ≤ a5 ∧ a5 < (List.length p0 : Int)) (Option.bind (m_ref01_In fuel ((at' p0 a5).1) (0 : Int) (wI .i64 (p2 - (1 : Int)))) fun r25 => (if (!r25) = true then (ref01_linksValid_k3 fuel p0 a5 ag4 (true)) else (ck (0 ≤ a5 ∧ a5 < (List.length p0 : Int)) (if ((at' p0 a5).1) = p1 then (ref01_linksValid_k3 fuel p0 a5 ag4 (true)) else (ck (0 ≤ a5 ∧ a5 < (List.length p0 : Int)) (Option.bind (m_ref01_In fuel ((at' p0 a5).2) (1 : Int) (15 : Int)) fun r32 => (ref01_linksValid_k3 fuel p0 a5 ag4 ((!r32)))))))))) else (ref01_linksValid_k1  (()))
def m_ref01_linksValid (fuel : Nat) (p0 : List (Int × Int)) (p1 : Int) (p2 : Int) : Option (Bool) :=
  iter (ref01_linksValid_s1 fuel p0 p1 p2) fuel (0 : Int)

theorem body91 : HasBody Try.prog 91 := Try.call91

set_option maxHeartbeats 4000000 in
set_option maxRecDepth 20000 in
theorem t_ref01_linksValid (fuel : Nat) {p0 : List (Int × Int)} {p1 : Int} {p2 : Int} (v0 : Value) (r : Bool) (h : m_ref01_linksValid fuel p0 p1 p2 = some r) :
    Meets Try.prog 91 #[v0, Value.int .i64 (p1), Value.int .i64 (p2)] [Sl RI64I64p v0 p0] (fun x : Unit => Value.bool (r)) (fun x l => l) (fun _ l => l) := by
  refine Meets.of (vs := [v0, Value.int .i64 (p1), Value.int .i64 (p2)]) Try.func91 rfl Try.ntmps91 rfl fun c => ?_
  unfold m_ref01_linksValid at h
  refine J.seq ?_
  refine J.region ?_
  refine J.quiet (Y.assign rfl) rfl ?_
  refine J.done ?_
  refine J.thenN ?_
  refine J.seq ?_
  refine J.midI (A := Unit) (B := Unit) (fun a1 => ref01_linksValid_k1  a1 = some r) (fun a1 b2 => []) (fun a1 b2 => []) (fun a1 b2 => [Sl RI64I64p v0 p0]) ?_ ?_
  · refine J.seq ?_
    refine J.region ?_
    refine J.quiet (Y.assign rfl) rfl ?_
    refine J.done ?_
    refine J.thenN ?_
    refine J.block ?_
    refine J.loopI (A := Int) (B := Unit) (ref01_linksValid_s1 fuel p0 p1 p2) (fun a5 b6 => [(0, v0), (1, Value.int .i64 (p1)), (2, Value.int .i64 (p2)), (7, Value.int .i64 (a5))]) (fun a5 b6 => []) (fun a5 b6 => [Sl RI64I64p v0 p0]) (0 : Int) (()) h (by repeat (first | exact SubF.nil | refine SubF.cons rfl ?_)) (SubM.refl _) (LentAll.refl _ _) ?_
    clear h
    intro k7 a5 b6 h
    unfold ref01_linksValid_s1 at h
    refine J.seq ?_
    refine J.seq ?_
    refine J.region ?_
    refine J.quiet (Y.move rfl) rfl ?_
    refine J.quiet (Y.move rfl) rfl ?_
    refine J.quiet (Y.lenS rfl (Lent.fact 0 rfl) rfl) rfl ?_
    refine J.quiet (Y.lss rfl rfl) rfl ?_
    refine J.done ?_
    refine J.thenN ?_
    refine J.condD (by exact rfl) (fun hp8 => ?_) (fun hp8 => ?_)
    · replace h := ifP hp8 h
      refine J.skip ?_
      refine J.thenN ?_
      refine J.seq ?_
      refine J.midI (A := Unit) (B := Unit) (fun a9 => ref01_linksValid_k2 a5 (iter (ref01_linksValid_s1 fuel p0 p1 p2) k7) a9 = some r) (fun a9 b10 => [(0, v0), (1, Value.int .i64 (p1)), (2, Value.int .i64 (p2)), (7, Value.int .i64 (a5))]) (fun a9 b10 => []) (fun a9 b10 => [Sl RI64I64p v0 p0]) ?_ ?_
      · refine J.block ?_
        refine J.seq ?_
        refine J.seq ?_
        refine J.midI (A := Bool) (B := Unit) (fun a12 => ref01_linksValid_k3 fuel p0 a5 (iter (ref01_linksValid_s1 fuel p0 p1 p2) k7) a12 = some r) (fun a12 b13 => [(0, v0), (1, Value.int .i64 (p1)), (2, Value.int .i64 (p2)), (7, Value.int .i64 (a5)), (41, Value.bool (a12))]) (fun a12 b13 => []) (fun a12 b13 => [Sl RI64I64p v0 p0]) ?_ ?_
        · refine J.region ?_
          refine J.quiet (Y.move rfl) rfl ?_
          refine J.quiet (Y.move rfl) rfl ?_
          replace h := ck_some h; obtain ⟨hc24, h⟩ := h
          refine J.quiet (Y.indexS rfl rfl (Lent.fact 0 rfl) rfl rfl hc24) rfl ?_
          refine J.quiet (Y.fieldEl rfl rfl rfl rfl rfl) rfl ?_
          refine J.quiet (Y.loadS rfl (Lent.fact 0 rfl) rfl rfl rfl RI64I64pc0 hc24) rfl ?_
          refine J.quiet (Y.move rfl) rfl ?_
          refine J.quiet (Y.subW rfl rfl) rfl ?_
          replace h := bnd h; obtain ⟨r25, hr26, h⟩ := h
          refine J.loud (Loud.callL body72 (t_ref01_In fuel  r25 hr26) rfl (LentAll.nil) (fun _ _ => rfl)) rfl fun x27 => ?_
          refine J.quiet (Y.not rfl) rfl ?_
          refine J.quiet (Y.move rfl) rfl ?_
          refine J.guard (by exact rfl) (by exact rfl) (fun hp28 => ?_) (fun hp28 => ?_)
          · replace h := ifP hp28 h
            refine J.guardN rfl rfl rfl ?_
            refine J.guardN rfl rfl rfl ?_
            refine J.guardN rfl rfl rfl ?_
            refine J.guardN rfl rfl rfl ?_
            refine J.guardN rfl rfl rfl ?_
            refine J.guardN rfl rfl rfl ?_
            refine J.guardN rfl rfl rfl ?_
            refine J.quiet (Y.pickT rfl rfl) rfl ?_
            refine J.quiet (Y.move rfl) rfl ?_
            refine J.guardN rfl rfl rfl ?_
            refine J.guardN rfl rfl rfl ?_
            refine J.guardN rfl rfl rfl ?_
            refine J.guardN rfl rfl rfl ?_
            refine J.guardN rfl rfl rfl ?_
            refine J.guardN rfl rfl rfl ?_
            refine J.guardN rfl rfl rfl ?_
            refine J.quiet (Y.pickT rfl rfl) rfl ?_
            refine J.done ?_
            refine J.thenN ?_
            exact J.meetI (true) (()) h (by repeat (first | exact SubF.nil | refine SubF.cons rfl ?_)) (SubM.refl _) (LentAll.refl _ _)
          · replace h := ifBN hp28 h
            refine J.guardY rfl (Y.move rfl) rfl ?_
            refine J.guardY rfl (Y.move rfl) rfl ?_
            replace h := ck_some h; obtain ⟨hc29, h⟩ := h
            refine J.guardY rfl (Y.indexS rfl rfl (Lent.fact 0 rfl) rfl rfl hc29) rfl ?_
            refine J.guardY rfl (Y.fieldEl rfl rfl rfl rfl rfl) rfl ?_
            refine J.guardY rfl (Y.loadS rfl (Lent.fact 0 rfl) rfl rfl rfl RI64I64pc0 hc29) rfl ?_
            refine J.guardY rfl (Y.move rfl) rfl ?_
            refine J.guardY rfl (Y.eql rfl rfl) rfl ?_
            refine J.quiet (Y.pickF rfl rfl) rfl ?_
            refine J.quiet (Y.move rfl) rfl ?_
            refine J.guardD (by exact rfl) (by exact rfl) (fun hp30 => ?_) (fun hp30 => ?_)
            · replace h := ifP hp30 h
              refine J.guardN rfl rfl rfl ?_
              refine J.guardN rfl rfl rfl ?_
              refine J.guardN rfl rfl rfl ?_
              refine J.guardN rfl rfl rfl ?_
              refine J.guardN rfl rfl rfl ?_
              refine J.guardN rfl rfl rfl ?_
              refine J.guardN rfl rfl rfl ?_
              refine J.quiet (Y.pickT rfl rfl) rfl ?_
              refine J.done ?_
              refine J.thenN ?_
              exact J.meetI (true) (()) h (by repeat (first | exact SubF.nil | refine SubF.cons rfl ?_)) (SubM.refl _) (LentAll.refl _ _)
            · replace h := ifN hp30 h
              refine J.guardY rfl (Y.move rfl) rfl ?_
              refine J.guardY rfl (Y.move rfl) rfl ?_
              replace h := ck_some h; obtain ⟨hc31, h⟩ := h
              refine J.guardY rfl (Y.indexS rfl rfl (Lent.fact 0 rfl) rfl rfl hc31) rfl ?_
              refine J.guardY rfl (Y.fieldEl rfl rfl rfl rfl rfl) rfl ?_
              refine J.guardY rfl (Y.loadS rfl (Lent.fact 0 rfl) rfl rfl rfl RI64I64pc1 hc31) rfl ?_
              replace h := bnd h; obtain ⟨r32, hr33, h⟩ := h
              refine J.loudG rfl (Loud.callL body72 (t_ref01_In fuel  r32 hr33) rfl (LentAll.nil) (fun _ _ => rfl)) rfl fun x34 => ?_
              refine J.guardY rfl (Y.not rfl) rfl ?_
              refine J.quiet (Y.pickF rfl rfl) rfl ?_
              refine J.done ?_
              refine J.thenN ?_
              exact J.meetI ((!r32)) (()) h (by repeat (first | exact SubF.nil | refine SubF.cons rfl ?_)) (SubM.refl _) (LentAll.refl _ _)
        · clear h
          intro a12 b13 h
          unfold ref01_linksValid_k3 at h
          refine J.cond (by exact rfl) (fun hp14 => ?_) (fun hp14 => ?_)
          · replace h := ifP hp14 h
            refine J.seq ?_
            refine J.region ?_
            refine J.quiet (Y.assign rfl) rfl ?_
            refine J.done ?_
            refine J.thenN ?_
            refine J.ret ?_
            refine J.thenR ?_
            refine J.inR ?_
            refine J.thenR ?_
            refine J.thenR ?_
            refine J.inR ?_
            refine J.thenR ?_
            obtain rfl := Option.some.inj h
            exact J.retG1 (()) rfl rfl (RV.tmp rfl) (SubM.refl _) LentAll.nil
          · replace h := ifBN hp14 h
            refine J.skip ?_
            refine J.thenN ?_
            refine J.seq ?_
            refine J.region ?_
            refine J.quiet (Y.assign rfl) rfl ?_
            refine J.done ?_
            refine J.thenN ?_
            refine J.block ?_
            refine J.loopI (A := Int) (B := Unit) (ref01_linksValid_s2 p0 a5 (iter (ref01_linksValid_s1 fuel p0 p1 p2) k7)) (fun a17 b18 => [(0, v0), (1, Value.int .i64 (p1)), (2, Value.int .i64 (p2)), (7, Value.int .i64 (a5)), (8, Value.int .i64 (a17))]) (fun a17 b18 => []) (fun a17 b18 => [Sl RI64I64p v0 p0]) (0 : Int) (()) h (by repeat (first | exact SubF.nil | refine SubF.cons rfl ?_)) (SubM.refl _) (LentAll.refl _ _) ?_
            clear h
            intro k19 a17 b18 h
            unfold ref01_linksValid_s2 at h
            refine J.seq ?_
            refine J.seq ?_
            refine J.region ?_
            refine J.quiet (Y.move rfl) rfl ?_
            refine J.quiet (Y.move rfl) rfl ?_
            refine J.quiet (Y.lss rfl rfl) rfl ?_
            refine J.done ?_
            refine J.thenN ?_
            refine J.condD (by exact rfl) (fun hp20 => ?_) (fun hp20 => ?_)
            · replace h := ifP hp20 h
              refine J.skip ?_
              refine J.thenN ?_
              refine J.seq ?_
              refine J.block ?_
              refine J.seq ?_
              refine JR.start [0, 0, 3, 7, 15, 0, 0, 96, 224, 480, 1023] 10 mixedOrders (by decide +kernel) ?_
              refine JR.open (by exact rfl) ?_
              refine JR.qt rfl (SubM.refl _) (SubL.nil) (Y.move rfl) HistOk.z ?_
              refine JR.qt rfl (SubM.refl _) (SubL.nil) (Y.move rfl) HistOk.z ?_
              replace h := ck_some h; obtain ⟨hc21, h⟩ := h
              refine JR.qt rfl (SubM.refl _) (SubL.cons (List.mem_of_getElem? (i := 0) rfl) (SubL.nil)) (Y.indexS rfl rfl (Lent.fact 0 rfl) rfl rfl hc21) HistOk.z ?_
              refine JR.qt rfl (SubM.refl _) (SubL.nil) (Y.fieldEl rfl rfl rfl rfl rfl) HistOk.z ?_
              refine JR.qt rfl (SubM.refl _) (SubL.cons (List.mem_of_getElem? (i := 0) rfl) (SubL.nil)) (Y.loadS rfl (Lent.fact 0 rfl) rfl rfl rfl RI64I64pc0 hc21) HistOk.z ?_
              refine JR.qt rfl (SubM.refl _) (SubL.nil) (Y.move rfl) HistOk.z ?_
              refine JR.qt rfl (SubM.refl _) (SubL.nil) (Y.move rfl) HistOk.z ?_
              replace h := ck_some h; obtain ⟨hc22, h⟩ := h
              refine JR.qt rfl (SubM.refl _) (SubL.cons (List.mem_of_getElem? (i := 0) rfl) (SubL.nil)) (Y.indexS rfl rfl (Lent.fact 0 rfl) rfl rfl hc22) HistOk.z ?_
              refine JR.qt rfl (SubM.refl _) (SubL.nil) (Y.fieldEl rfl rfl rfl rfl rfl) HistOk.z ?_
              refine JR.qt rfl (SubM.refl _) (SubL.cons (List.mem_of_getElem? (i := 0) rfl) (SubL.nil)) (Y.loadS rfl (Lent.fact 0 rfl) rfl rfl rfl RI64I64pc0 hc22) HistOk.z ?_
              refine JR.tailD 10 rfl rfl ?_
              refine J.quiet (Y.eql rfl rfl) rfl ?_
              refine J.done ?_
              refine J.thenN ?_
              refine J.condD (by exact rfl) (fun hp23 => ?_) (fun hp23 => ?_)
              · replace h := ifP hp23 h
                refine J.seq ?_
                refine J.region ?_
                refine J.quiet (Y.assign rfl) rfl ?_
                refine J.done ?_
                refine J.thenN ?_
                refine J.ret ?_
                refine J.inR ?_
                refine J.thenR ?_
                refine J.thenR ?_
                refine J.inR ?_
                refine J.inR ?_
                refine J.thenR ?_
                refine J.thenR ?_
                refine J.inR ?_
                refine J.thenR ?_
                obtain rfl := Option.some.inj h
                exact J.retG1 (()) rfl rfl (RV.tmp rfl) (SubM.refl _) LentAll.nil
              · replace h := ifN hp23 h
                refine J.skip ?_
                refine J.inN ?_
                refine J.thenN ?_
                refine J.region ?_
                refine J.quiet (Y.move rfl) rfl ?_
                refine J.quiet (Y.addW rfl rfl) rfl ?_
                refine J.quiet (Y.assign rfl) rfl ?_
                refine J.done ?_
                refine J.thenN ?_
                exact J.againI (wI .i64 (a17 + (1 : Int))) (()) h (by repeat (first | exact SubF.nil | refine SubF.cons rfl ?_)) (SubM.refl _) (LentAll.refl _ _)
            · replace h := ifN hp20 h
              refine J.exit ?_
              refine J.thenX ?_
              refine J.thenX ?_
              refine J.inX ?_
              refine J.inN ?_
              refine J.thenN ?_
              exact J.meetI (()) (()) h (by repeat (first | exact SubF.nil | refine SubF.cons rfl ?_)) (SubM.refl _) (LentAll.refl _ _)
      · clear h
        intro a9 b10 h
        unfold ref01_linksValid_k2 at h
        refine J.region ?_
        refine J.quiet (Y.move rfl) rfl ?_
        refine J.quiet (Y.addW rfl rfl) rfl ?_
        refine J.quiet (Y.assign rfl) rfl ?_
        refine J.done ?_
        refine J.thenN ?_
        exact J.againI (wI .i64 (a5 + (1 : Int))) (()) h (by repeat (first | exact SubF.nil | refine SubF.cons rfl ?_)) (SubM.refl _) (LentAll.refl _ _)
    · replace h := ifN hp8 h
      refine J.exit ?_
      refine J.thenX ?_
      refine J.thenX ?_
      refine J.inX ?_
      refine J.thenN ?_
      exact J.meetI (()) (()) h (by repeat (first | exact SubF.nil | refine SubF.cons rfl ?_)) (SubM.refl _) (LentAll.refl _ _)
  · clear h
    intro a1 b2 h
    unfold ref01_linksValid_k1 at h
    refine J.seq ?_
    refine J.region ?_
    refine J.quiet (Y.assign rfl) rfl ?_
    refine J.done ?_
    refine J.thenN ?_
    refine J.ret ?_
    obtain rfl := Option.some.inj h
    exact J.retG1 (()) rfl rfl (RV.tmp rfl) (SubM.refl _) LentAll.nil

end Go.Proofs.Ytemhmmcakmidkaa
