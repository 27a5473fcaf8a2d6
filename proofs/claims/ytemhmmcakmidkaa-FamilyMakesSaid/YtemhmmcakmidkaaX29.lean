/- The model of selfstabref03.Grid and the proof that the function meets it, by program (gen/xt.py). Conditions: none. -/
import Derived.Test.YtemhmmcakmidkaaX72
import Derived.Test.YtemhmmcakmidkaaX73
namespace Go.Proofs.Ytemhmmcakmidkaa
open Go.Sx

def ref03_Grid_k2 (r6 : (List (Int) × (List (List (Int × Int))))) (a14 : (List (List (Int × Int)))) : Option ((List (Int) × (List (List (Int × Int)))) × Int) :=
  some (((r6.1, a14)), (0 : Int))
def ref03_Grid_k3 (a22 : Int × (List (List (Int × Int)))) (ag21 : (Int × (List (List (Int × Int)))) → Option ((List (Int) × (List (List (Int × Int)))) × Int)) (a28 : (List (List (Int × Int)))) : Option ((List (Int) × (List (List (Int × Int)))) × Int) :=
  ag21 ((wI .i64 (a22.1 + (1 : Int))), a28)
def ref03_Grid_k4 (a36 : Int × (List (List (Int × Int)))) (ag35 : (Int × (List (List (Int × Int)))) → Option ((List (Int) × (List (List (Int × Int)))) × Int)) (a42 : (List (List (Int × Int)))) : Option ((List (Int) × (List (List (Int × Int)))) × Int) :=
  ag35 ((wI .i64 (a36.1 + (1 : Int))), a42)
def ref03_Grid_k5 (a22 : Int × (List (List (Int × Int)))) (a36 : Int × (List (List (Int × Int)))) (ag35 : (Int × (List (List (Int × Int)))) → Option ((List (Int) × (List (List (Int × Int)))) × Int)) (a47 : Bool) : Option ((List (Int) × (List (List (Int × Int)))) × Int) :=
  if a47 = true then (ck (0 ≤ a22.1 ∧ a22.1 < (List.length a36.2 : Int)) (ck ((List.length (at' a36.2 a22.1) : Int) + (List.length ([ (a36.1, (1 : Int))]) : Int) ≤ 1099511627) (ck (0 ≤ a22.1 ∧ a22.1 < (List.length (List.set a36.2 (Int.toNat a22.1) ((at' a36.2 a22.1) ++ ([ (a36.1, (1 : Int))]))) : Int)) (ref03_Grid_k4 a36 ag35 (List.set a36.2 (Int.toNat a22.1) ((at' a36.2 a22.1) ++ ([ (a36.1, (1 : Int))]))))))) else (ref03_Grid_k4 a36 ag35 (a36.2))
def ref03_Grid_s2 (p0 : Int) (p1 : Int) (a22 : Int × (List (List (Int × Int)))) (ag21 : (Int × (List (List (Int × Int)))) → Option ((List (Int) × (List (List (Int × Int)))) × Int)) (a36 : Int × (List (List (Int × Int)))) (ag35 : (Int × (List (List (Int × Int)))) → Option ((List (Int) × (List (List (Int × Int)))) × Int)) : Option ((List (Int) × (List (List (Int × Int)))) × Int) :=
  if a36.1 < (wI .i64 (p0 * p1)) then (ck (p0 ≠ 0) (ck (p0 ≠ 0) (if (Int.tmod a36.1 p0) = (Int.tmod a22.1 p0) then (if (wI .i64 (Int.tdiv a36.1 p0)) = (wI .i64 ((wI .i64 (Int.tdiv a22.1 p0)) - (1 : Int))) then (ref03_Grid_k5 a22 a36 ag35 (true)) else (if (wI .i64 (Int.tdiv a36.1 p0)) = (wI .i64 ((wI .i64 (Int.tdiv a22.1 p0)) + (1 : Int))) then (ref03_Grid_k5 a22 a36 ag35 (true)) else (if (wI .i64 (Int.tdiv a36.1 p0)) = (wI .i64 (Int.tdiv a22.1 p0)) then (if (Int.tmod a36.1 p0) = (wI .i64 ((Int.tmod a22.1 p0) - (1 : Int))) then (ref03_Grid_k5 a22 a36 ag35 (true)) else (ref03_Grid_k5 a22 a36 ag35 (decide ((Int.tmod a36.1 p0) = (wI .i64 ((Int.tmod a22.1 p0) + (1 : Int))))))) else (ref03_Grid_k5 a22 a36 ag35 (false))))) else (if (wI .i64 (Int.tdiv a36.1 p0)) = (wI .i64 (Int.tdiv a22.1 p0)) then (if (Int.tmod a36.1 p0) = (wI .i64 ((Int.tmod a22.1 p0) - (1 : Int))) then (ref03_Grid_k5 a22 a36 ag35 (true)) else (ref03_Grid_k5 a22 a36 ag35 (decide ((Int.tmod a36.1 p0) = (wI .i64 ((Int.tmod a22.1 p0) + (1 : Int))))))) else (ref03_Grid_k5 a22 a36 ag35 (false)))))) else (ref03_Grid_k3 a22 ag21 (a36.2))
def ref03_Grid_s1 (fuel : Nat) (p0 : Int) (p1 : Int) (r6 : (List (Int) × (List (List (Int × Int))))) (a22 : Int × (List (List (Int × Int)))) (ag21 : (Int × (List (List (Int × Int)))) → Option ((List (Int) × (List (List (Int × Int)))) × Int)) : Option ((List (Int) × (List (List (Int × Int)))) × Int) :=
  if a22.1 < (wI .i64 (p0 * p1)) then (ck (p0 ≠ 0) (ck (p0 ≠ 0) (iter (ref03_Grid_s2 p0 p1 a22 ag21) fuel ((0 : Int), a22.2)))) else (ref03_Grid_k2 r6 (a22.2))
def ref03_Grid_k1 (fuel : Nat) (p0 : Int) (p1 : Int) (a3 : Bool) : Option ((List (Int) × (List (List (Int × Int)))) × Int) :=
  if a3 = true then (some (((([] : List Int), ([] : List (List (Int × Int))))), (2 : Int))) else (Option.bind (m_ref03_plain fuel (wI .i64 (p0 * p1))) fun r6 => (iter (ref03_Grid_s1 fuel p0 p1 r6) fuel ((0 : Int), r6.2)))
def m_ref03_Grid (fuel : Nat) (p0 : Int) (p1 : Int) : Option ((List (Int) × (List (List (Int × Int)))) × Int) :=
  Option.bind (m_ref01_In fuel p0 (1 : Int) (24 : Int)) fun r65 => (if (!r65) = true then (ref03_Grid_k1 fuel p0 p1 (true)) else (Option.bind (m_ref01_In fuel p1 (1 : Int) (24 : Int)) fun r69 => (if (!r69) = true then (ref03_Grid_k1 fuel p0 p1 (true)) else (ref03_Grid_k1 fuel p0 p1 (decide ((24 : Int) < (wI .i64 (p0 * p1))))))))

theorem body29 : HasBody Try.prog 29 := Try.call29

set_option maxHeartbeats 4000000 in
set_option maxRecDepth 20000 in
theorem t_ref03_Grid (fuel : Nat) {p0 : Int} {p1 : Int} (r : (List (Int) × (List (List (Int × Int)))) × Int) (h : m_ref03_Grid fuel p0 p1 = some r) :
    Meets Try.prog 29 #[Value.int .i64 (p0), Value.int .i64 (p1)] [] (fun x : Value × Value × List Value => Value.tuple #[Value.agg #[x.1, x.2.1], Value.int .i64 (r.2)]) (fun x l => Ar EI64 x.1 r.1.1 :: Ar Enc.raw x.2.1 x.2.2 :: Rws EI64I64p x.2.2 r.1.2 :: l) (fun _ l => l) := by
  refine Meets.of (vs := [Value.int .i64 (p0), Value.int .i64 (p1)]) Try.func29 rfl Try.ntmps29 rfl fun c => ?_
  unfold m_ref03_Grid at h
  refine J.seq ?_
  refine J.region ?_
  refine J.loud (Loud.alloc (cs := [Value.slice none 0 0, Value.slice none 0 0]) rfl rfl) rfl fun b1 => ?_
  refine J.quiet (Y.assign rfl) rfl ?_
  refine J.done ?_
  refine J.thenN ?_
  refine J.seq ?_
  refine J.seq ?_
  refine J.midI (A := Bool) (B := Unit) (fun a3 => ref03_Grid_k1 fuel p0 p1 a3 = some r) (fun a3 b4 => [(0, Value.int .i64 (p0)), (1, Value.int .i64 (p1)), (4, Value.pointer (some ⟨b1, 0, none⟩)), (26, Value.bool (a3))]) (fun a3 b4 => [Blk b1 [Value.slice none 0 0, Value.slice none 0 0] 26]) (fun a3 b4 => []) ?_ ?_
  · refine J.region ?_
    refine J.quiet (Y.move rfl) rfl ?_
    replace h := bnd h; obtain ⟨r65, hr66, h⟩ := h
    refine J.loud (Loud.callL body72 (t_ref01_In fuel  r65 hr66) rfl (LentAll.nil) (fun _ _ => rfl)) rfl fun x67 => ?_
    refine J.quiet (Y.not rfl) rfl ?_
    refine J.quiet (Y.move rfl) rfl ?_
    refine J.guard (by exact rfl) (by exact rfl) (fun hp68 => ?_) (fun hp68 => ?_)
    · replace h := ifP hp68 h
      refine J.guardN rfl rfl rfl ?_
      refine J.guardN rfl rfl rfl ?_
      refine J.guardN rfl rfl rfl ?_
      refine J.quiet (Y.pickT rfl rfl) rfl ?_
      refine J.quiet (Y.move rfl) rfl ?_
      refine J.guardN rfl rfl rfl ?_
      refine J.guardN rfl rfl rfl ?_
      refine J.guardN rfl rfl rfl ?_
      refine J.guardN rfl rfl rfl ?_
      refine J.quiet (Y.pickT rfl rfl) rfl ?_
      refine J.done ?_
      refine J.thenN ?_
      exact J.meetI (true) (()) h (by repeat (first | exact SubF.nil | refine SubF.cons rfl ?_)) (SubM.refl _) (LentAll.refl _ _)
    · replace h := ifBN hp68 h
      refine J.guardY rfl (Y.move rfl) rfl ?_
      replace h := bnd h; obtain ⟨r69, hr70, h⟩ := h
      refine J.loudG rfl (Loud.callL body72 (t_ref01_In fuel  r69 hr70) rfl (LentAll.nil) (fun _ _ => rfl)) rfl fun x71 => ?_
      refine J.guardY rfl (Y.not rfl) rfl ?_
      refine J.quiet (Y.pickF rfl rfl) rfl ?_
      refine J.quiet (Y.move rfl) rfl ?_
      refine J.guard (by exact rfl) (by exact rfl) (fun hp72 => ?_) (fun hp72 => ?_)
      · replace h := ifP hp72 h
        refine J.guardN rfl rfl rfl ?_
        refine J.guardN rfl rfl rfl ?_
        refine J.guardN rfl rfl rfl ?_
        refine J.guardN rfl rfl rfl ?_
        refine J.quiet (Y.pickT rfl rfl) rfl ?_
        refine J.done ?_
        refine J.thenN ?_
        exact J.meetI (true) (()) h (by repeat (first | exact SubF.nil | refine SubF.cons rfl ?_)) (SubM.refl _) (LentAll.refl _ _)
      · replace h := ifBN hp72 h
        refine J.guardY rfl (Y.move rfl) rfl ?_
        refine J.guardY rfl (Y.move rfl) rfl ?_
        refine J.guardY rfl (Y.mulW rfl rfl) rfl ?_
        refine J.guardY rfl (Y.gtr rfl rfl) rfl ?_
        refine J.quiet (Y.pickF rfl rfl) rfl ?_
        refine J.done ?_
        refine J.thenN ?_
        exact J.meetI (decide ((24 : Int) < (wI .i64 (p0 * p1)))) (()) h (by repeat (first | exact SubF.nil | refine SubF.cons rfl ?_)) (SubM.refl _) (LentAll.refl _ _)
  · clear h
    intro a3 b4 h
    unfold ref03_Grid_k1 at h
    refine J.cond (by exact rfl) (fun hp5 => ?_) (fun hp5 => ?_)
    · replace h := ifP hp5 h
      refine J.seq ?_
      refine J.region ?_
      refine J.quiet (Y.bld0 (r := Value.agg #[Value.slice none 0 0, Value.slice none 0 0]) (by intro w; simp [Instr.build, Instr.fill, cells_intV, cells_boolV, cells_sliceV, cells_ptrV, cells_strV, cells_funcV, cells_agg])) rfl ?_
      refine J.storeAll 0 (vs := [Value.slice none 0 0, Value.slice none 0 0]) rfl rfl rfl rfl rfl rfl ?_
      refine J.quiet (Y.assign rfl) rfl ?_
      refine J.done ?_
      refine J.thenN ?_
      refine J.ret ?_
      refine J.thenR ?_
      refine J.stp (Stp.nilAr EI64) ?_
      refine J.stp (Stp.nilAr Enc.raw) (J.stp (Stp.rowsNil EI64I64p) ?_)
      obtain rfl := Option.some.inj h
      exact J.retG2 ((Value.slice none 0 0), (Value.slice none 0 0), ([] : List Value)) rfl rfl (RV.cell 3 rfl rfl rfl rfl) (RV.tmp rfl) (SubM.cons 2 rfl (SubM.cons 1 rfl (SubM.cons 0 rfl (SubM.nil)))) LentAll.nil
    · replace h := ifBN hp5 h
      refine J.skip ?_
      refine J.thenN ?_
      refine J.seq ?_
      refine J.region ?_
      refine J.quiet (Y.move rfl) rfl ?_
      refine J.quiet (Y.move rfl) rfl ?_
      refine J.quiet (Y.mulW rfl rfl) rfl ?_
      replace h := bnd h; obtain ⟨r6, hr7, h⟩ := h
      refine J.loud (Loud.callL body73 (t_ref03_plain fuel  r6 hr7) rfl (LentAll.nil) (fun _ _ => rfl)) rfl fun x8 => ?_
      refine J.loud (Loud.alloc (cs := [Value.slice none 0 0, Value.slice none 0 0]) rfl rfl) rfl fun b9 => ?_
      refine J.know (Know.one ((Lent.ar (Lent.res 1 rfl) FI64))) fun ho10 => ?_
      refine J.know (Know.one (Lent.sl (Lent.rows (i := 2) (j := 3) rfl rfl FI64I64p))) fun ho11 => ?_
      refine J.storeAll 0 (vs := [x8.1, x8.2.1]) rfl rfl (all1 ho10 (all1 ho11 rfl)) rfl rfl rfl ?_
      refine J.done ?_
      refine J.thenN ?_
      refine J.seq ?_
      refine J.midI (A := (List (List (Int × Int)))) (B := List Value) (fun a14 => ref03_Grid_k2 r6 a14 = some r) (fun a14 b15 => [(4, Value.pointer (some ⟨b1, 0, none⟩)), (6, Value.pointer (some ⟨b9, 0, none⟩))]) (fun a14 b15 => [Blk b9 [x8.1, x8.2.1] 26, Ar EI64 x8.1 r6.1, Ar Enc.raw x8.2.1 b15, Rws EI64I64p b15 a14, Blk b1 [Value.slice none 0 0, Value.slice none 0 0] 26]) (fun a14 b15 => []) ?_ ?_
      · refine J.seq ?_
        refine J.region ?_
        refine J.quiet (Y.assign rfl) rfl ?_
        refine J.done ?_
        refine J.thenN ?_
        refine J.block ?_
        refine J.loopI (A := Int × (List (List (Int × Int)))) (B := List Value) (ref03_Grid_s1 fuel p0 p1 r6) (fun a22 b23 => [(0, Value.int .i64 (p0)), (1, Value.int .i64 (p1)), (4, Value.pointer (some ⟨b1, 0, none⟩)), (6, Value.pointer (some ⟨b9, 0, none⟩)), (7, Value.int .i64 (a22.1))]) (fun a22 b23 => [Blk b9 [x8.1, x8.2.1] 26, Ar EI64 x8.1 r6.1, Ar Enc.raw x8.2.1 b23, Rws EI64I64p b23 a22.2, Blk b1 [Value.slice none 0 0, Value.slice none 0 0] 26]) (fun a22 b23 => []) ((0 : Int), r6.2) (x8.2.2) h (by repeat (first | exact SubF.nil | refine SubF.cons rfl ?_)) (SubM.refl _) (LentAll.refl _ _) ?_
        clear h
        intro k24 a22 b23 h
        unfold ref03_Grid_s1 at h
        refine J.seq ?_
        refine J.seq ?_
        refine J.region ?_
        refine J.quiet (Y.move rfl) rfl ?_
        refine J.quiet (Y.move rfl) rfl ?_
        refine J.quiet (Y.move rfl) rfl ?_
        refine J.quiet (Y.mulW rfl rfl) rfl ?_
        refine J.quiet (Y.lss rfl rfl) rfl ?_
        refine J.done ?_
        refine J.thenN ?_
        refine J.condD (by exact rfl) (fun hp25 => ?_) (fun hp25 => ?_)
        · replace h := ifP hp25 h
          refine J.skip ?_
          refine J.thenN ?_
          refine J.seq ?_
          refine J.midI (A := (List (List (Int × Int)))) (B := List Value) (fun a28 => ref03_Grid_k3 a22 (iter (ref03_Grid_s1 fuel p0 p1 r6) k24) a28 = some r) (fun a28 b29 => [(0, Value.int .i64 (p0)), (1, Value.int .i64 (p1)), (4, Value.pointer (some ⟨b1, 0, none⟩)), (6, Value.pointer (some ⟨b9, 0, none⟩)), (7, Value.int .i64 (a22.1))]) (fun a28 b29 => [Blk b9 [x8.1, x8.2.1] 26, Ar EI64 x8.1 r6.1, Ar Enc.raw x8.2.1 b29, Rws EI64I64p b29 a28, Blk b1 [Value.slice none 0 0, Value.slice none 0 0] 26]) (fun a28 b29 => []) ?_ ?_
          · refine J.block ?_
            refine J.seq ?_
            refine JR.start [0, 0, 3, 0, 0, 24, 7, 127] 7 mixedOrders (by decide +kernel) ?_
            refine JR.open (by exact rfl) ?_
            refine JR.qt rfl (SubM.nil) (SubL.nil) (Y.move rfl) HistOk.z ?_
            refine JR.qt rfl (SubM.nil) (SubL.nil) (Y.move rfl) HistOk.z ?_
            replace h := ck_some h; obtain ⟨hc30, h⟩ := h
            refine JR.qt rfl (SubM.nil) (SubL.nil) (Y.rem rfl rfl hc30) HistOk.z ?_
            refine JR.qt rfl (SubM.nil) (SubL.nil) (Y.move rfl) HistOk.z ?_
            refine JR.qt rfl (SubM.nil) (SubL.nil) (Y.move rfl) HistOk.z ?_
            replace h := ck_some h; obtain ⟨hc31, h⟩ := h
            refine JR.qt rfl (SubM.nil) (SubL.nil) (Y.quoW rfl rfl hc31) HistOk.z ?_
            refine JR.qt rfl (SubM.nil) (SubL.nil) (Y.assign rfl) HistOk.z ?_
            refine JR.tailD 7 rfl rfl ?_
            refine J.quiet (Y.assign rfl) rfl ?_
            refine J.done ?_
            refine J.thenN ?_
            refine J.seq ?_
            refine J.region ?_
            refine J.quiet (Y.assign rfl) rfl ?_
            refine J.done ?_
            refine J.thenN ?_
            refine J.block ?_
            refine J.loopI (A := Int × (List (List (Int × Int)))) (B := List Value) (ref03_Grid_s2 p0 p1 a22 (iter (ref03_Grid_s1 fuel p0 p1 r6) k24)) (fun a36 b37 => [(0, Value.int .i64 (p0)), (1, Value.int .i64 (p1)), (4, Value.pointer (some ⟨b1, 0, none⟩)), (6, Value.pointer (some ⟨b9, 0, none⟩)), (7, Value.int .i64 (a22.1)), (8, Value.int .i64 (Int.tmod a22.1 p0)), (9, Value.int .i64 (wI .i64 (Int.tdiv a22.1 p0))), (10, Value.int .i64 (a36.1))]) (fun a36 b37 => [Blk b9 [x8.1, x8.2.1] 26, Ar EI64 x8.1 r6.1, Ar Enc.raw x8.2.1 b37, Rws EI64I64p b37 a36.2, Blk b1 [Value.slice none 0 0, Value.slice none 0 0] 26]) (fun a36 b37 => []) ((0 : Int), a22.2) (b23) h (by repeat (first | exact SubF.nil | refine SubF.cons rfl ?_)) (SubM.refl _) (LentAll.refl _ _) ?_
            clear h
            intro k38 a36 b37 h
            unfold ref03_Grid_s2 at h
            refine J.seq ?_
            refine J.seq ?_
            refine J.region ?_
            refine J.quiet (Y.move rfl) rfl ?_
            refine J.quiet (Y.move rfl) rfl ?_
            refine J.quiet (Y.move rfl) rfl ?_
            refine J.quiet (Y.mulW rfl rfl) rfl ?_
            refine J.quiet (Y.lss rfl rfl) rfl ?_
            refine J.done ?_
            refine J.thenN ?_
            refine J.condD (by exact rfl) (fun hp39 => ?_) (fun hp39 => ?_)
            · replace h := ifP hp39 h
              refine J.skip ?_
              refine J.thenN ?_
              refine J.seq ?_
              refine J.midI (A := (List (List (Int × Int)))) (B := List Value) (fun a42 => ref03_Grid_k4 a36 (iter (ref03_Grid_s2 p0 p1 a22 (iter (ref03_Grid_s1 fuel p0 p1 r6) k24)) k38) a42 = some r) (fun a42 b43 => [(0, Value.int .i64 (p0)), (1, Value.int .i64 (p1)), (4, Value.pointer (some ⟨b1, 0, none⟩)), (6, Value.pointer (some ⟨b9, 0, none⟩)), (7, Value.int .i64 (a22.1)), (8, Value.int .i64 (Int.tmod a22.1 p0)), (9, Value.int .i64 (wI .i64 (Int.tdiv a22.1 p0))), (10, Value.int .i64 (a36.1))]) (fun a42 b43 => [Blk b9 [x8.1, x8.2.1] 26, Ar EI64 x8.1 r6.1, Ar Enc.raw x8.2.1 b43, Rws EI64I64p b43 a42, Blk b1 [Value.slice none 0 0, Value.slice none 0 0] 26]) (fun a42 b43 => []) ?_ ?_
              · refine J.block ?_
                refine J.seq ?_
                refine JR.start [0, 0, 3, 0, 0, 24, 7, 127] 7 mixedOrders (by decide +kernel) ?_
                refine JR.open (by exact rfl) ?_
                refine JR.qt rfl (SubM.nil) (SubL.nil) (Y.move rfl) HistOk.z ?_
                refine JR.qt rfl (SubM.nil) (SubL.nil) (Y.move rfl) HistOk.z ?_
                replace h := ck_some h; obtain ⟨hc44, h⟩ := h
                refine JR.qt rfl (SubM.nil) (SubL.nil) (Y.rem rfl rfl hc44) HistOk.z ?_
                refine JR.qt rfl (SubM.nil) (SubL.nil) (Y.move rfl) HistOk.z ?_
                refine JR.qt rfl (SubM.nil) (SubL.nil) (Y.move rfl) HistOk.z ?_
                replace h := ck_some h; obtain ⟨hc45, h⟩ := h
                refine JR.qt rfl (SubM.nil) (SubL.nil) (Y.quoW rfl rfl hc45) HistOk.z ?_
                refine JR.qt rfl (SubM.nil) (SubL.nil) (Y.assign rfl) HistOk.z ?_
                refine JR.tailD 7 rfl rfl ?_
                refine J.quiet (Y.assign rfl) rfl ?_
                refine J.done ?_
                refine J.thenN ?_
                refine J.seq ?_
                refine J.midI (A := Bool) (B := Unit) (fun a47 => ref03_Grid_k5 a22 a36 (iter (ref03_Grid_s2 p0 p1 a22 (iter (ref03_Grid_s1 fuel p0 p1 r6) k24)) k38) a47 = some r) (fun a47 b48 => [(0, Value.int .i64 (p0)), (1, Value.int .i64 (p1)), (4, Value.pointer (some ⟨b1, 0, none⟩)), (6, Value.pointer (some ⟨b9, 0, none⟩)), (7, Value.int .i64 (a22.1)), (8, Value.int .i64 (Int.tmod a22.1 p0)), (9, Value.int .i64 (wI .i64 (Int.tdiv a22.1 p0))), (10, Value.int .i64 (a36.1)), (89, Value.bool (a47))]) (fun a47 b48 => [Blk b9 [x8.1, x8.2.1] 26, Ar EI64 x8.1 r6.1, Ar Enc.raw x8.2.1 b37, Rws EI64I64p b37 a36.2, Blk b1 [Value.slice none 0 0, Value.slice none 0 0] 26]) (fun a47 b48 => []) ?_ ?_
                · refine J.region ?_
                  refine J.quiet (Y.move rfl) rfl ?_
                  refine J.quiet (Y.move rfl) rfl ?_
                  refine J.quiet (Y.eql rfl rfl) rfl ?_
                  refine J.quiet (Y.move rfl) rfl ?_
                  refine J.guardD (by exact rfl) (by exact rfl) (fun hp58 => ?_) (fun hp58 => ?_)
                  · replace h := ifP hp58 h
                    refine J.guardY rfl (Y.move rfl) rfl ?_
                    refine J.guardY rfl (Y.move rfl) rfl ?_
                    refine J.guardY rfl (Y.subW rfl rfl) rfl ?_
                    refine J.guardY rfl (Y.eql rfl rfl) rfl ?_
                    refine J.guardY rfl (Y.move rfl) rfl ?_
                    refine J.guardD (by exact rfl) (by exact rfl) (fun hp59 => ?_) (fun hp59 => ?_)
                    · replace h := ifP hp59 h
                      refine J.guardN rfl rfl rfl ?_
                      refine J.guardN rfl rfl rfl ?_
                      refine J.guardN rfl rfl rfl ?_
                      refine J.guardN rfl rfl rfl ?_
                      refine J.guardY rfl (Y.pickT rfl rfl) rfl ?_
                      refine J.quiet (Y.pickT rfl rfl) rfl ?_
                      refine J.quiet (Y.move rfl) rfl ?_
                      refine J.guardN rfl rfl rfl ?_
                      refine J.guardN rfl rfl rfl ?_
                      refine J.guardN rfl rfl rfl ?_
                      refine J.guardN rfl rfl rfl ?_
                      refine J.qu (h := ?_)
                      refine J.qu (h := ?_)
                      refine J.qu (h := ?_)
                      refine J.qu (h := ?_)
                      refine J.qu (h := ?_)
                      refine J.qu (h := ?_)
                      refine J.qu (h := ?_)
                      refine J.qu (h := ?_)
                      refine J.qu (h := ?_)
                      refine J.qu (h := ?_)
                      refine J.guardN rfl rfl rfl ?_
                      refine J.quiet (Y.pickT rfl rfl) rfl ?_
                      refine J.done ?_
                      refine J.thenN ?_
                      exact J.meetI (true) (()) h (by repeat (first | exact SubF.nil | refine SubF.cons rfl ?_)) (SubM.refl _) (LentAll.refl _ _)
                    · replace h := ifN hp59 h
                      refine J.guardY rfl (Y.move rfl) rfl ?_
                      refine J.guardY rfl (Y.move rfl) rfl ?_
                      refine J.guardY rfl (Y.addW rfl rfl) rfl ?_
                      refine J.guardY rfl (Y.eql rfl rfl) rfl ?_
                      refine J.guardY rfl (Y.pickF rfl rfl) rfl ?_
                      refine J.quiet (Y.pickT rfl rfl) rfl ?_
                      refine J.quiet (Y.move rfl) rfl ?_
                      refine J.guardD (by exact rfl) (by exact rfl) (fun hp60 => ?_) (fun hp60 => ?_)
                      · replace h := ifP hp60 h
                        refine J.guardN rfl rfl rfl ?_
                        refine J.guardN rfl rfl rfl ?_
                        refine J.guardN rfl rfl rfl ?_
                        refine J.guardN rfl rfl rfl ?_
                        refine J.qu (h := ?_)
                        refine J.qu (h := ?_)
                        refine J.qu (h := ?_)
                        refine J.qu (h := ?_)
                        refine J.qu (h := ?_)
                        refine J.qu (h := ?_)
                        refine J.qu (h := ?_)
                        refine J.qu (h := ?_)
                        refine J.qu (h := ?_)
                        refine J.qu (h := ?_)
                        refine J.guardN rfl rfl rfl ?_
                        refine J.quiet (Y.pickT rfl rfl) rfl ?_
                        refine J.done ?_
                        refine J.thenN ?_
                        exact J.meetI (true) (()) h (by repeat (first | exact SubF.nil | refine SubF.cons rfl ?_)) (SubM.refl _) (LentAll.refl _ _)
                      · replace h := ifN hp60 h
                        refine J.guardY rfl (Y.move rfl) rfl ?_
                        refine J.guardY rfl (Y.move rfl) rfl ?_
                        refine J.guardY rfl (Y.eql rfl rfl) rfl ?_
                        refine J.guardY rfl (Y.move rfl) rfl ?_
                        refine J.guardD (by exact rfl) (by exact rfl) (fun hp61 => ?_) (fun hp61 => ?_)
                        · replace h := ifP hp61 h
                          refine J.guardY rfl (Y.move rfl) rfl ?_
                          refine J.guardY rfl (Y.move rfl) rfl ?_
                          refine J.guardY rfl (Y.subW rfl rfl) rfl ?_
                          refine J.guardY rfl (Y.eql rfl rfl) rfl ?_
                          refine J.guardY rfl (Y.move rfl) rfl ?_
                          refine J.guardD (by exact rfl) (by exact rfl) (fun hp62 => ?_) (fun hp62 => ?_)
                          · replace h := ifP hp62 h
                            refine J.guardN rfl rfl rfl ?_
                            refine J.guardN rfl rfl rfl ?_
                            refine J.guardN rfl rfl rfl ?_
                            refine J.guardN rfl rfl rfl ?_
                            refine J.guardY rfl (Y.pickT rfl rfl) rfl ?_
                            refine J.guardY rfl (Y.pickT rfl rfl) rfl ?_
                            refine J.quiet (Y.pickF rfl rfl) rfl ?_
                            refine J.done ?_
                            refine J.thenN ?_
                            exact J.meetI (true) (()) h (by repeat (first | exact SubF.nil | refine SubF.cons rfl ?_)) (SubM.refl _) (LentAll.refl _ _)
                          · replace h := ifN hp62 h
                            refine J.guardY rfl (Y.move rfl) rfl ?_
                            refine J.guardY rfl (Y.move rfl) rfl ?_
                            refine J.guardY rfl (Y.addW rfl rfl) rfl ?_
                            refine J.guardY rfl (Y.eql rfl rfl) rfl ?_
                            refine J.guardY rfl (Y.pickF rfl rfl) rfl ?_
                            refine J.guardY rfl (Y.pickT rfl rfl) rfl ?_
                            refine J.quiet (Y.pickF rfl rfl) rfl ?_
                            refine J.done ?_
                            refine J.thenN ?_
                            exact J.meetI (decide ((Int.tmod a36.1 p0) = (wI .i64 ((Int.tmod a22.1 p0) + (1 : Int))))) (()) h (by repeat (first | exact SubF.nil | refine SubF.cons rfl ?_)) (SubM.refl _) (LentAll.refl _ _)
                        · replace h := ifN hp61 h
                          refine J.guardN rfl rfl rfl ?_
                          refine J.guardN rfl rfl rfl ?_
                          refine J.guardN rfl rfl rfl ?_
                          refine J.guardN rfl rfl rfl ?_
                          refine J.guardN rfl rfl rfl ?_
                          refine J.qu (h := ?_)
                          refine J.qu (h := ?_)
                          refine J.qu (h := ?_)
                          refine J.qu (h := ?_)
                          refine J.guardN rfl rfl rfl ?_
                          refine J.guardY rfl (Y.pickF rfl rfl) rfl ?_
                          refine J.quiet (Y.pickF rfl rfl) rfl ?_
                          refine J.done ?_
                          refine J.thenN ?_
                          exact J.meetI (false) (()) h (by repeat (first | exact SubF.nil | refine SubF.cons rfl ?_)) (SubM.refl _) (LentAll.refl _ _)
                  · replace h := ifN hp58 h
                    refine J.guardN rfl rfl rfl ?_
                    refine J.guardN rfl rfl rfl ?_
                    refine J.guardN rfl rfl rfl ?_
                    refine J.guardN rfl rfl rfl ?_
                    refine J.guardN rfl rfl rfl ?_
                    refine J.qu (h := ?_)
                    refine J.qu (h := ?_)
                    refine J.qu (h := ?_)
                    refine J.qu (h := ?_)
                    refine J.guardN rfl rfl rfl ?_
                    refine J.quiet (Y.pickF rfl rfl) rfl ?_
                    refine J.quiet (Y.move rfl) rfl ?_
                    refine J.guardY rfl (Y.move rfl) rfl ?_
                    refine J.guardY rfl (Y.move rfl) rfl ?_
                    refine J.guardY rfl (Y.eql rfl rfl) rfl ?_
                    refine J.guardY rfl (Y.move rfl) rfl ?_
                    refine J.guardD (by exact rfl) (by exact rfl) (fun hp63 => ?_) (fun hp63 => ?_)
                    · replace h := ifP hp63 h
                      refine J.guardY rfl (Y.move rfl) rfl ?_
                      refine J.guardY rfl (Y.move rfl) rfl ?_
                      refine J.guardY rfl (Y.subW rfl rfl) rfl ?_
                      refine J.guardY rfl (Y.eql rfl rfl) rfl ?_
                      refine J.guardY rfl (Y.move rfl) rfl ?_
                      refine J.guardD (by exact rfl) (by exact rfl) (fun hp64 => ?_) (fun hp64 => ?_)
                      · replace h := ifP hp64 h
                        refine J.guardN rfl rfl rfl ?_
                        refine J.guardN rfl rfl rfl ?_
                        refine J.guardN rfl rfl rfl ?_
                        refine J.guardN rfl rfl rfl ?_
                        refine J.guardY rfl (Y.pickT rfl rfl) rfl ?_
                        refine J.guardY rfl (Y.pickT rfl rfl) rfl ?_
                        refine J.quiet (Y.pickF rfl rfl) rfl ?_
                        refine J.done ?_
                        refine J.thenN ?_
                        exact J.meetI (true) (()) h (by repeat (first | exact SubF.nil | refine SubF.cons rfl ?_)) (SubM.refl _) (LentAll.refl _ _)
                      · replace h := ifN hp64 h
                        refine J.guardY rfl (Y.move rfl) rfl ?_
                        refine J.guardY rfl (Y.move rfl) rfl ?_
                        refine J.guardY rfl (Y.addW rfl rfl) rfl ?_
                        refine J.guardY rfl (Y.eql rfl rfl) rfl ?_
                        refine J.guardY rfl (Y.pickF rfl rfl) rfl ?_
                        refine J.guardY rfl (Y.pickT rfl rfl) rfl ?_
                        refine J.quiet (Y.pickF rfl rfl) rfl ?_
                        refine J.done ?_
                        refine J.thenN ?_
                        exact J.meetI (decide ((Int.tmod a36.1 p0) = (wI .i64 ((Int.tmod a22.1 p0) + (1 : Int))))) (()) h (by repeat (first | exact SubF.nil | refine SubF.cons rfl ?_)) (SubM.refl _) (LentAll.refl _ _)
                    · replace h := ifN hp63 h
                      refine J.guardN rfl rfl rfl ?_
                      refine J.guardN rfl rfl rfl ?_
                      refine J.guardN rfl rfl rfl ?_
                      refine J.guardN rfl rfl rfl ?_
                      refine J.guardN rfl rfl rfl ?_
                      refine J.qu (h := ?_)
                      refine J.qu (h := ?_)
                      refine J.qu (h := ?_)
                      refine J.qu (h := ?_)
                      refine J.guardN rfl rfl rfl ?_
                      refine J.guardY rfl (Y.pickF rfl rfl) rfl ?_
                      refine J.quiet (Y.pickF rfl rfl) rfl ?_
                      refine J.done ?_
                      refine J.thenN ?_
                      exact J.meetI (false) (()) h (by repeat (first | exact SubF.nil | refine SubF.cons rfl ?_)) (SubM.refl _) (LentAll.refl _ _)
                · clear h
                  intro a47 b48 h
                  unfold ref03_Grid_k5 at h
                  refine J.cond (by exact rfl) (fun hp49 => ?_) (fun hp49 => ?_)
                  · replace h := ifP hp49 h
                    refine JR.start [0, 1, 0, 0, 8, 0, 56, 120, 0, 256, 768, 2040, 4095, 8191] 12 mixedOrders (by decide +kernel) ?_
                    refine JR.open (by exact rfl) ?_
                    refine JR.qt rfl (SubM.nil) (SubL.nil) (Y.fieldB rfl rfl rfl rfl rfl) HistOk.z ?_
                    refine JR.qt rfl (SubM.cons 0 rfl (SubM.nil)) (SubL.nil) (Y.loadB 0 rfl rfl rfl rfl rfl) HistOk.z ?_
                    refine JR.qt rfl (SubM.nil) (SubL.nil) (Y.move rfl) HistOk.z ?_
                    refine JR.qt rfl (SubM.nil) (SubL.nil) (Y.fieldB rfl rfl rfl rfl rfl) HistOk.z ?_
                    refine JR.qt rfl (SubM.cons 0 rfl (SubM.nil)) (SubL.nil) (Y.loadB 0 rfl rfl rfl rfl rfl) HistOk.z ?_
                    refine JR.qt rfl (SubM.nil) (SubL.nil) (Y.move rfl) HistOk.z ?_
                    replace h := ck_some h; obtain ⟨hc50, h⟩ := h
                    refine JR.qt rfl (SubM.cons 2 rfl (SubM.cons 2 rfl (SubM.nil))) (SubL.nil) (Y.indexN rfl rfl (Lent.rows (i := 0) (j := 1) rfl rfl FI64I64p) rfl rfl hc50) HistOk.z ?_
                    refine JR.know (Know.rws 3 rfl) fun hl51 => ?_
                    refine JR.qt rfl (SubM.cons 2 rfl (SubM.nil)) (SubL.nil) (Y.loadRaw 0 rfl rfl hl51 rfl rfl hc50) HistOk.z ?_
                    refine JR.qt rfl (SubM.nil) (SubL.nil) (Y.move rfl) HistOk.z ?_
                    refine JR.qt rfl (SubM.nil) (SubL.nil) (Y.bld2 (r := Value.agg #[Value.int .i64 (a36.1), Value.int .i64 (1 : Int)]) rfl rfl (by intro w; simp [Instr.build, Instr.fill, cells_intV, cells_boolV, cells_sliceV, cells_ptrV, cells_strV, cells_funcV, cells_agg])) HistOk.z ?_
                    refine JR.loud rfl rfl rfl (Loud.buildS (e := EI64I64p) [((a36.1, (1 : Int)))] [(0, Value.agg #[Value.int .i64 (a36.1), Value.int .i64 (1 : Int)])] rfl rfl rfl rfl (fill_1_2 (Value.int .i64 (a36.1)) (Value.int .i64 (1 : Int))) rfl rfl rfl) rfl (fun u52 => (BsOk.b rfl (BsOk.b rfl (BsOk.h (SubM.cons 3 rfl (SubM.nil)) (SubL.nil) (BsOk.h (SubM.cons 3 rfl (SubM.cons 3 rfl (SubM.nil))) (SubL.nil) (BsOk.h (SubM.nil) (SubL.nil) (BsOk.h (SubM.cons 1 rfl (SubM.nil)) (SubL.nil) (BsOk.h (SubM.nil) (SubL.nil) (BsOk.h (SubM.nil) (SubL.nil) (BsOk.h (SubM.cons 1 rfl (SubM.nil)) (SubL.nil) (BsOk.h (SubM.nil) (SubL.nil) BsOk.z))))))))))) fun u52 => ?_
                    replace h := ck_some h; obtain ⟨hc54, h⟩ := h
                    refine JR.loud rfl rfl rfl (Loud.appendRowL 4 FI64I64p rfl rfl rfl (Lent.ar (Lent.res 0 rfl) FI64I64p) rfl rfl rfl rfl hc50 hc54 rfl) rfl (fun u53 => (BsOk.b rfl (BsOk.b rfl (BsOk.b rfl (BsOk.b rfl (BsOk.b rfl (BsOk.b rfl (BsOk.b rfl (BsOk.h (SubM.nil) (SubL.nil) (BsOk.h (SubM.cons 1 rfl (SubM.nil)) (SubL.nil) (BsOk.h (SubM.nil) (SubL.nil) BsOk.z))))))))))) fun u53 => ?_
                    refine JR.tailD 12 rfl rfl ?_
                    replace h := ck_some h; obtain ⟨hc55, h⟩ := h
                    refine J.know (Know.rws 4 rfl) fun hl56 => ?_
                    refine J.quiet (Y.indexA 3 rfl rfl rfl rfl rfl hc55.1 (by have q1 := hc55.2; have q2 := hl56; simp only [List.length_set] at q1 q2; omega)) rfl ?_
                    refine J.know (Know.oneRow 4 (k := a22.1) rfl hc55) fun ho57 => ?_
                    refine J.storeRow 3 4 ⟨hc55.1, by simpa using hc55.2⟩ rfl rfl rfl rfl rfl (by simp) ho57 rfl ?_
                    refine J.done ?_
                    refine J.inN ?_
                    refine J.thenN ?_
                    exact J.meetI (List.set a36.2 (Int.toNat a22.1) ((at' a36.2 a22.1) ++ ([ (a36.1, (1 : Int))]))) (List.set b37 (Int.toNat a22.1) u53) h (by repeat (first | exact SubF.nil | refine SubF.cons rfl ?_)) (SubM.cons 1 rfl (SubM.cons 1 rfl (SubM.cons 1 rfl (SubM.cons 1 rfl (SubM.cons 1 rfl (SubM.nil)))))) (LentAll.refl _ _)
                  · replace h := ifBN hp49 h
                    refine J.skip ?_
                    refine J.inN ?_
                    refine J.thenN ?_
                    exact J.meetI (a36.2) (b37) h (by repeat (first | exact SubF.nil | refine SubF.cons rfl ?_)) (SubM.refl _) (LentAll.refl _ _)
              · clear h
                intro a42 b43 h
                unfold ref03_Grid_k4 at h
                refine J.region ?_
                refine J.quiet (Y.move rfl) rfl ?_
                refine J.quiet (Y.addW rfl rfl) rfl ?_
                refine J.quiet (Y.assign rfl) rfl ?_
                refine J.done ?_
                refine J.thenN ?_
                exact J.againI ((wI .i64 (a36.1 + (1 : Int))), a42) (b43) h (by repeat (first | exact SubF.nil | refine SubF.cons rfl ?_)) (SubM.refl _) (LentAll.refl _ _)
            · replace h := ifN hp39 h
              refine J.exit ?_
              refine J.thenX ?_
              refine J.thenX ?_
              refine J.inX ?_
              refine J.inN ?_
              refine J.thenN ?_
              exact J.meetI (a36.2) (b37) h (by repeat (first | exact SubF.nil | refine SubF.cons rfl ?_)) (SubM.refl _) (LentAll.refl _ _)
          · clear h
            intro a28 b29 h
            unfold ref03_Grid_k3 at h
            refine J.region ?_
            refine J.quiet (Y.move rfl) rfl ?_
            refine J.quiet (Y.addW rfl rfl) rfl ?_
            refine J.quiet (Y.assign rfl) rfl ?_
            refine J.done ?_
            refine J.thenN ?_
            exact J.againI ((wI .i64 (a22.1 + (1 : Int))), a28) (b29) h (by repeat (first | exact SubF.nil | refine SubF.cons rfl ?_)) (SubM.refl _) (LentAll.refl _ _)
        · replace h := ifN hp25 h
          refine J.exit ?_
          refine J.thenX ?_
          refine J.thenX ?_
          refine J.inX ?_
          refine J.thenN ?_
          exact J.meetI (a22.2) (b23) h (by repeat (first | exact SubF.nil | refine SubF.cons rfl ?_)) (SubM.refl _) (LentAll.refl _ _)
      · clear h
        intro a14 b15 h
        unfold ref03_Grid_k2 at h
        refine J.seq ?_
        refine J.region ?_
        refine J.quiet (Y.loadBAll 0 rfl rfl rfl rfl) rfl ?_
        refine J.know (Know.one ((Lent.ar (Lent.res 1 rfl) FI64))) fun ho16 => ?_
        refine J.know (Know.one (Lent.sl (Lent.rows (i := 2) (j := 3) rfl rfl FI64I64p))) fun ho17 => ?_
        refine J.storeAll 4 (vs := [x8.1, x8.2.1]) rfl rfl (all1 ho16 (all1 ho17 rfl)) rfl rfl rfl ?_
        refine J.quiet (Y.assign rfl) rfl ?_
        refine J.done ?_
        refine J.thenN ?_
        refine J.ret ?_
        obtain rfl := Option.some.inj h
        exact J.retG2 (x8.1, x8.2.1, b15) rfl rfl (RV.cell 4 rfl rfl rfl rfl) (RV.tmp rfl) (SubM.cons 1 rfl (SubM.cons 1 rfl (SubM.cons 1 rfl (SubM.nil)))) LentAll.nil

end Go.Proofs.Ytemhmmcakmidkaa
