/- The model of selfstabref03.Path and the proof that the function meets it, by program (gen/xt.py). Conditions: none. -/
import Derived.Test.YtemhmmcakmidkaaX72
import Derived.Test.YtemhmmcakmidkaaX73
namespace Go.Proofs.Ytemhmmcakmidkaa
open Go.Sx

def ref03_Path_k1 (r6 : (List (Int) × (List (List (Int × Int))))) (a14 : (List (List (Int × Int)))) : Option ((List (Int) × (List (List (Int × Int)))) × Int) :=
  some (((r6.1, a14)), (0 : Int))
def ref03_Path_k2 (a22 : Int × (List (List (Int × Int)))) (ag21 : (Int × (List (List (Int × Int)))) → Option ((List (Int) × (List (List (Int × Int)))) × Int)) (a28 : (List (List (Int × Int)))) : Option ((List (Int) × (List (List (Int × Int)))) × Int) :=
  ag21 ((wI .i64 (a22.1 + (1 : Int))), a28)
def ref03_Path_k3 (p0 : Int) (a22 : Int × (List (List (Int × Int)))) (ag21 : (Int × (List (List (Int × Int)))) → Option ((List (Int) × (List (List (Int × Int)))) × Int)) (a32 : (List (List (Int × Int)))) : Option ((List (Int) × (List (List (Int × Int)))) × Int) :=
  if a22.1 < (wI .i64 (p0 - (1 : Int))) then (ck (0 ≤ a22.1 ∧ a22.1 < (List.length a32 : Int)) (ck ((List.length (at' a32 a22.1) : Int) + (List.length ([ ((wI .i64 (a22.1 + (1 : Int))), (1 : Int))]) : Int) ≤ 1099511627) (ck (0 ≤ a22.1 ∧ a22.1 < (List.length (List.set a32 (Int.toNat a22.1) ((at' a32 a22.1) ++ ([ ((wI .i64 (a22.1 + (1 : Int))), (1 : Int))]))) : Int)) (ref03_Path_k2 a22 ag21 (List.set a32 (Int.toNat a22.1) ((at' a32 a22.1) ++ ([ ((wI .i64 (a22.1 + (1 : Int))), (1 : Int))]))))))) else (ref03_Path_k2 a22 ag21 (a32))
def ref03_Path_s1 (p0 : Int) (r6 : (List (Int) × (List (List (Int × Int))))) (a22 : Int × (List (List (Int × Int)))) (ag21 : (Int × (List (List (Int × Int)))) → Option ((List (Int) × (List (List (Int × Int)))) × Int)) : Option ((List (Int) × (List (List (Int × Int)))) × Int) :=
  if a22.1 < p0 then (if (0 : Int) < a22.1 then (ck (0 ≤ a22.1 ∧ a22.1 < (List.length a22.2 : Int)) (ck ((List.length (at' a22.2 a22.1) : Int) + (List.length ([ ((wI .i64 (a22.1 - (1 : Int))), (1 : Int))]) : Int) ≤ 1099511627) (ck (0 ≤ a22.1 ∧ a22.1 < (List.length (List.set a22.2 (Int.toNat a22.1) ((at' a22.2 a22.1) ++ ([ ((wI .i64 (a22.1 - (1 : Int))), (1 : Int))]))) : Int)) (ref03_Path_k3 p0 a22 ag21 (List.set a22.2 (Int.toNat a22.1) ((at' a22.2 a22.1) ++ ([ ((wI .i64 (a22.1 - (1 : Int))), (1 : Int))]))))))) else (ref03_Path_k3 p0 a22 ag21 (a22.2))) else (ref03_Path_k1 r6 (a22.2))
def m_ref03_Path (fuel : Nat) (p0 : Int) : Option ((List (Int) × (List (List (Int × Int)))) × Int) :=
  Option.bind (m_ref01_In fuel p0 (1 : Int) (24 : Int)) fun r2 => (if (!r2) = true then (some (((([] : List Int), ([] : List (List (Int × Int))))), (2 : Int))) else (Option.bind (m_ref03_plain fuel p0) fun r6 => (iter (ref03_Path_s1 p0 r6) fuel ((0 : Int), r6.2))))

theorem body23 : HasBody Try.prog 23 := Try.call23

set_option maxHeartbeats 4000000 in
set_option maxRecDepth 20000 in
theorem t_ref03_Path (fuel : Nat) {p0 : Int} (r : (List (Int) × (List (List (Int × Int)))) × Int) (h : m_ref03_Path fuel p0 = some r) :
    Meets Try.prog 23 #[Value.int .i64 (p0)] [] (fun x : Value × Value × List Value => Value.tuple #[Value.agg #[x.1, x.2.1], Value.int .i64 (r.2)]) (fun x l => Ar EI64 x.1 r.1.1 :: Ar Enc.raw x.2.1 x.2.2 :: Rws EI64I64p x.2.2 r.1.2 :: l) (fun _ l => l) := by
  refine Meets.of (vs := [Value.int .i64 (p0)]) Try.func23 rfl Try.ntmps23 rfl fun c => ?_
  unfold m_ref03_Path at h
  refine J.seq ?_
  refine J.region ?_
  refine J.loud (Loud.alloc (cs := [Value.slice none 0 0, Value.slice none 0 0]) rfl rfl) rfl fun b1 => ?_
  refine J.quiet (Y.assign rfl) rfl ?_
  refine J.done ?_
  refine J.thenN ?_
  refine J.seq ?_
  refine J.seq ?_
  refine J.region ?_
  refine J.quiet (Y.move rfl) rfl ?_
  replace h := bnd h; obtain ⟨r2, hr3, h⟩ := h
  refine J.loud (Loud.callL body72 (t_ref01_In fuel  r2 hr3) rfl (LentAll.nil) (fun _ _ => rfl)) rfl fun x4 => ?_
  refine J.quiet (Y.not rfl) rfl ?_
  refine J.done ?_
  refine J.thenN ?_
  refine J.cond (by exact rfl) (fun hp5 => ?_) (fun hp5 => ?_)
  · replace h := ifP hp5 h
    refine J.seq ?_
    refine J.region ?_
    refine J.quiet (Y.bld0 (r := Value.agg #[Value.slice none 0 0, Value.slice none 0 0]) (by intro w; simp [Instr.build, Instr.fill, cells_intV, cells_boolV, cells_sliceV, cells_ptrV, cells_strV, cells_funcV, cells_agg])) rfl ?_
    refine J.storeAll 0 (vs := [Value.slice none 0 0, Value.slice none 0 0]) rfl rfl rfl rfl rfl rfl ?_
    refine J.quiet (Y.assign rfl) rfl ?_
    refine J.done ?_
    refine J.thenN ?_
    refine J.ret ?_
    refine J.thenR ?_
    refine J.stp (Stp.nilAr EI64) ?_
    refine J.stp (Stp.nilAr Enc.raw) (J.stp (Stp.rowsNil EI64I64p) ?_)
    obtain rfl := Option.some.inj h
    exact J.retG2 ((Value.slice none 0 0), (Value.slice none 0 0), ([] : List Value)) rfl rfl (RV.cell 3 rfl rfl rfl rfl) (RV.tmp rfl) (SubM.cons 2 rfl (SubM.cons 1 rfl (SubM.cons 0 rfl (SubM.nil)))) LentAll.nil
  · replace h := ifBN hp5 h
    refine J.skip ?_
    refine J.thenN ?_
    refine J.seq ?_
    refine J.region ?_
    refine J.quiet (Y.move rfl) rfl ?_
    replace h := bnd h; obtain ⟨r6, hr7, h⟩ := h
    refine J.loud (Loud.callL body73 (t_ref03_plain fuel  r6 hr7) rfl (LentAll.nil) (fun _ _ => rfl)) rfl fun x8 => ?_
    refine J.loud (Loud.alloc (cs := [Value.slice none 0 0, Value.slice none 0 0]) rfl rfl) rfl fun b9 => ?_
    refine J.know (Know.one ((Lent.ar (Lent.res 1 rfl) FI64))) fun ho10 => ?_
    refine J.know (Know.one (Lent.sl (Lent.rows (i := 2) (j := 3) rfl rfl FI64I64p))) fun ho11 => ?_
    refine J.storeAll 0 (vs := [x8.1, x8.2.1]) rfl rfl (all1 ho10 (all1 ho11 rfl)) rfl rfl rfl ?_
    refine J.done ?_
    refine J.thenN ?_
    refine J.seq ?_
    refine J.midI (A := (List (List (Int × Int)))) (B := List Value) (fun a14 => ref03_Path_k1 r6 a14 = some r) (fun a14 b15 => [(2, Value.pointer (some ⟨b1, 0, none⟩)), (4, Value.pointer (some ⟨b9, 0, none⟩))]) (fun a14 b15 => [Blk b9 [x8.1, x8.2.1] 26, Ar EI64 x8.1 r6.1, Ar Enc.raw x8.2.1 b15, Rws EI64I64p b15 a14, Blk b1 [Value.slice none 0 0, Value.slice none 0 0] 26]) (fun a14 b15 => []) ?_ ?_
    · refine J.seq ?_
      refine J.region ?_
      refine J.quiet (Y.assign rfl) rfl ?_
      refine J.done ?_
      refine J.thenN ?_
      refine J.block ?_
      refine J.loopI (A := Int × (List (List (Int × Int)))) (B := List Value) (ref03_Path_s1 p0 r6) (fun a22 b23 => [(0, Value.int .i64 (p0)), (2, Value.pointer (some ⟨b1, 0, none⟩)), (4, Value.pointer (some ⟨b9, 0, none⟩)), (5, Value.int .i64 (a22.1))]) (fun a22 b23 => [Blk b9 [x8.1, x8.2.1] 26, Ar EI64 x8.1 r6.1, Ar Enc.raw x8.2.1 b23, Rws EI64I64p b23 a22.2, Blk b1 [Value.slice none 0 0, Value.slice none 0 0] 26]) (fun a22 b23 => []) ((0 : Int), r6.2) (x8.2.2) h (by repeat (first | exact SubF.nil | refine SubF.cons rfl ?_)) (SubM.refl _) (LentAll.refl _ _) ?_
      clear h
      intro k24 a22 b23 h
      unfold ref03_Path_s1 at h
      refine J.seq ?_
      refine J.seq ?_
      refine J.region ?_
      refine J.quiet (Y.move rfl) rfl ?_
      refine J.quiet (Y.move rfl) rfl ?_
      refine J.quiet (Y.lss rfl rfl) rfl ?_
      refine J.done ?_
      refine J.thenN ?_
      refine J.condD (by exact rfl) (fun hp25 => ?_) (fun hp25 => ?_)
      · replace h := ifP hp25 h
        refine J.skip ?_
        refine J.thenN ?_
        refine J.seq ?_
        refine J.midI (A := (List (List (Int × Int)))) (B := List Value) (fun a28 => ref03_Path_k2 a22 (iter (ref03_Path_s1 p0 r6) k24) a28 = some r) (fun a28 b29 => [(0, Value.int .i64 (p0)), (2, Value.pointer (some ⟨b1, 0, none⟩)), (4, Value.pointer (some ⟨b9, 0, none⟩)), (5, Value.int .i64 (a22.1))]) (fun a28 b29 => [Blk b9 [x8.1, x8.2.1] 26, Ar EI64 x8.1 r6.1, Ar Enc.raw x8.2.1 b29, Rws EI64I64p b29 a28, Blk b1 [Value.slice none 0 0, Value.slice none 0 0] 26]) (fun a28 b29 => []) ?_ ?_
        · refine J.block ?_
          refine J.seq ?_
          refine J.midI (A := (List (List (Int × Int)))) (B := List Value) (fun a32 => ref03_Path_k3 p0 a22 (iter (ref03_Path_s1 p0 r6) k24) a32 = some r) (fun a32 b33 => [(0, Value.int .i64 (p0)), (2, Value.pointer (some ⟨b1, 0, none⟩)), (4, Value.pointer (some ⟨b9, 0, none⟩)), (5, Value.int .i64 (a22.1))]) (fun a32 b33 => [Blk b9 [x8.1, x8.2.1] 26, Ar EI64 x8.1 r6.1, Ar Enc.raw x8.2.1 b33, Rws EI64I64p b33 a32, Blk b1 [Value.slice none 0 0, Value.slice none 0 0] 26]) (fun a32 b33 => []) ?_ ?_
          · refine J.seq ?_
            refine J.region ?_
            refine J.quiet (Y.move rfl) rfl ?_
            refine J.quiet (Y.gtr rfl rfl) rfl ?_
            refine J.done ?_
            refine J.thenN ?_
            refine J.condD (by exact rfl) (fun hp43 => ?_) (fun hp43 => ?_)
            · replace h := ifP hp43 h
              refine JR.start [0, 1, 0, 0, 8, 0, 56, 120, 0, 256, 768, 1792, 4088, 8191, 16383] 13 mixedOrders (by decide +kernel) ?_
              refine JR.open (by exact rfl) ?_
              refine JR.qt rfl (SubM.nil) (SubL.nil) (Y.fieldB rfl rfl rfl rfl rfl) HistOk.z ?_
              refine JR.qt rfl (SubM.cons 0 rfl (SubM.nil)) (SubL.nil) (Y.loadB 0 rfl rfl rfl rfl rfl) HistOk.z ?_
              refine JR.qt rfl (SubM.nil) (SubL.nil) (Y.move rfl) HistOk.z ?_
              refine JR.qt rfl (SubM.nil) (SubL.nil) (Y.fieldB rfl rfl rfl rfl rfl) HistOk.z ?_
              refine JR.qt rfl (SubM.cons 0 rfl (SubM.nil)) (SubL.nil) (Y.loadB 0 rfl rfl rfl rfl rfl) HistOk.z ?_
              refine JR.qt rfl (SubM.nil) (SubL.nil) (Y.move rfl) HistOk.z ?_
              replace h := ck_some h; obtain ⟨hc44, h⟩ := h
              refine JR.qt rfl (SubM.cons 2 rfl (SubM.cons 2 rfl (SubM.nil))) (SubL.nil) (Y.indexN rfl rfl (Lent.rows (i := 0) (j := 1) rfl rfl FI64I64p) rfl rfl hc44) HistOk.z ?_
              refine JR.know (Know.rws 3 rfl) fun hl45 => ?_
              refine JR.qt rfl (SubM.cons 2 rfl (SubM.nil)) (SubL.nil) (Y.loadRaw 0 rfl rfl hl45 rfl rfl hc44) HistOk.z ?_
              refine JR.qt rfl (SubM.nil) (SubL.nil) (Y.move rfl) HistOk.z ?_
              refine JR.qt rfl (SubM.nil) (SubL.nil) (Y.subW rfl rfl) HistOk.z ?_
              refine JR.qt rfl (SubM.nil) (SubL.nil) (Y.bld2 (r := Value.agg #[Value.int .i64 (wI .i64 (a22.1 - (1 : Int))), Value.int .i64 (1 : Int)]) rfl rfl (by intro w; simp [Instr.build, Instr.fill, cells_intV, cells_boolV, cells_sliceV, cells_ptrV, cells_strV, cells_funcV, cells_agg])) HistOk.z ?_
              refine JR.loud rfl rfl rfl (Loud.buildS (e := EI64I64p) [(((wI .i64 (a22.1 - (1 : Int))), (1 : Int)))] [(0, Value.agg #[Value.int .i64 (wI .i64 (a22.1 - (1 : Int))), Value.int .i64 (1 : Int)])] rfl rfl rfl rfl (fill_1_2 (Value.int .i64 (wI .i64 (a22.1 - (1 : Int)))) (Value.int .i64 (1 : Int))) rfl rfl rfl) rfl (fun u46 => (BsOk.b rfl (BsOk.b rfl (BsOk.b rfl (BsOk.h (SubM.cons 3 rfl (SubM.nil)) (SubL.nil) (BsOk.h (SubM.cons 3 rfl (SubM.cons 3 rfl (SubM.nil))) (SubL.nil) (BsOk.h (SubM.nil) (SubL.nil) (BsOk.h (SubM.cons 1 rfl (SubM.nil)) (SubL.nil) (BsOk.h (SubM.nil) (SubL.nil) (BsOk.h (SubM.nil) (SubL.nil) (BsOk.h (SubM.cons 1 rfl (SubM.nil)) (SubL.nil) (BsOk.h (SubM.nil) (SubL.nil) BsOk.z)))))))))))) fun u46 => ?_
              replace h := ck_some h; obtain ⟨hc48, h⟩ := h
              refine JR.loud rfl rfl rfl (Loud.appendRowL 4 FI64I64p rfl rfl rfl (Lent.ar (Lent.res 0 rfl) FI64I64p) rfl rfl rfl rfl hc44 hc48 rfl) rfl (fun u47 => (BsOk.b rfl (BsOk.b rfl (BsOk.b rfl (BsOk.b rfl (BsOk.b rfl (BsOk.b rfl (BsOk.b rfl (BsOk.b rfl (BsOk.h (SubM.nil) (SubL.nil) (BsOk.h (SubM.cons 1 rfl (SubM.nil)) (SubL.nil) (BsOk.h (SubM.nil) (SubL.nil) BsOk.z)))))))))))) fun u47 => ?_
              refine JR.tailD 13 rfl rfl ?_
              replace h := ck_some h; obtain ⟨hc49, h⟩ := h
              refine J.know (Know.rws 4 rfl) fun hl50 => ?_
              refine J.quiet (Y.indexA 3 rfl rfl rfl rfl rfl hc49.1 (by have q1 := hc49.2; have q2 := hl50; simp only [List.length_set] at q1 q2; omega)) rfl ?_
              refine J.know (Know.oneRow 4 (k := a22.1) rfl hc49) fun ho51 => ?_
              refine J.storeRow 3 4 ⟨hc49.1, by simpa using hc49.2⟩ rfl rfl rfl rfl rfl (by simp) ho51 rfl ?_
              refine J.done ?_
              refine J.thenN ?_
              exact J.meetI (List.set a22.2 (Int.toNat a22.1) ((at' a22.2 a22.1) ++ ([ ((wI .i64 (a22.1 - (1 : Int))), (1 : Int))]))) (List.set b23 (Int.toNat a22.1) u47) h (by repeat (first | exact SubF.nil | refine SubF.cons rfl ?_)) (SubM.cons 1 rfl (SubM.cons 1 rfl (SubM.cons 1 rfl (SubM.cons 1 rfl (SubM.cons 1 rfl (SubM.nil)))))) (LentAll.refl _ _)
            · replace h := ifN hp43 h
              refine J.skip ?_
              refine J.thenN ?_
              exact J.meetI (a22.2) (b23) h (by repeat (first | exact SubF.nil | refine SubF.cons rfl ?_)) (SubM.refl _) (LentAll.refl _ _)
          · clear h
            intro a32 b33 h
            unfold ref03_Path_k3 at h
            refine J.seq ?_
            refine J.region ?_
            refine J.quiet (Y.move rfl) rfl ?_
            refine J.quiet (Y.move rfl) rfl ?_
            refine J.quiet (Y.subW rfl rfl) rfl ?_
            refine J.quiet (Y.lss rfl rfl) rfl ?_
            refine J.done ?_
            refine J.thenN ?_
            refine J.condD (by exact rfl) (fun hp34 => ?_) (fun hp34 => ?_)
            · replace h := ifP hp34 h
              refine JR.start [0, 1, 0, 0, 8, 0, 56, 120, 0, 256, 768, 1792, 4088, 8191, 16383] 13 mixedOrders (by decide +kernel) ?_
              refine JR.open (by exact rfl) ?_
              refine JR.qt rfl (SubM.nil) (SubL.nil) (Y.fieldB rfl rfl rfl rfl rfl) HistOk.z ?_
              refine JR.qt rfl (SubM.cons 0 rfl (SubM.nil)) (SubL.nil) (Y.loadB 0 rfl rfl rfl rfl rfl) HistOk.z ?_
              refine JR.qt rfl (SubM.nil) (SubL.nil) (Y.move rfl) HistOk.z ?_
              refine JR.qt rfl (SubM.nil) (SubL.nil) (Y.fieldB rfl rfl rfl rfl rfl) HistOk.z ?_
              refine JR.qt rfl (SubM.cons 0 rfl (SubM.nil)) (SubL.nil) (Y.loadB 0 rfl rfl rfl rfl rfl) HistOk.z ?_
              refine JR.qt rfl (SubM.nil) (SubL.nil) (Y.move rfl) HistOk.z ?_
              replace h := ck_some h; obtain ⟨hc35, h⟩ := h
              refine JR.qt rfl (SubM.cons 2 rfl (SubM.cons 2 rfl (SubM.nil))) (SubL.nil) (Y.indexN rfl rfl (Lent.rows (i := 0) (j := 1) rfl rfl FI64I64p) rfl rfl hc35) HistOk.z ?_
              refine JR.know (Know.rws 3 rfl) fun hl36 => ?_
              refine JR.qt rfl (SubM.cons 2 rfl (SubM.nil)) (SubL.nil) (Y.loadRaw 0 rfl rfl hl36 rfl rfl hc35) HistOk.z ?_
              refine JR.qt rfl (SubM.nil) (SubL.nil) (Y.move rfl) HistOk.z ?_
              refine JR.qt rfl (SubM.nil) (SubL.nil) (Y.addW rfl rfl) HistOk.z ?_
              refine JR.qt rfl (SubM.nil) (SubL.nil) (Y.bld2 (r := Value.agg #[Value.int .i64 (wI .i64 (a22.1 + (1 : Int))), Value.int .i64 (1 : Int)]) rfl rfl (by intro w; simp [Instr.build, Instr.fill, cells_intV, cells_boolV, cells_sliceV, cells_ptrV, cells_strV, cells_funcV, cells_agg])) HistOk.z ?_
              refine JR.loud rfl rfl rfl (Loud.buildS (e := EI64I64p) [(((wI .i64 (a22.1 + (1 : Int))), (1 : Int)))] [(0, Value.agg #[Value.int .i64 (wI .i64 (a22.1 + (1 : Int))), Value.int .i64 (1 : Int)])] rfl rfl rfl rfl (fill_1_2 (Value.int .i64 (wI .i64 (a22.1 + (1 : Int)))) (Value.int .i64 (1 : Int))) rfl rfl rfl) rfl (fun u37 => (BsOk.b rfl (BsOk.b rfl (BsOk.b rfl (BsOk.h (SubM.cons 3 rfl (SubM.nil)) (SubL.nil) (BsOk.h (SubM.cons 3 rfl (SubM.cons 3 rfl (SubM.nil))) (SubL.nil) (BsOk.h (SubM.nil) (SubL.nil) (BsOk.h (SubM.cons 1 rfl (SubM.nil)) (SubL.nil) (BsOk.h (SubM.nil) (SubL.nil) (BsOk.h (SubM.nil) (SubL.nil) (BsOk.h (SubM.cons 1 rfl (SubM.nil)) (SubL.nil) (BsOk.h (SubM.nil) (SubL.nil) BsOk.z)))))))))))) fun u37 => ?_
              replace h := ck_some h; obtain ⟨hc39, h⟩ := h
              refine JR.loud rfl rfl rfl (Loud.appendRowL 4 FI64I64p rfl rfl rfl (Lent.ar (Lent.res 0 rfl) FI64I64p) rfl rfl rfl rfl hc35 hc39 rfl) rfl (fun u38 => (BsOk.b rfl (BsOk.b rfl (BsOk.b rfl (BsOk.b rfl (BsOk.b rfl (BsOk.b rfl (BsOk.b rfl (BsOk.b rfl (BsOk.h (SubM.nil) (SubL.nil) (BsOk.h (SubM.cons 1 rfl (SubM.nil)) (SubL.nil) (BsOk.h (SubM.nil) (SubL.nil) BsOk.z)))))))))))) fun u38 => ?_
              refine JR.tailD 13 rfl rfl ?_
              replace h := ck_some h; obtain ⟨hc40, h⟩ := h
              refine J.know (Know.rws 4 rfl) fun hl41 => ?_
              refine J.quiet (Y.indexA 3 rfl rfl rfl rfl rfl hc40.1 (by have q1 := hc40.2; have q2 := hl41; simp only [List.length_set] at q1 q2; omega)) rfl ?_
              refine J.know (Know.oneRow 4 (k := a22.1) rfl hc40) fun ho42 => ?_
              refine J.storeRow 3 4 ⟨hc40.1, by simpa using hc40.2⟩ rfl rfl rfl rfl rfl (by simp) ho42 rfl ?_
              refine J.done ?_
              refine J.inN ?_
              refine J.thenN ?_
              exact J.meetI (List.set a32 (Int.toNat a22.1) ((at' a32 a22.1) ++ ([ ((wI .i64 (a22.1 + (1 : Int))), (1 : Int))]))) (List.set b33 (Int.toNat a22.1) u38) h (by repeat (first | exact SubF.nil | refine SubF.cons rfl ?_)) (SubM.cons 1 rfl (SubM.cons 1 rfl (SubM.cons 1 rfl (SubM.cons 1 rfl (SubM.cons 1 rfl (SubM.nil)))))) (LentAll.refl _ _)
            · replace h := ifN hp34 h
              refine J.skip ?_
              refine J.inN ?_
              refine J.thenN ?_
              exact J.meetI (a32) (b33) h (by repeat (first | exact SubF.nil | refine SubF.cons rfl ?_)) (SubM.refl _) (LentAll.refl _ _)
        · clear h
          intro a28 b29 h
          unfold ref03_Path_k2 at h
          refine J.region ?_
          refine J.quiet (Y.move rfl) rfl ?_
          refine J.quiet (Y.addW rfl rfl) rfl ?_
          refine J.quiet (Y.assign rfl) rfl ?_
          refine J.done ?_
          refine J.thenN ?_
          exact J.againI ((wI .i64 (a22.1 + (1 : Int))), a28) (b29) h (by repeat (first | exact SubF.nil | refine SubF.cons rfl ?_)) (SubM.refl _) (LentAll.refl _ _)
      · replace h := ifN hp25 h
        refine J.exit ?_
        refine J.thenX ?_
        refine J.thenX ?_
        refine J.inX ?_
        refine J.thenN ?_
        exact J.meetI (a22.2) (b23) h (by repeat (first | exact SubF.nil | refine SubF.cons rfl ?_)) (SubM.refl _) (LentAll.refl _ _)
    · clear h
      intro a14 b15 h
      unfold ref03_Path_k1 at h
      refine J.seq ?_
      refine J.region ?_
      refine J.quiet (Y.loadBAll 0 rfl rfl rfl rfl) rfl ?_
      refine J.know (Know.one ((Lent.ar (Lent.res 1 rfl) FI64))) fun ho16 => ?_
      refine J.know (Know.one (Lent.sl (Lent.rows (i := 2) (j := 3) rfl rfl FI64I64p))) fun ho17 => ?_
      refine J.storeAll 4 (vs := [x8.1, x8.2.1]) rfl rfl (all1 ho16 (all1 ho17 rfl)) rfl rfl rfl ?_
      refine J.quiet (Y.assign rfl) rfl ?_
      refine J.done ?_
      refine J.thenN ?_
      refine J.ret ?_
      obtain rfl := Option.some.inj h
      exact J.retG2 (x8.1, x8.2.1, b15) rfl rfl (RV.cell 4 rfl rfl rfl rfl) (RV.tmp rfl) (SubM.cons 1 rfl (SubM.cons 1 rfl (SubM.cons 1 rfl (SubM.nil)))) LentAll.nil

end Go.Proofs.Ytemhmmcakmidkaa
