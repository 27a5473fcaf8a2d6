/- The model of family.empty and the proof that the function meets it, by program (gen/xt.py). Conditions: none. -/
import Derived.Test.YtemhmmcakmidkaaXp
namespace Go.Proofs.Ytemhmmcakmidkaa
open Go.Sx

def family_empty_k2 (p0 : Int) (a8 : List (Int)) : Option ((List (Int) × (List (List (Int × Int))))) :=
  some ((a8, (List.replicate (Int.toNat p0) ([] : List (Int × Int)))))
def family_empty_s1 (p0 : Int) (a15 : Int × List (Int)) (ag14 : (Int × List (Int)) → Option ((List (Int) × (List (List (Int × Int)))))) : Option ((List (Int) × (List (List (Int × Int))))) :=
  if a15.1 < (List.length (List.replicate (Int.toNat p0) (0 : Int)) : Int) then (ck (0 ≤ a15.1 ∧ a15.1 < (List.length a15.2 : Int)) (ag14 ((wI .i64 (a15.1 + (1 : Int))), (List.set a15.2 (Int.toNat a15.1) a15.1)))) else (family_empty_k2 p0 (a15.2))
def family_empty_k1 (fuel : Nat) (p0 : Int) (a5 : Unit) : Option ((List (Int) × (List (List (Int × Int))))) :=
  iter (family_empty_s1 p0) fuel ((0 : Int), (List.replicate (Int.toNat p0) (0 : Int)))
def m_family_empty (fuel : Nat) (p0 : Int) : Option ((List (Int) × (List (List (Int × Int))))) :=
  ck (0 ≤ p0 ∧ p0 ≤ 1099511627) (ck (0 ≤ p0 ∧ p0 ≤ 1099511627) (family_empty_k1 fuel p0 (())))

theorem body71 : HasBody Try.prog 71 := Try.call71

set_option maxHeartbeats 4000000 in
set_option maxRecDepth 20000 in
theorem t_family_empty (fuel : Nat) {p0 : Int} (r : (List (Int) × (List (List (Int × Int))))) (h : m_family_empty fuel p0 = some r) :
    Meets Try.prog 71 #[Value.int .i64 (p0)] [] (fun x : Value × Value × List Value => Value.agg #[x.1, x.2.1]) (fun x l => Ar EI64 x.1 r.1 :: Ar Enc.raw x.2.1 x.2.2 :: Rws EI64I64p x.2.2 r.2 :: l) (fun _ l => l) := by
  refine Meets.of (vs := [Value.int .i64 (p0)]) Try.func71 rfl Try.ntmps71 rfl fun c => ?_
  unfold m_family_empty at h
  refine J.seq ?_
  refine J.region ?_
  refine J.loud (Loud.alloc (cs := [Value.slice none 0 0, Value.slice none 0 0]) rfl rfl) rfl fun b1 => ?_
  refine J.done ?_
  refine J.thenN ?_
  refine J.seq ?_
  refine J.midI (A := Unit) (B := Nat × Value × Value) (fun a5 => family_empty_k1 fuel p0 a5 = some r) (fun a5 b6 => [(2, Value.pointer (some ⟨b1, 0, none⟩)), (3, Value.pointer (some ⟨b6.1, 0, none⟩))]) (fun a5 b6 => [Blk b6.1 [b6.2.1, b6.2.2] 26, Ar Enc.raw b6.2.2 (List.replicate (Int.toNat p0) (Value.slice none 0 0)), Rws EI64I64p (List.replicate (Int.toNat p0) (Value.slice none 0 0)) (List.replicate (Int.toNat p0) ([] : List (Int × Int))), Ar EI64 b6.2.1 (List.replicate (Int.toNat p0) (0 : Int)), Blk b1 [Value.slice none 0 0, Value.slice none 0 0] 26]) (fun a5 b6 => []) ?_ ?_
  · replace h := ck_some h; obtain ⟨hc20, h⟩ := h
    replace h := ck_some h; obtain ⟨hc22, h⟩ := h
    refine JR.orders [0, 1, 0, 4, 15, 0, 63] 6 [[0, 2, 1, 3, 4, 5, 6], [0, 2, 1, 5, 3, 4, 6], [0, 2, 3, 1, 4, 5, 6], [0, 2, 3, 5, 1, 4, 6], [0, 2, 5, 1, 3, 4, 6], [0, 2, 5, 3, 1, 4, 6]] mixedOrders (by decide +kernel) (by decide +kernel) ?_
    intro o ho
    simp only [List.mem_cons, List.not_mem_nil, or_false] at ho
    rcases ho with rfl | rfl | rfl | rfl | rfl | rfl
    · refine JR.qt rfl (SubM.nil) (SubL.nil) (Y.move rfl) HistOk.z ?_
      refine JR.qt rfl (SubM.nil) (SubL.nil) (Y.move rfl) HistOk.z ?_
      refine JR.loud rfl rfl rfl (Loud.makeS (e := EI64) (0 : Int) rfl rfl rfl rfl hc20 rfl rfl rfl) rfl (fun u29 => (BsOk.h (SubM.nil) (SubL.nil) (BsOk.b rfl BsOk.z))) fun u29 => ?_
      refine JR.stp (Stp.rowsNew EI64I64p (Int.toNat p0)) ?_
      refine JR.loud rfl rfl rfl (Loud.makeS (e := Enc.raw) (Value.slice none 0 0) rfl rfl rfl rfl hc22 rfl rfl rfl) rfl (fun u30 => (BsOk.b rfl (BsOk.h (SubM.nil) (SubL.nil) BsOk.z))) fun u30 => ?_
      refine JR.know (Know.one ((Lent.ar (Lent.res 2 rfl) FI64))) fun ho31 => ?_
      refine JR.know (Know.one (Lent.sl (Lent.rows (i := 0) (j := 1) rfl rfl FI64I64p))) fun ho32 => ?_
      refine JR.qt rfl (SubM.nil) (SubL.nil) (Y.bld2 (r := Value.agg #[u29, u30]) rfl rfl (by intro w; simp [Instr.build, Instr.fill, cells_intV, cells_boolV, cells_sliceV, cells_ptrV, cells_strV, cells_funcV, cells_agg, one_cells ho31, one_cells ho32])) (HistOk.b rfl (HistOk.b rfl HistOk.z)) ?_
      refine JR.loud rfl rfl rfl (Loud.alloc (cs := [Value.slice none 0 0, Value.slice none 0 0]) rfl rfl) rfl (fun b33 => (BsOk.h (SubM.nil) (SubL.nil) (BsOk.h (SubM.nil) (SubL.nil) (BsOk.h (SubM.nil) (SubL.nil) BsOk.z)))) fun b33 => ?_
      refine JR.tailD 6 rfl rfl ?_
      refine J.know (Know.one ((Lent.ar (Lent.res 3 rfl) FI64))) fun ho34 => ?_
      refine J.know (Know.one (Lent.sl (Lent.rows (i := 1) (j := 2) rfl rfl FI64I64p))) fun ho35 => ?_
      refine J.storeAll 0 (vs := [u29, u30]) rfl rfl (all1 ho34 (all1 ho35 rfl)) rfl rfl rfl ?_
      refine J.done ?_
      refine J.thenN ?_
      exact J.meetI (()) (b33, u29, u30) h (by repeat (first | exact SubF.nil | refine SubF.cons rfl ?_)) (SubM.refl _) (LentAll.refl _ _)
    · refine JR.qt rfl (SubM.nil) (SubL.nil) (Y.move rfl) HistOk.z ?_
      refine JR.qt rfl (SubM.nil) (SubL.nil) (Y.move rfl) HistOk.z ?_
      refine JR.loud rfl rfl rfl (Loud.makeS (e := EI64) (0 : Int) rfl rfl rfl rfl hc20 rfl rfl rfl) rfl (fun u36 => (BsOk.h (SubM.nil) (SubL.nil) (BsOk.b rfl BsOk.z))) fun u36 => ?_
      refine JR.loud rfl rfl rfl (Loud.alloc (cs := [Value.slice none 0 0, Value.slice none 0 0]) rfl rfl) rfl (fun b37 => (BsOk.h (SubM.nil) (SubL.nil) (BsOk.h (SubM.nil) (SubL.nil) BsOk.z))) fun b37 => ?_
      refine JR.stp (Stp.rowsNew EI64I64p (Int.toNat p0)) ?_
      refine JR.loud rfl rfl rfl (Loud.makeS (e := Enc.raw) (Value.slice none 0 0) rfl rfl rfl rfl hc22 rfl rfl rfl) rfl (fun u38 => (BsOk.b rfl (BsOk.h (SubM.nil) (SubL.nil) BsOk.z))) fun u38 => ?_
      refine JR.know (Know.one ((Lent.ar (Lent.res 3 rfl) FI64))) fun ho39 => ?_
      refine JR.know (Know.one (Lent.sl (Lent.rows (i := 0) (j := 1) rfl rfl FI64I64p))) fun ho40 => ?_
      refine JR.qt rfl (SubM.nil) (SubL.nil) (Y.bld2 (r := Value.agg #[u36, u38]) rfl rfl (by intro w; simp [Instr.build, Instr.fill, cells_intV, cells_boolV, cells_sliceV, cells_ptrV, cells_strV, cells_funcV, cells_agg, one_cells ho39, one_cells ho40])) (HistOk.b rfl (HistOk.h (SubM.nil) (SubL.nil) (HistOk.b rfl HistOk.z))) ?_
      refine JR.tailD 6 rfl rfl ?_
      refine J.know (Know.one ((Lent.ar (Lent.res 3 rfl) FI64))) fun ho41 => ?_
      refine J.know (Know.one (Lent.sl (Lent.rows (i := 0) (j := 1) rfl rfl FI64I64p))) fun ho42 => ?_
      refine J.storeAll 2 (vs := [u36, u38]) rfl rfl (all1 ho41 (all1 ho42 rfl)) rfl rfl rfl ?_
      refine J.done ?_
      refine J.thenN ?_
      exact J.meetI (()) (b37, u36, u38) h (by repeat (first | exact SubF.nil | refine SubF.cons rfl ?_)) (SubM.cons 2 rfl (SubM.cons 0 rfl (SubM.cons 0 rfl (SubM.cons 0 rfl (SubM.cons 0 rfl (SubM.nil)))))) (LentAll.refl _ _)
    · refine JR.qt rfl (SubM.nil) (SubL.nil) (Y.move rfl) HistOk.z ?_
      refine JR.qt rfl (SubM.nil) (SubL.nil) (Y.move rfl) HistOk.z ?_
      refine JR.stp (Stp.rowsNew EI64I64p (Int.toNat p0)) ?_
      refine JR.loud rfl rfl rfl (Loud.makeS (e := Enc.raw) (Value.slice none 0 0) rfl rfl rfl rfl hc22 rfl rfl rfl) rfl (fun u43 => (BsOk.b rfl (BsOk.h (SubM.nil) (SubL.nil) BsOk.z))) fun u43 => ?_
      refine JR.loud rfl rfl rfl (Loud.makeS (e := EI64) (0 : Int) rfl rfl rfl rfl hc20 rfl rfl rfl) rfl (fun u44 => (BsOk.h (SubM.nil) (SubL.nil) (BsOk.b rfl BsOk.z))) fun u44 => ?_
      refine JR.know (Know.one ((Lent.ar (Lent.res 0 rfl) FI64))) fun ho45 => ?_
      refine JR.know (Know.one (Lent.sl (Lent.rows (i := 1) (j := 2) rfl rfl FI64I64p))) fun ho46 => ?_
      refine JR.qt rfl (SubM.nil) (SubL.nil) (Y.bld2 (r := Value.agg #[u44, u43]) rfl rfl (by intro w; simp [Instr.build, Instr.fill, cells_intV, cells_boolV, cells_sliceV, cells_ptrV, cells_strV, cells_funcV, cells_agg, one_cells ho45, one_cells ho46])) (HistOk.b rfl (HistOk.b rfl HistOk.z)) ?_
      refine JR.loud rfl rfl rfl (Loud.alloc (cs := [Value.slice none 0 0, Value.slice none 0 0]) rfl rfl) rfl (fun b47 => (BsOk.h (SubM.nil) (SubL.nil) (BsOk.h (SubM.nil) (SubL.nil) (BsOk.h (SubM.nil) (SubL.nil) BsOk.z)))) fun b47 => ?_
      refine JR.tailD 6 rfl rfl ?_
      refine J.know (Know.one ((Lent.ar (Lent.res 1 rfl) FI64))) fun ho48 => ?_
      refine J.know (Know.one (Lent.sl (Lent.rows (i := 2) (j := 3) rfl rfl FI64I64p))) fun ho49 => ?_
      refine J.storeAll 0 (vs := [u44, u43]) rfl rfl (all1 ho48 (all1 ho49 rfl)) rfl rfl rfl ?_
      refine J.done ?_
      refine J.thenN ?_
      exact J.meetI (()) (b47, u44, u43) h (by repeat (first | exact SubF.nil | refine SubF.cons rfl ?_)) (SubM.cons 0 rfl (SubM.cons 1 rfl (SubM.cons 1 rfl (SubM.cons 0 rfl (SubM.cons 0 rfl (SubM.nil)))))) (LentAll.refl _ _)
    · refine JR.qt rfl (SubM.nil) (SubL.nil) (Y.move rfl) HistOk.z ?_
      refine JR.qt rfl (SubM.nil) (SubL.nil) (Y.move rfl) HistOk.z ?_
      refine JR.stp (Stp.rowsNew EI64I64p (Int.toNat p0)) ?_
      refine JR.loud rfl rfl rfl (Loud.makeS (e := Enc.raw) (Value.slice none 0 0) rfl rfl rfl rfl hc22 rfl rfl rfl) rfl (fun u50 => (BsOk.b rfl (BsOk.h (SubM.nil) (SubL.nil) BsOk.z))) fun u50 => ?_
      refine JR.loud rfl rfl rfl (Loud.alloc (cs := [Value.slice none 0 0, Value.slice none 0 0]) rfl rfl) rfl (fun b51 => (BsOk.h (SubM.nil) (SubL.nil) (BsOk.h (SubM.nil) (SubL.nil) BsOk.z))) fun b51 => ?_
      refine JR.loud rfl rfl rfl (Loud.makeS (e := EI64) (0 : Int) rfl rfl rfl rfl hc20 rfl rfl rfl) rfl (fun u52 => (BsOk.h (SubM.nil) (SubL.nil) (BsOk.b rfl BsOk.z))) fun u52 => ?_
      refine JR.know (Know.one ((Lent.ar (Lent.res 0 rfl) FI64))) fun ho53 => ?_
      refine JR.know (Know.one (Lent.sl (Lent.rows (i := 2) (j := 3) rfl rfl FI64I64p))) fun ho54 => ?_
      refine JR.qt rfl (SubM.nil) (SubL.nil) (Y.bld2 (r := Value.agg #[u52, u50]) rfl rfl (by intro w; simp [Instr.build, Instr.fill, cells_intV, cells_boolV, cells_sliceV, cells_ptrV, cells_strV, cells_funcV, cells_agg, one_cells ho53, one_cells ho54])) (HistOk.b rfl (HistOk.h (SubM.nil) (SubL.nil) (HistOk.b rfl HistOk.z))) ?_
      refine JR.tailD 6 rfl rfl ?_
      refine J.know (Know.one ((Lent.ar (Lent.res 0 rfl) FI64))) fun ho55 => ?_
      refine J.know (Know.one (Lent.sl (Lent.rows (i := 2) (j := 3) rfl rfl FI64I64p))) fun ho56 => ?_
      refine J.storeAll 1 (vs := [u52, u50]) rfl rfl (all1 ho55 (all1 ho56 rfl)) rfl rfl rfl ?_
      refine J.done ?_
      refine J.thenN ?_
      exact J.meetI (()) (b51, u52, u50) h (by repeat (first | exact SubF.nil | refine SubF.cons rfl ?_)) (SubM.cons 1 rfl (SubM.cons 1 rfl (SubM.cons 1 rfl (SubM.cons 0 rfl (SubM.cons 0 rfl (SubM.nil)))))) (LentAll.refl _ _)
    · refine JR.qt rfl (SubM.nil) (SubL.nil) (Y.move rfl) HistOk.z ?_
      refine JR.qt rfl (SubM.nil) (SubL.nil) (Y.move rfl) HistOk.z ?_
      refine JR.loud rfl rfl rfl (Loud.alloc (cs := [Value.slice none 0 0, Value.slice none 0 0]) rfl rfl) rfl (fun b57 => (BsOk.h (SubM.nil) (SubL.nil) (BsOk.h (SubM.nil) (SubL.nil) BsOk.z))) fun b57 => ?_
      refine JR.loud rfl rfl rfl (Loud.makeS (e := EI64) (0 : Int) rfl rfl rfl rfl hc20 rfl rfl rfl) rfl (fun u58 => (BsOk.h (SubM.nil) (SubL.nil) (BsOk.b rfl BsOk.z))) fun u58 => ?_
      refine JR.stp (Stp.rowsNew EI64I64p (Int.toNat p0)) ?_
      refine JR.loud rfl rfl rfl (Loud.makeS (e := Enc.raw) (Value.slice none 0 0) rfl rfl rfl rfl hc22 rfl rfl rfl) rfl (fun u59 => (BsOk.b rfl (BsOk.h (SubM.nil) (SubL.nil) BsOk.z))) fun u59 => ?_
      refine JR.know (Know.one ((Lent.ar (Lent.res 2 rfl) FI64))) fun ho60 => ?_
      refine JR.know (Know.one (Lent.sl (Lent.rows (i := 0) (j := 1) rfl rfl FI64I64p))) fun ho61 => ?_
      refine JR.qt rfl (SubM.nil) (SubL.nil) (Y.bld2 (r := Value.agg #[u58, u59]) rfl rfl (by intro w; simp [Instr.build, Instr.fill, cells_intV, cells_boolV, cells_sliceV, cells_ptrV, cells_strV, cells_funcV, cells_agg, one_cells ho60, one_cells ho61])) (HistOk.b rfl (HistOk.b rfl (HistOk.h (SubM.nil) (SubL.nil) HistOk.z))) ?_
      refine JR.tailD 6 rfl rfl ?_
      refine J.know (Know.one ((Lent.ar (Lent.res 2 rfl) FI64))) fun ho62 => ?_
      refine J.know (Know.one (Lent.sl (Lent.rows (i := 0) (j := 1) rfl rfl FI64I64p))) fun ho63 => ?_
      refine J.storeAll 3 (vs := [u58, u59]) rfl rfl (all1 ho62 (all1 ho63 rfl)) rfl rfl rfl ?_
      refine J.done ?_
      refine J.thenN ?_
      exact J.meetI (()) (b57, u58, u59) h (by repeat (first | exact SubF.nil | refine SubF.cons rfl ?_)) (SubM.cons 3 rfl (SubM.cons 0 rfl (SubM.cons 0 rfl (SubM.cons 0 rfl (SubM.cons 0 rfl (SubM.nil)))))) (LentAll.refl _ _)
    · refine JR.qt rfl (SubM.nil) (SubL.nil) (Y.move rfl) HistOk.z ?_
      refine JR.qt rfl (SubM.nil) (SubL.nil) (Y.move rfl) HistOk.z ?_
      refine JR.loud rfl rfl rfl (Loud.alloc (cs := [Value.slice none 0 0, Value.slice none 0 0]) rfl rfl) rfl (fun b64 => (BsOk.h (SubM.nil) (SubL.nil) (BsOk.h (SubM.nil) (SubL.nil) BsOk.z))) fun b64 => ?_
      refine JR.stp (Stp.rowsNew EI64I64p (Int.toNat p0)) ?_
      refine JR.loud rfl rfl rfl (Loud.makeS (e := Enc.raw) (Value.slice none 0 0) rfl rfl rfl rfl hc22 rfl rfl rfl) rfl (fun u65 => (BsOk.b rfl (BsOk.h (SubM.nil) (SubL.nil) BsOk.z))) fun u65 => ?_
      refine JR.loud rfl rfl rfl (Loud.makeS (e := EI64) (0 : Int) rfl rfl rfl rfl hc20 rfl rfl rfl) rfl (fun u66 => (BsOk.h (SubM.nil) (SubL.nil) (BsOk.b rfl BsOk.z))) fun u66 => ?_
      refine JR.know (Know.one ((Lent.ar (Lent.res 0 rfl) FI64))) fun ho67 => ?_
      refine JR.know (Know.one (Lent.sl (Lent.rows (i := 1) (j := 2) rfl rfl FI64I64p))) fun ho68 => ?_
      refine JR.qt rfl (SubM.nil) (SubL.nil) (Y.bld2 (r := Value.agg #[u66, u65]) rfl rfl (by intro w; simp [Instr.build, Instr.fill, cells_intV, cells_boolV, cells_sliceV, cells_ptrV, cells_strV, cells_funcV, cells_agg, one_cells ho67, one_cells ho68])) (HistOk.b rfl (HistOk.b rfl (HistOk.h (SubM.nil) (SubL.nil) HistOk.z))) ?_
      refine JR.tailD 6 rfl rfl ?_
      refine J.know (Know.one ((Lent.ar (Lent.res 0 rfl) FI64))) fun ho69 => ?_
      refine J.know (Know.one (Lent.sl (Lent.rows (i := 1) (j := 2) rfl rfl FI64I64p))) fun ho70 => ?_
      refine J.storeAll 3 (vs := [u66, u65]) rfl rfl (all1 ho69 (all1 ho70 rfl)) rfl rfl rfl ?_
      refine J.done ?_
      refine J.thenN ?_
      exact J.meetI (()) (b64, u66, u65) h (by repeat (first | exact SubF.nil | refine SubF.cons rfl ?_)) (SubM.cons 3 rfl (SubM.cons 1 rfl (SubM.cons 1 rfl (SubM.cons 0 rfl (SubM.cons 0 rfl (SubM.nil)))))) (LentAll.refl _ _)
  · clear h
    intro a5 b6 h
    unfold family_empty_k1 at h
    refine J.seq ?_
    refine J.midI (A := List (Int)) (B := Unit) (fun a8 => family_empty_k2 p0 a8 = some r) (fun a8 b9 => [(2, Value.pointer (some ⟨b1, 0, none⟩)), (3, Value.pointer (some ⟨b6.1, 0, none⟩))]) (fun a8 b9 => [Blk b6.1 [b6.2.1, b6.2.2] 26, Ar Enc.raw b6.2.2 (List.replicate (Int.toNat p0) (Value.slice none 0 0)), Rws EI64I64p (List.replicate (Int.toNat p0) (Value.slice none 0 0)) (List.replicate (Int.toNat p0) ([] : List (Int × Int))), Ar EI64 b6.2.1 a8, Blk b1 [Value.slice none 0 0, Value.slice none 0 0] 26]) (fun a8 b9 => []) ?_ ?_
    · refine J.seq ?_
      refine J.region ?_
      refine J.quiet (Y.fieldB rfl rfl rfl rfl rfl) rfl ?_
      refine J.quiet (Y.loadB 0 rfl rfl rfl rfl rfl) rfl ?_
      refine J.quiet (Y.lenS rfl (Lent.ar (Lent.res 3 rfl) FI64) rfl) rfl ?_
      refine J.quiet (Y.move rfl) rfl ?_
      refine J.done ?_
      refine J.thenN ?_
      refine J.block ?_
      refine J.loopI (A := Int × List (Int)) (B := Unit) (family_empty_s1 p0) (fun a15 b16 => [(2, Value.pointer (some ⟨b1, 0, none⟩)), (3, Value.pointer (some ⟨b6.1, 0, none⟩)), (12, Value.int .i64 (List.length (List.replicate (Int.toNat p0) (0 : Int)) : Int)), (13, Value.int .i64 (a15.1))]) (fun a15 b16 => [Blk b6.1 [b6.2.1, b6.2.2] 26, Ar Enc.raw b6.2.2 (List.replicate (Int.toNat p0) (Value.slice none 0 0)), Rws EI64I64p (List.replicate (Int.toNat p0) (Value.slice none 0 0)) (List.replicate (Int.toNat p0) ([] : List (Int × Int))), Ar EI64 b6.2.1 a15.2, Blk b1 [Value.slice none 0 0, Value.slice none 0 0] 26]) (fun a15 b16 => []) ((0 : Int), (List.replicate (Int.toNat p0) (0 : Int))) (()) h (by repeat (first | exact SubF.nil | refine SubF.cons rfl ?_)) (SubM.refl _) (LentAll.refl _ _) ?_
      clear h
      intro k17 a15 b16 h
      unfold family_empty_s1 at h
      refine J.seq ?_
      refine J.region ?_
      refine J.quiet (Y.lss rfl rfl) rfl ?_
      refine J.done ?_
      refine J.thenN ?_
      refine J.seq ?_
      refine J.condD (by exact rfl) (fun hp18 => ?_) (fun hp18 => ?_)
      · replace h := ifP hp18 h
        refine J.skip ?_
        refine J.thenN ?_
        refine J.seq ?_
        refine J.block ?_
        refine J.seq ?_
        refine J.region ?_
        refine J.quiet (Y.move rfl) rfl ?_
        refine J.quiet (Y.assign rfl) rfl ?_
        refine J.done ?_
        refine J.thenN ?_
        refine J.region ?_
        refine J.quiet (Y.fieldB rfl rfl rfl rfl rfl) rfl ?_
        refine J.quiet (Y.loadB 0 rfl rfl rfl rfl rfl) rfl ?_
        refine J.quiet (Y.move rfl) rfl ?_
        refine J.quiet (Y.move rfl) rfl ?_
        replace h := ck_some h; obtain ⟨hc19, h⟩ := h
        refine J.quiet (Y.indexS rfl rfl (Lent.ar (Lent.res 3 rfl) FI64) rfl rfl hc19) rfl ?_
        refine J.storeS 3 a15.1 hc19 rfl rfl rfl rfl rfl rfl rfl ?_
        refine J.done ?_
        refine J.inN ?_
        refine J.thenN ?_
        refine J.region ?_
        refine J.quiet (Y.addW rfl rfl) rfl ?_
        refine J.quiet (Y.move rfl) rfl ?_
        refine J.done ?_
        refine J.thenN ?_
        exact J.againI ((wI .i64 (a15.1 + (1 : Int))), (List.set a15.2 (Int.toNat a15.1) a15.1)) (()) h (by repeat (first | exact SubF.nil | refine SubF.cons rfl ?_)) (SubM.refl _) (LentAll.refl _ _)
      · replace h := ifN hp18 h
        refine J.exit ?_
        refine J.thenX ?_
        refine J.thenX ?_
        refine J.inX ?_
        refine J.thenN ?_
        exact J.meetI (a15.2) (()) h (by repeat (first | exact SubF.nil | refine SubF.cons rfl ?_)) (SubM.refl _) (LentAll.refl _ _)
    · clear h
      intro a8 b9 h
      unfold family_empty_k2 at h
      refine J.seq ?_
      refine J.region ?_
      refine J.quiet (Y.loadBAll 0 rfl rfl rfl rfl) rfl ?_
      refine J.know (Know.one ((Lent.ar (Lent.res 3 rfl) FI64))) fun ho10 => ?_
      refine J.know (Know.one (Lent.sl (Lent.rows (i := 1) (j := 2) rfl rfl FI64I64p))) fun ho11 => ?_
      refine J.storeAll 4 (vs := [b6.2.1, b6.2.2]) rfl rfl (all1 ho10 (all1 ho11 rfl)) rfl rfl rfl ?_
      refine J.done ?_
      refine J.thenN ?_
      refine J.ret ?_
      obtain rfl := Option.some.inj h
      exact J.retG1 (b6.2.1, b6.2.2, (List.replicate (Int.toNat p0) (Value.slice none 0 0))) rfl rfl (RV.cell 4 rfl rfl rfl rfl) (SubM.cons 3 rfl (SubM.cons 1 rfl (SubM.cons 1 rfl (SubM.nil)))) LentAll.nil

end Go.Proofs.Ytemhmmcakmidkaa
