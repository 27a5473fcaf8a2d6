/- Models of functions with their proofs, by program (gen/xt.py), and plain laws, in one text. Conditions: none. -/
import Derived.Test.YtmajgimhmfeliaaZLCo1
import Derived.Test.YtmajgimhmfeliaaXp
import Derived.Test.YtmajgimhmfeliaaSxx
section
set_option linter.unusedVariables false
set_option linter.unusedSimpArgs false
namespace Go.Proofs.Ytmajgimhmfeliaa
open Go.Sx
set_option linter.unusedVariables false
set_option linter.unusedSimpArgs false
def labels_cover_k6  (a24 : (List (Int × Int))) : Option ((List (Int × Int)) × Bool) :=
  some (a24, true)
def labels_cover_s1 (a19 : List (Int)) (a29 : Int × (List (Int × Int))) (ag28 : (Int × (List (Int × Int))) → Option ((List (Int × Int)) × Bool)) : Option ((List (Int × Int)) × Bool) :=
  if a29.1 < (List.length a19 : Int) then (ck (0 ≤ a29.1 ∧ a29.1 < (List.length a19 : Int)) (ck (0 ≤ a29.1 ∧ a29.1 < (List.length a29.2 : Int)) (ag28 ((wI .i64 (a29.1 + (1 : Int))), (List.set a29.2 (Int.toNat a29.1) ((at' a19 a29.1), ((at' a29.2 a29.1).2))))))) else (labels_cover_k6  (a29.2))
def labels_cover_k5 (fuel : Nat) (p1 : List (Int)) (a19 : List (Int)) : Option ((List (Int × Int)) × Bool) :=
  ck (0 ≤ (List.length p1 : Int) ∧ (List.length p1 : Int) ≤ 1099511627) (iter (labels_cover_s1 a19) fuel ((0 : Int), (List.replicate (Int.toNat (List.length p1 : Int)) ((0 : Int), (0 : Int)))))
def labels_cover_k7 (a40 : Int × List (Int)) (ag39 : (Int × List (Int)) → Option ((List (Int × Int)) × Bool)) (a47 : Bool × List (Int)) : Option ((List (Int × Int)) × Bool) :=
  if a47.1 = true then (some (([] : List (Int × Int)), false)) else (ag39 ((wI .i64 (a40.1 + (1 : Int))), a47.2))
def labels_cover_s2 (fuel : Nat) (p0 : List (Int) × (List (List (Int × Int)))) (p1 : List (Int)) (a9 : List (Int) × List (Int)) (a40 : Int × List (Int)) (ag39 : (Int × List (Int)) → Option ((List (Int × Int)) × Bool)) : Option ((List (Int × Int)) × Bool) :=
  if a40.1 < (List.length p1 : Int) then (ck (0 ≤ a40.1 ∧ a40.1 < (List.length a40.2 : Int)) (if (at' a40.2 a40.1) = (-1 : Int) then (Option.bind (m___labels_coverer__set fuel ((((p0.1, p0.2)), a9.2, a40.2)) a40.1 (0 : Int)) fun r52 => (if (!r52.1) = true then (Option.bind (m___labels_coverer__set fuel ((((p0.1, p0.2)), a9.2, r52.2)) a40.1 (1 : Int)) fun r56 => (labels_cover_k7 a40 ag39 (((!r56.1)), r56.2))) else (labels_cover_k7 a40 ag39 (false, r52.2)))) else (labels_cover_k7 a40 ag39 (false, a40.2)))) else (labels_cover_k5 fuel p1 (a40.2))
def labels_cover_k4 (fuel : Nat) (p0 : List (Int) × (List (List (Int × Int)))) (p1 : List (Int)) (a9 : List (Int) × List (Int)) (a15 : List (Int)) : Option ((List (Int × Int)) × Bool) :=
  iter (labels_cover_s2 fuel p0 p1 a9) fuel ((0 : Int), a15)
def labels_cover_k8 (a63 : Int × List (Int)) (ag62 : (Int × List (Int)) → Option ((List (Int × Int)) × Bool)) (a71 : Bool × List (Int)) : Option ((List (Int × Int)) × Bool) :=
  if a71.1 = true then (some (([] : List (Int × Int)), false)) else (ag62 ((wI .i64 (a63.1 + (1 : Int))), a71.2))
def labels_cover_s3 (fuel : Nat) (p0 : List (Int) × (List (List (Int × Int)))) (p1 : List (Int)) (a9 : List (Int) × List (Int)) (a63 : Int × List (Int)) (ag62 : (Int × List (Int)) → Option ((List (Int × Int)) × Bool)) : Option ((List (Int × Int)) × Bool) :=
  if a63.1 < (List.length a9.2 : Int) then (ck (0 ≤ a63.1 ∧ a63.1 < (List.length a9.2 : Int)) (if (at' a9.2 a63.1) < (0 : Int) then (Option.bind (m___labels_coverer__set fuel ((((p0.1, p0.2)), a9.2, a63.2)) a63.1 (0 : Int)) fun r75 => (labels_cover_k8 a63 ag62 (((!r75.1)), r75.2))) else (labels_cover_k8 a63 ag62 (false, a63.2)))) else (labels_cover_k4 fuel p0 p1 a9 (a63.2))
def labels_cover_k3 (fuel : Nat) (p0 : List (Int) × (List (List (Int × Int)))) (p1 : List (Int)) (a9 : List (Int) × List (Int)) (a11 : Unit) : Option ((List (Int × Int)) × Bool) :=
  iter (labels_cover_s3 fuel p0 p1 a9) fuel ((0 : Int), a9.1)
def labels_cover_k9 (a80 : Int) (ag79 : (Int) → Option ((List (Int × Int)) × Bool)) (a86 : Bool) : Option ((List (Int × Int)) × Bool) :=
  if a86 = true then (some (([] : List (Int × Int)), false)) else (ag79 (wI .i64 (a80 + (1 : Int))))
def labels_cover_s4 (fuel : Nat) (p0 : List (Int) × (List (List (Int × Int)))) (p1 : List (Int)) (a9 : List (Int) × List (Int)) (a80 : Int) (ag79 : (Int) → Option ((List (Int × Int)) × Bool)) : Option ((List (Int × Int)) × Bool) :=
  if a80 < (List.length a9.2 : Int) then (ck (0 ≤ a80 ∧ a80 < (List.length a9.2 : Int)) (if (0 : Int) ≤ (at' a9.2 a80) then (ck (0 ≤ (at' a9.2 a80) ∧ (at' a9.2 a80) < (List.length a9.2 : Int)) (labels_cover_k9 a80 ag79 (decide ((at' a9.2 (at' a9.2 a80)) ≠ a80)))) else (labels_cover_k9 a80 ag79 (false)))) else (labels_cover_k3 fuel p0 p1 a9 (()))
def labels_cover_k2 (fuel : Nat) (p0 : List (Int) × (List (List (Int × Int)))) (p1 : List (Int)) (a9 : List (Int) × List (Int)) : Option ((List (Int × Int)) × Bool) :=
  iter (labels_cover_s4 fuel p0 p1 a9) fuel (0 : Int)
def labels_cover_k10 (a95 : Int × List (Int) × List (Int)) (ag94 : (Int × List (Int) × List (Int)) → Option ((List (Int × Int)) × Bool)) (a100 : List (Int)) : Option ((List (Int × Int)) × Bool) :=
  ag94 ((wI .i64 (a95.1 + (1 : Int))), (List.set a95.2.1 (Int.toNat a95.1) (-1 : Int)), a100)
def labels_cover_s5 (fuel : Nat) (p0 : List (Int) × (List (List (Int × Int)))) (p1 : List (Int)) (a95 : Int × List (Int) × List (Int)) (ag94 : (Int × List (Int) × List (Int)) → Option ((List (Int × Int)) × Bool)) : Option ((List (Int × Int)) × Bool) :=
  if a95.1 < (List.length p1 : Int) then (ck (0 ≤ a95.1 ∧ a95.1 < (List.length p1 : Int)) (ck (0 ≤ a95.1 ∧ a95.1 < (List.length a95.2.1 : Int)) (ck (0 ≤ a95.1 ∧ a95.1 < (List.length a95.2.2 : Int)) (if (0 : Int) ≤ (at' p1 a95.1) then (ck (0 ≤ a95.1 ∧ a95.1 < (List.length p0.2 : Int)) (ck (0 ≤ (at' p1 a95.1) ∧ (at' p1 a95.1) < (List.length (at' p0.2 a95.1) : Int)) (ck (0 ≤ a95.1 ∧ a95.1 < (List.length (List.set a95.2.2 (Int.toNat a95.1) (-1 : Int)) : Int)) (labels_cover_k10 a95 ag94 (List.set (List.set a95.2.2 (Int.toNat a95.1) (-1 : Int)) (Int.toNat a95.1) ((at' (at' p0.2 a95.1) (at' p1 a95.1)).1)))))) else (labels_cover_k10 a95 ag94 (List.set a95.2.2 (Int.toNat a95.1) (-1 : Int))))))) else (labels_cover_k2 fuel p0 p1 (a95.2.1, a95.2.2))
def labels_cover_k1 (fuel : Nat) (p0 : List (Int) × (List (List (Int × Int)))) (p1 : List (Int)) (a5 : Unit) : Option ((List (Int × Int)) × Bool) :=
  iter (labels_cover_s5 fuel p0 p1) fuel ((0 : Int), (List.replicate (Int.toNat (List.length p1 : Int)) (0 : Int)), (List.replicate (Int.toNat (List.length p1 : Int)) (0 : Int)))
def m_labels_cover (fuel : Nat) (p0 : List (Int) × (List (List (Int × Int)))) (p1 : List (Int)) : Option ((List (Int × Int)) × Bool) :=
  ck (0 ≤ (List.length p1 : Int) ∧ (List.length p1 : Int) ≤ 1099511627) (ck (0 ≤ (List.length p1 : Int) ∧ (List.length p1 : Int) ≤ 1099511627) (labels_cover_k1 fuel p0 p1 (())))

theorem body35 : HasBody Try.prog 35 := Try.call35

set_option maxHeartbeats 4000000 in
set_option maxRecDepth 20000 in
theorem t_labels_cover (fuel : Nat) {p0 : List (Int) × (List (List (Int × Int)))} {p1 : List (Int)} (v0 : Value)  (v1 : Value)  (z2 : List (Value × List (Int × Int)))  (v3 : Value) (r : (List (Int × Int)) × Bool) (h : m_labels_cover fuel p0 p1 = some r) :
    Meets Try.prog 35 #[Value.agg #[v0, v1], v3] [Sl RI64 v0 p0.1, S2 RI64I64p v1 z2 p0.2, Sl RI64 v3 p1] (fun x : Value => Value.tuple #[x, Value.bool (r.2)]) (fun x l => Ar EI64I64p x r.1 :: l) (fun _ l => l) := by
  refine Meets.of (vs := [Value.agg #[v0, v1], v3]) Try.func35 rfl Try.ntmps35 rfl fun c => ?_
  unfold m_labels_cover at h
  refine J.seq ?_
  refine J.region ?_
  refine J.loud (Loud.box (cs := [v0, v1]) rfl rfl) rfl fun b1 => ?_
  refine J.quiet (Y.assign rfl) rfl ?_
  refine J.quiet (Y.assign rfl) rfl ?_
  refine J.done ?_
  refine J.thenN ?_
  refine J.seq ?_
  refine J.region ?_
  refine J.quiet (Y.move rfl) rfl ?_
  refine J.quiet (Y.lenS rfl (Lent.fact 2 rfl) rfl) rfl ?_
  refine J.quiet (Y.assign rfl) rfl ?_
  refine J.done ?_
  refine J.thenN ?_
  refine J.seq ?_
  refine J.midI (A := Unit) (B := Nat × Value × Value) (fun a5 => labels_cover_k1 fuel p0 p1 a5 = some r) (fun a5 b6 => [(1, v3), (2, Value.pointer (some ⟨b1, 0, none⟩)), (6, Value.int .i64 (List.length p1 : Int)), (7, Value.pointer (some ⟨b6.1, 0, none⟩))]) (fun a5 b6 => [Blk b6.1 [v0, v1, b6.2.1, b6.2.2] 75, Ar EI64 b6.2.2 (List.replicate (Int.toNat (List.length p1 : Int)) (0 : Int)), Ar EI64 b6.2.1 (List.replicate (Int.toNat (List.length p1 : Int)) (0 : Int)), Blk b1 [v0, v1] 29]) (fun a5 b6 => [Sl RI64 v0 p0.1, S2 RI64I64p v1 z2 p0.2, Sl RI64 v3 p1]) ?_ ?_
  · replace h := ck_some h; obtain ⟨hc109, h⟩ := h
    replace h := ck_some h; obtain ⟨hc111, h⟩ := h
    refine JR.orders [0, 0, 2, 0, 8, 31, 0, 127] 7 [[0, 1, 3, 2, 4, 5, 6, 7], [0, 1, 3, 2, 6, 4, 5, 7], [0, 1, 3, 4, 2, 5, 6, 7], [0, 1, 3, 4, 6, 2, 5, 7], [0, 1, 3, 6, 2, 4, 5, 7], [0, 1, 3, 6, 4, 2, 5, 7]] mixedOrders (by decide +kernel) (by decide +kernel) ?_
    intro o ho
    simp only [List.mem_cons, List.not_mem_nil, or_false] at ho
    rcases ho with rfl | rfl | rfl | rfl | rfl | rfl
    · refine JR.qt rfl (SubM.refl _) (SubL.nil) (Y.loadBAll 0 rfl rfl rfl rfl) HistOk.z ?_
      refine JR.qt rfl (SubM.nil) (SubL.nil) (Y.move rfl) HistOk.z ?_
      refine JR.qt rfl (SubM.nil) (SubL.nil) (Y.move rfl) HistOk.z ?_
      refine JR.loud rfl rfl rfl (Loud.makeS (e := EI64) (0 : Int) rfl rfl rfl rfl hc109 rfl rfl rfl) rfl (fun u120 => (BsOk.h (SubM.nil) (SubL.nil) (BsOk.b rfl (BsOk.h (SubM.cons 1 rfl (SubM.nil)) (SubL.nil) BsOk.z)))) fun u120 => ?_
      refine JR.loud rfl rfl rfl (Loud.makeS (e := EI64) (0 : Int) rfl rfl rfl rfl hc111 rfl rfl rfl) rfl (fun u121 => (BsOk.b rfl (BsOk.h (SubM.nil) (SubL.nil) (BsOk.h (SubM.cons 2 rfl (SubM.nil)) (SubL.nil) BsOk.z)))) fun u121 => ?_
      refine JR.know (Know.one ((Lent.ar (Lent.res 1 rfl) FI64))) fun ho122 => ?_
      refine JR.know (Know.one ((Lent.ar (Lent.res 0 rfl) FI64))) fun ho123 => ?_
      refine JR.qt rfl (SubM.nil) (SubL.nil) (Y.bld3 (r := Value.agg #[v0, v1, u120, u121]) rfl rfl rfl (by intro w; simp [Instr.build, Instr.fill, cells_intV, cells_boolV, cells_sliceV, cells_ptrV, cells_strV, cells_funcV, cells_agg, one_cells ho122, one_cells ho123])) (HistOk.b rfl (HistOk.b rfl HistOk.z)) ?_
      refine JR.loud rfl rfl rfl (Loud.alloc (cs := [Value.slice none 0 0, Value.slice none 0 0, Value.slice none 0 0, Value.slice none 0 0]) rfl rfl) rfl (fun b124 => (BsOk.h (SubM.nil) (SubL.nil) (BsOk.h (SubM.nil) (SubL.nil) (BsOk.h (SubM.nil) (SubL.nil) (BsOk.h (SubM.cons 3 rfl (SubM.nil)) (SubL.nil) BsOk.z))))) fun b124 => ?_
      refine JR.tailD 7 rfl rfl ?_
      refine J.know (Know.one ((Lent.fact 0 rfl))) fun ho125 => ?_
      refine J.know (Know.one (Lent.sl (Lent.fact 1 rfl))) fun ho126 => ?_
      refine J.know (Know.one ((Lent.ar (Lent.res 2 rfl) FI64))) fun ho127 => ?_
      refine J.know (Know.one ((Lent.ar (Lent.res 1 rfl) FI64))) fun ho128 => ?_
      refine J.storeAll 0 (vs := [v0, v1, u120, u121]) rfl rfl (all1 ho125 (all1 ho126 (all1 ho127 (all1 ho128 rfl)))) rfl rfl rfl ?_
      refine J.done ?_
      refine J.thenN ?_
      exact J.meetI (()) (b124, u120, u121) h (by repeat (first | exact SubF.nil | refine SubF.cons rfl ?_)) (SubM.refl _) (LentAll.refl _ _)
    · refine JR.qt rfl (SubM.refl _) (SubL.nil) (Y.loadBAll 0 rfl rfl rfl rfl) HistOk.z ?_
      refine JR.qt rfl (SubM.nil) (SubL.nil) (Y.move rfl) HistOk.z ?_
      refine JR.qt rfl (SubM.nil) (SubL.nil) (Y.move rfl) HistOk.z ?_
      refine JR.loud rfl rfl rfl (Loud.makeS (e := EI64) (0 : Int) rfl rfl rfl rfl hc109 rfl rfl rfl) rfl (fun u129 => (BsOk.h (SubM.nil) (SubL.nil) (BsOk.b rfl (BsOk.h (SubM.cons 1 rfl (SubM.nil)) (SubL.nil) BsOk.z)))) fun u129 => ?_
      refine JR.loud rfl rfl rfl (Loud.alloc (cs := [Value.slice none 0 0, Value.slice none 0 0, Value.slice none 0 0, Value.slice none 0 0]) rfl rfl) rfl (fun b130 => (BsOk.h (SubM.nil) (SubL.nil) (BsOk.h (SubM.nil) (SubL.nil) (BsOk.h (SubM.cons 2 rfl (SubM.nil)) (SubL.nil) BsOk.z)))) fun b130 => ?_
      refine JR.loud rfl rfl rfl (Loud.makeS (e := EI64) (0 : Int) rfl rfl rfl rfl hc111 rfl rfl rfl) rfl (fun u131 => (BsOk.b rfl (BsOk.h (SubM.nil) (SubL.nil) (BsOk.h (SubM.cons 3 rfl (SubM.nil)) (SubL.nil) BsOk.z)))) fun u131 => ?_
      refine JR.know (Know.one ((Lent.ar (Lent.res 2 rfl) FI64))) fun ho132 => ?_
      refine JR.know (Know.one ((Lent.ar (Lent.res 0 rfl) FI64))) fun ho133 => ?_
      refine JR.qt rfl (SubM.nil) (SubL.nil) (Y.bld3 (r := Value.agg #[v0, v1, u129, u131]) rfl rfl rfl (by intro w; simp [Instr.build, Instr.fill, cells_intV, cells_boolV, cells_sliceV, cells_ptrV, cells_strV, cells_funcV, cells_agg, one_cells ho132, one_cells ho133])) (HistOk.b rfl (HistOk.h (SubM.nil) (SubL.nil) (HistOk.b rfl HistOk.z))) ?_
      refine JR.tailD 7 rfl rfl ?_
      refine J.know (Know.one ((Lent.fact 0 rfl))) fun ho134 => ?_
      refine J.know (Know.one (Lent.sl (Lent.fact 1 rfl))) fun ho135 => ?_
      refine J.know (Know.one ((Lent.ar (Lent.res 2 rfl) FI64))) fun ho136 => ?_
      refine J.know (Know.one ((Lent.ar (Lent.res 0 rfl) FI64))) fun ho137 => ?_
      refine J.storeAll 1 (vs := [v0, v1, u129, u131]) rfl rfl (all1 ho134 (all1 ho135 (all1 ho136 (all1 ho137 rfl)))) rfl rfl rfl ?_
      refine J.done ?_
      refine J.thenN ?_
      exact J.meetI (()) (b130, u129, u131) h (by repeat (first | exact SubF.nil | refine SubF.cons rfl ?_)) (SubM.cons 1 rfl (SubM.cons 0 rfl (SubM.cons 0 rfl (SubM.cons 0 rfl (SubM.nil))))) (LentAll.refl _ _)
    · refine JR.qt rfl (SubM.refl _) (SubL.nil) (Y.loadBAll 0 rfl rfl rfl rfl) HistOk.z ?_
      refine JR.qt rfl (SubM.nil) (SubL.nil) (Y.move rfl) HistOk.z ?_
      refine JR.qt rfl (SubM.nil) (SubL.nil) (Y.move rfl) HistOk.z ?_
      refine JR.loud rfl rfl rfl (Loud.makeS (e := EI64) (0 : Int) rfl rfl rfl rfl hc111 rfl rfl rfl) rfl (fun u138 => (BsOk.b rfl (BsOk.h (SubM.nil) (SubL.nil) (BsOk.h (SubM.cons 1 rfl (SubM.nil)) (SubL.nil) BsOk.z)))) fun u138 => ?_
      refine JR.loud rfl rfl rfl (Loud.makeS (e := EI64) (0 : Int) rfl rfl rfl rfl hc109 rfl rfl rfl) rfl (fun u139 => (BsOk.h (SubM.nil) (SubL.nil) (BsOk.b rfl (BsOk.h (SubM.cons 2 rfl (SubM.nil)) (SubL.nil) BsOk.z)))) fun u139 => ?_
      refine JR.know (Know.one ((Lent.ar (Lent.res 0 rfl) FI64))) fun ho140 => ?_
      refine JR.know (Know.one ((Lent.ar (Lent.res 1 rfl) FI64))) fun ho141 => ?_
      refine JR.qt rfl (SubM.nil) (SubL.nil) (Y.bld3 (r := Value.agg #[v0, v1, u139, u138]) rfl rfl rfl (by intro w; simp [Instr.build, Instr.fill, cells_intV, cells_boolV, cells_sliceV, cells_ptrV, cells_strV, cells_funcV, cells_agg, one_cells ho140, one_cells ho141])) (HistOk.b rfl (HistOk.b rfl HistOk.z)) ?_
      refine JR.loud rfl rfl rfl (Loud.alloc (cs := [Value.slice none 0 0, Value.slice none 0 0, Value.slice none 0 0, Value.slice none 0 0]) rfl rfl) rfl (fun b142 => (BsOk.h (SubM.nil) (SubL.nil) (BsOk.h (SubM.nil) (SubL.nil) (BsOk.h (SubM.nil) (SubL.nil) (BsOk.h (SubM.cons 3 rfl (SubM.nil)) (SubL.nil) BsOk.z))))) fun b142 => ?_
      refine JR.tailD 7 rfl rfl ?_
      refine J.know (Know.one ((Lent.fact 0 rfl))) fun ho143 => ?_
      refine J.know (Know.one (Lent.sl (Lent.fact 1 rfl))) fun ho144 => ?_
      refine J.know (Know.one ((Lent.ar (Lent.res 1 rfl) FI64))) fun ho145 => ?_
      refine J.know (Know.one ((Lent.ar (Lent.res 2 rfl) FI64))) fun ho146 => ?_
      refine J.storeAll 0 (vs := [v0, v1, u139, u138]) rfl rfl (all1 ho143 (all1 ho144 (all1 ho145 (all1 ho146 rfl)))) rfl rfl rfl ?_
      refine J.done ?_
      refine J.thenN ?_
      exact J.meetI (()) (b142, u139, u138) h (by repeat (first | exact SubF.nil | refine SubF.cons rfl ?_)) (SubM.cons 0 rfl (SubM.cons 1 rfl (SubM.cons 0 rfl (SubM.cons 0 rfl (SubM.nil))))) (LentAll.refl _ _)
    · refine JR.qt rfl (SubM.refl _) (SubL.nil) (Y.loadBAll 0 rfl rfl rfl rfl) HistOk.z ?_
      refine JR.qt rfl (SubM.nil) (SubL.nil) (Y.move rfl) HistOk.z ?_
      refine JR.qt rfl (SubM.nil) (SubL.nil) (Y.move rfl) HistOk.z ?_
      refine JR.loud rfl rfl rfl (Loud.makeS (e := EI64) (0 : Int) rfl rfl rfl rfl hc111 rfl rfl rfl) rfl (fun u147 => (BsOk.b rfl (BsOk.h (SubM.nil) (SubL.nil) (BsOk.h (SubM.cons 1 rfl (SubM.nil)) (SubL.nil) BsOk.z)))) fun u147 => ?_
      refine JR.loud rfl rfl rfl (Loud.alloc (cs := [Value.slice none 0 0, Value.slice none 0 0, Value.slice none 0 0, Value.slice none 0 0]) rfl rfl) rfl (fun b148 => (BsOk.h (SubM.nil) (SubL.nil) (BsOk.h (SubM.nil) (SubL.nil) (BsOk.h (SubM.cons 2 rfl (SubM.nil)) (SubL.nil) BsOk.z)))) fun b148 => ?_
      refine JR.loud rfl rfl rfl (Loud.makeS (e := EI64) (0 : Int) rfl rfl rfl rfl hc109 rfl rfl rfl) rfl (fun u149 => (BsOk.h (SubM.nil) (SubL.nil) (BsOk.b rfl (BsOk.h (SubM.cons 3 rfl (SubM.nil)) (SubL.nil) BsOk.z)))) fun u149 => ?_
      refine JR.know (Know.one ((Lent.ar (Lent.res 0 rfl) FI64))) fun ho150 => ?_
      refine JR.know (Know.one ((Lent.ar (Lent.res 2 rfl) FI64))) fun ho151 => ?_
      refine JR.qt rfl (SubM.nil) (SubL.nil) (Y.bld3 (r := Value.agg #[v0, v1, u149, u147]) rfl rfl rfl (by intro w; simp [Instr.build, Instr.fill, cells_intV, cells_boolV, cells_sliceV, cells_ptrV, cells_strV, cells_funcV, cells_agg, one_cells ho150, one_cells ho151])) (HistOk.b rfl (HistOk.h (SubM.nil) (SubL.nil) (HistOk.b rfl HistOk.z))) ?_
      refine JR.tailD 7 rfl rfl ?_
      refine J.know (Know.one ((Lent.fact 0 rfl))) fun ho152 => ?_
      refine J.know (Know.one (Lent.sl (Lent.fact 1 rfl))) fun ho153 => ?_
      refine J.know (Know.one ((Lent.ar (Lent.res 0 rfl) FI64))) fun ho154 => ?_
      refine J.know (Know.one ((Lent.ar (Lent.res 2 rfl) FI64))) fun ho155 => ?_
      refine J.storeAll 1 (vs := [v0, v1, u149, u147]) rfl rfl (all1 ho152 (all1 ho153 (all1 ho154 (all1 ho155 rfl)))) rfl rfl rfl ?_
      refine J.done ?_
      refine J.thenN ?_
      exact J.meetI (()) (b148, u149, u147) h (by repeat (first | exact SubF.nil | refine SubF.cons rfl ?_)) (SubM.cons 1 rfl (SubM.cons 1 rfl (SubM.cons 0 rfl (SubM.cons 0 rfl (SubM.nil))))) (LentAll.refl _ _)
    · refine JR.qt rfl (SubM.refl _) (SubL.nil) (Y.loadBAll 0 rfl rfl rfl rfl) HistOk.z ?_
      refine JR.qt rfl (SubM.nil) (SubL.nil) (Y.move rfl) HistOk.z ?_
      refine JR.qt rfl (SubM.nil) (SubL.nil) (Y.move rfl) HistOk.z ?_
      refine JR.loud rfl rfl rfl (Loud.alloc (cs := [Value.slice none 0 0, Value.slice none 0 0, Value.slice none 0 0, Value.slice none 0 0]) rfl rfl) rfl (fun b156 => (BsOk.h (SubM.nil) (SubL.nil) (BsOk.h (SubM.nil) (SubL.nil) (BsOk.h (SubM.cons 1 rfl (SubM.nil)) (SubL.nil) BsOk.z)))) fun b156 => ?_
      refine JR.loud rfl rfl rfl (Loud.makeS (e := EI64) (0 : Int) rfl rfl rfl rfl hc109 rfl rfl rfl) rfl (fun u157 => (BsOk.h (SubM.nil) (SubL.nil) (BsOk.b rfl (BsOk.h (SubM.cons 2 rfl (SubM.nil)) (SubL.nil) BsOk.z)))) fun u157 => ?_
      refine JR.loud rfl rfl rfl (Loud.makeS (e := EI64) (0 : Int) rfl rfl rfl rfl hc111 rfl rfl rfl) rfl (fun u158 => (BsOk.b rfl (BsOk.h (SubM.nil) (SubL.nil) (BsOk.h (SubM.cons 3 rfl (SubM.nil)) (SubL.nil) BsOk.z)))) fun u158 => ?_
      refine JR.know (Know.one ((Lent.ar (Lent.res 1 rfl) FI64))) fun ho159 => ?_
      refine JR.know (Know.one ((Lent.ar (Lent.res 0 rfl) FI64))) fun ho160 => ?_
      refine JR.qt rfl (SubM.nil) (SubL.nil) (Y.bld3 (r := Value.agg #[v0, v1, u157, u158]) rfl rfl rfl (by intro w; simp [Instr.build, Instr.fill, cells_intV, cells_boolV, cells_sliceV, cells_ptrV, cells_strV, cells_funcV, cells_agg, one_cells ho159, one_cells ho160])) (HistOk.b rfl (HistOk.b rfl (HistOk.h (SubM.nil) (SubL.nil) HistOk.z))) ?_
      refine JR.tailD 7 rfl rfl ?_
      refine J.know (Know.one ((Lent.fact 0 rfl))) fun ho161 => ?_
      refine J.know (Know.one (Lent.sl (Lent.fact 1 rfl))) fun ho162 => ?_
      refine J.know (Know.one ((Lent.ar (Lent.res 1 rfl) FI64))) fun ho163 => ?_
      refine J.know (Know.one ((Lent.ar (Lent.res 0 rfl) FI64))) fun ho164 => ?_
      refine J.storeAll 2 (vs := [v0, v1, u157, u158]) rfl rfl (all1 ho161 (all1 ho162 (all1 ho163 (all1 ho164 rfl)))) rfl rfl rfl ?_
      refine J.done ?_
      refine J.thenN ?_
      exact J.meetI (()) (b156, u157, u158) h (by repeat (first | exact SubF.nil | refine SubF.cons rfl ?_)) (SubM.cons 2 rfl (SubM.cons 0 rfl (SubM.cons 0 rfl (SubM.cons 0 rfl (SubM.nil))))) (LentAll.refl _ _)
    · refine JR.qt rfl (SubM.refl _) (SubL.nil) (Y.loadBAll 0 rfl rfl rfl rfl) HistOk.z ?_
      refine JR.qt rfl (SubM.nil) (SubL.nil) (Y.move rfl) HistOk.z ?_
      refine JR.qt rfl (SubM.nil) (SubL.nil) (Y.move rfl) HistOk.z ?_
      refine JR.loud rfl rfl rfl (Loud.alloc (cs := [Value.slice none 0 0, Value.slice none 0 0, Value.slice none 0 0, Value.slice none 0 0]) rfl rfl) rfl (fun b165 => (BsOk.h (SubM.nil) (SubL.nil) (BsOk.h (SubM.nil) (SubL.nil) (BsOk.h (SubM.cons 1 rfl (SubM.nil)) (SubL.nil) BsOk.z)))) fun b165 => ?_
      refine JR.loud rfl rfl rfl (Loud.makeS (e := EI64) (0 : Int) rfl rfl rfl rfl hc111 rfl rfl rfl) rfl (fun u166 => (BsOk.b rfl (BsOk.h (SubM.nil) (SubL.nil) (BsOk.h (SubM.cons 2 rfl (SubM.nil)) (SubL.nil) BsOk.z)))) fun u166 => ?_
      refine JR.loud rfl rfl rfl (Loud.makeS (e := EI64) (0 : Int) rfl rfl rfl rfl hc109 rfl rfl rfl) rfl (fun u167 => (BsOk.h (SubM.nil) (SubL.nil) (BsOk.b rfl (BsOk.h (SubM.cons 3 rfl (SubM.nil)) (SubL.nil) BsOk.z)))) fun u167 => ?_
      refine JR.know (Know.one ((Lent.ar (Lent.res 0 rfl) FI64))) fun ho168 => ?_
      refine JR.know (Know.one ((Lent.ar (Lent.res 1 rfl) FI64))) fun ho169 => ?_
      refine JR.qt rfl (SubM.nil) (SubL.nil) (Y.bld3 (r := Value.agg #[v0, v1, u167, u166]) rfl rfl rfl (by intro w; simp [Instr.build, Instr.fill, cells_intV, cells_boolV, cells_sliceV, cells_ptrV, cells_strV, cells_funcV, cells_agg, one_cells ho168, one_cells ho169])) (HistOk.b rfl (HistOk.b rfl (HistOk.h (SubM.nil) (SubL.nil) HistOk.z))) ?_
      refine JR.tailD 7 rfl rfl ?_
      refine J.know (Know.one ((Lent.fact 0 rfl))) fun ho170 => ?_
      refine J.know (Know.one (Lent.sl (Lent.fact 1 rfl))) fun ho171 => ?_
      refine J.know (Know.one ((Lent.ar (Lent.res 0 rfl) FI64))) fun ho172 => ?_
      refine J.know (Know.one ((Lent.ar (Lent.res 1 rfl) FI64))) fun ho173 => ?_
      refine J.storeAll 2 (vs := [v0, v1, u167, u166]) rfl rfl (all1 ho170 (all1 ho171 (all1 ho172 (all1 ho173 rfl)))) rfl rfl rfl ?_
      refine J.done ?_
      refine J.thenN ?_
      exact J.meetI (()) (b165, u167, u166) h (by repeat (first | exact SubF.nil | refine SubF.cons rfl ?_)) (SubM.cons 2 rfl (SubM.cons 1 rfl (SubM.cons 0 rfl (SubM.cons 0 rfl (SubM.nil))))) (LentAll.refl _ _)
  · clear h
    intro a5 b6 h
    unfold labels_cover_k1 at h
    refine J.seq ?_
    refine J.midI (A := List (Int) × List (Int)) (B := Unit) (fun a9 => labels_cover_k2 fuel p0 p1 a9 = some r) (fun a9 b10 => [(6, Value.int .i64 (List.length p1 : Int)), (7, Value.pointer (some ⟨b6.1, 0, none⟩))]) (fun a9 b10 => [Blk b6.1 [v0, v1, b6.2.1, b6.2.2] 75, Ar EI64 b6.2.2 a9.1, Ar EI64 b6.2.1 a9.2]) (fun a9 b10 => [Sl RI64 v0 p0.1, S2 RI64I64p v1 z2 p0.2, Sl RI64 v3 p1]) ?_ ?_
    · refine J.seq ?_
      refine J.region ?_
      refine J.quiet (Y.move rfl) rfl ?_
      refine J.quiet (Y.lenS rfl (Lent.fact 2 rfl) rfl) rfl ?_
      refine J.quiet (Y.move rfl) rfl ?_
      refine J.done ?_
      refine J.thenN ?_
      refine J.block ?_
      refine J.loopI (A := Int × List (Int) × List (Int)) (B := Unit) (labels_cover_s5 fuel p0 p1) (fun a95 b96 => [(2, Value.pointer (some ⟨b1, 0, none⟩)), (6, Value.int .i64 (List.length p1 : Int)), (7, Value.pointer (some ⟨b6.1, 0, none⟩)), (26, v3), (27, Value.int .i64 (List.length p1 : Int)), (28, Value.int .i64 (a95.1))]) (fun a95 b96 => [Blk b6.1 [v0, v1, b6.2.1, b6.2.2] 75, Ar EI64 b6.2.2 a95.2.1, Ar EI64 b6.2.1 a95.2.2, Blk b1 [v0, v1] 29]) (fun a95 b96 => [Sl RI64 v0 p0.1, S2 RI64I64p v1 z2 p0.2, Sl RI64 v3 p1]) ((0 : Int), (List.replicate (Int.toNat (List.length p1 : Int)) (0 : Int)), (List.replicate (Int.toNat (List.length p1 : Int)) (0 : Int))) (()) h (by repeat (first | exact SubF.nil | refine SubF.cons rfl ?_)) (SubM.refl _) (LentAll.refl _ _) ?_
      clear h
      intro k97 a95 b96 h
      unfold labels_cover_s5 at h
      refine J.seq ?_
      refine J.region ?_
      refine J.quiet (Y.lss rfl rfl) rfl ?_
      refine J.done ?_
      refine J.thenN ?_
      refine J.seq ?_
      refine J.condD (by exact rfl) (fun hp98 => ?_) (fun hp98 => ?_)
      · replace h := ifP hp98 h
        refine J.skip ?_
        refine J.thenN ?_
        refine J.seq ?_
        refine J.midI (A := List (Int)) (B := Unit) (fun a100 => labels_cover_k10 a95 (iter (labels_cover_s5 fuel p0 p1) k97) a100 = some r) (fun a100 b101 => [(2, Value.pointer (some ⟨b1, 0, none⟩)), (6, Value.int .i64 (List.length p1 : Int)), (7, Value.pointer (some ⟨b6.1, 0, none⟩)), (26, v3), (27, Value.int .i64 (List.length p1 : Int)), (28, Value.int .i64 (a95.1))]) (fun a100 b101 => [Blk b6.1 [v0, v1, b6.2.1, b6.2.2] 75, Ar EI64 b6.2.2 (List.set a95.2.1 (Int.toNat a95.1) (-1 : Int)), Ar EI64 b6.2.1 a100, Blk b1 [v0, v1] 29]) (fun a100 b101 => [Sl RI64 v0 p0.1, S2 RI64I64p v1 z2 p0.2, Sl RI64 v3 p1]) ?_ ?_
        · refine J.block ?_
          refine J.seq ?_
          refine J.region ?_
          refine J.quiet (Y.move rfl) rfl ?_
          replace h := ck_some h; obtain ⟨hc102, h⟩ := h
          refine J.quiet (Y.indexS rfl rfl (Lent.fact 2 rfl) rfl rfl hc102) rfl ?_
          refine J.quiet (Y.loadS0 rfl (Lent.fact 2 rfl) rfl rfl rfl RI64c0 hc102) rfl ?_
          refine J.quiet (Y.assign rfl) rfl ?_
          refine J.quiet (Y.assign rfl) rfl ?_
          refine J.done ?_
          refine J.thenN ?_
          refine J.seq ?_
          refine J.region ?_
          refine J.quiet (Y.fieldB rfl rfl rfl rfl rfl) rfl ?_
          refine J.quiet (Y.loadB 0 rfl rfl rfl rfl rfl) rfl ?_
          refine J.quiet (Y.move rfl) rfl ?_
          replace h := ck_some h; obtain ⟨hc103, h⟩ := h
          refine J.quiet (Y.indexS rfl rfl (Lent.ar (Lent.res 1 rfl) FI64) rfl rfl hc103) rfl ?_
          refine J.storeS 1 (-1 : Int) hc103 rfl rfl rfl rfl rfl rfl rfl ?_
          refine J.done ?_
          refine J.thenN ?_
          refine J.seq ?_
          refine J.region ?_
          refine J.quiet (Y.fieldB rfl rfl rfl rfl rfl) rfl ?_
          refine J.quiet (Y.loadB 0 rfl rfl rfl rfl rfl) rfl ?_
          refine J.quiet (Y.move rfl) rfl ?_
          replace h := ck_some h; obtain ⟨hc104, h⟩ := h
          refine J.quiet (Y.indexS rfl rfl (Lent.ar (Lent.res 2 rfl) FI64) rfl rfl hc104) rfl ?_
          refine J.storeS 2 (-1 : Int) hc104 rfl rfl rfl rfl rfl rfl rfl ?_
          refine J.done ?_
          refine J.thenN ?_
          refine J.seq ?_
          refine J.region ?_
          refine J.quiet (Y.move rfl) rfl ?_
          refine J.quiet (Y.geq rfl rfl) rfl ?_
          refine J.done ?_
          refine J.thenN ?_
          refine J.condD (by exact rfl) (fun hp105 => ?_) (fun hp105 => ?_)
          · replace h := ifP hp105 h
            refine JR.start [0, 1, 0, 0, 8, 0, 56, 120, 0, 504, 1016, 2040, 4095, 8191] 12 mixedOrders (by decide +kernel) ?_
            refine JR.open (by exact rfl) ?_
            refine JR.qt rfl (SubM.nil) (SubL.nil) (Y.fieldB rfl rfl rfl rfl rfl) HistOk.z ?_
            refine JR.qt rfl (SubM.cons 0 rfl (SubM.nil)) (SubL.nil) (Y.loadB 0 rfl rfl rfl rfl rfl) HistOk.z ?_
            refine JR.qt rfl (SubM.nil) (SubL.nil) (Y.move rfl) HistOk.z ?_
            refine JR.qt rfl (SubM.nil) (SubL.nil) (Y.fieldB rfl rfl rfl rfl rfl) HistOk.z ?_
            refine JR.qt rfl (SubM.cons 3 rfl (SubM.nil)) (SubL.nil) (Y.loadB 0 rfl rfl rfl rfl rfl) HistOk.z ?_
            refine JR.qt rfl (SubM.nil) (SubL.nil) (Y.move rfl) HistOk.z ?_
            replace h := ck_some h; obtain ⟨hc106, h⟩ := h
            refine JR.qt rfl (SubM.nil) (SubL.cons (List.mem_of_getElem? (i := 1) rfl) (SubL.nil)) (Y.indexN rfl rfl (Lent.fact 0 rfl) rfl rfl hc106) HistOk.z ?_
            refine JR.qt rfl (SubM.nil) (SubL.cons (List.mem_of_getElem? (i := 1) rfl) (SubL.nil)) (Y.loadRow rfl (Lent.fact 0 rfl) rfl rfl hc106) HistOk.z ?_
            refine JR.qt rfl (SubM.nil) (SubL.nil) (Y.move rfl) HistOk.z ?_
            replace h := ck_some h; obtain ⟨hc107, h⟩ := h
            refine JR.qt rfl (SubM.nil) (SubL.cons (List.mem_of_getElem? (i := 1) rfl) (SubL.nil)) (Y.indexS rfl rfl (Lent.el (Lent.fact 0 rfl) hc106.1 hc106.2) rfl rfl hc107) HistOk.z ?_
            refine JR.qt rfl (SubM.nil) (SubL.nil) (Y.fieldEl rfl rfl rfl rfl rfl) HistOk.z ?_
            refine JR.qt rfl (SubM.nil) (SubL.cons (List.mem_of_getElem? (i := 1) rfl) (SubL.nil)) (Y.loadS rfl (Lent.el (Lent.fact 0 rfl) hc106.1 hc106.2) rfl rfl rfl RI64I64pc0 hc107) HistOk.z ?_
            refine JR.tailD 12 rfl rfl ?_
            replace h := ck_some h; obtain ⟨hc108, h⟩ := h
            refine J.quiet (Y.indexS rfl rfl (Lent.ar (Lent.res 2 rfl) FI64) rfl rfl hc108) rfl ?_
            refine J.storeS 2 ((at' (at' p0.2 a95.1) (at' p1 a95.1)).1) hc108 rfl rfl rfl rfl rfl rfl rfl ?_
            refine J.done ?_
            refine J.inN ?_
            refine J.thenN ?_
            exact J.meetI (List.set (List.set a95.2.2 (Int.toNat a95.1) (-1 : Int)) (Int.toNat a95.1) ((at' (at' p0.2 a95.1) (at' p1 a95.1)).1)) (()) h (by repeat (first | exact SubF.nil | refine SubF.cons rfl ?_)) (SubM.refl _) (LentAll.refl _ _)
          · replace h := ifN hp105 h
            refine J.skip ?_
            refine J.inN ?_
            refine J.thenN ?_
            exact J.meetI (List.set a95.2.2 (Int.toNat a95.1) (-1 : Int)) (()) h (by repeat (first | exact SubF.nil | refine SubF.cons rfl ?_)) (SubM.refl _) (LentAll.refl _ _)
        · clear h
          intro a100 b101 h
          unfold labels_cover_k10 at h
          refine J.region ?_
          refine J.quiet (Y.addW rfl rfl) rfl ?_
          refine J.quiet (Y.move rfl) rfl ?_
          refine J.done ?_
          refine J.thenN ?_
          exact J.againI ((wI .i64 (a95.1 + (1 : Int))), (List.set a95.2.1 (Int.toNat a95.1) (-1 : Int)), a100) (()) h (by repeat (first | exact SubF.nil | refine SubF.cons rfl ?_)) (SubM.refl _) (LentAll.refl _ _)
      · replace h := ifN hp98 h
        refine J.exit ?_
        refine J.thenX ?_
        refine J.thenX ?_
        refine J.inX ?_
        refine J.thenN ?_
        exact J.meetI (a95.2.1, a95.2.2) (()) h (by repeat (first | exact SubF.nil | refine SubF.cons rfl ?_)) (SubM.cons 0 rfl (SubM.cons 0 rfl (SubM.cons 0 rfl (SubM.nil)))) (LentAll.refl _ _)
    · clear h
      intro a9 b10 h
      unfold labels_cover_k2 at h
      refine J.seq ?_
      refine J.midI (A := Unit) (B := Unit) (fun a11 => labels_cover_k3 fuel p0 p1 a9 a11 = some r) (fun a11 b12 => [(6, Value.int .i64 (List.length p1 : Int)), (7, Value.pointer (some ⟨b6.1, 0, none⟩))]) (fun a11 b12 => [Blk b6.1 [v0, v1, b6.2.1, b6.2.2] 75, Ar EI64 b6.2.2 a9.1, Ar EI64 b6.2.1 a9.2]) (fun a11 b12 => [Sl RI64 v0 p0.1, S2 RI64I64p v1 z2 p0.2, Sl RI64 v3 p1]) ?_ ?_
      · refine J.seq ?_
        refine J.region ?_
        refine J.quiet (Y.fieldB rfl rfl rfl rfl rfl) rfl ?_
        refine J.quiet (Y.loadB 0 rfl rfl rfl rfl rfl) rfl ?_
        refine J.quiet (Y.lenS rfl (Lent.ar (Lent.res 2 rfl) FI64) rfl) rfl ?_
        refine J.quiet (Y.move rfl) rfl ?_
        refine J.done ?_
        refine J.thenN ?_
        refine J.block ?_
        refine J.loopI (A := Int) (B := Unit) (labels_cover_s4 fuel p0 p1 a9) (fun a80 b81 => [(6, Value.int .i64 (List.length p1 : Int)), (7, Value.pointer (some ⟨b6.1, 0, none⟩)), (58, b6.2.1), (59, Value.int .i64 (List.length a9.2 : Int)), (60, Value.int .i64 (a80))]) (fun a80 b81 => [Blk b6.1 [v0, v1, b6.2.1, b6.2.2] 75, Ar EI64 b6.2.2 a9.1, Ar EI64 b6.2.1 a9.2]) (fun a80 b81 => [Sl RI64 v0 p0.1, S2 RI64I64p v1 z2 p0.2, Sl RI64 v3 p1]) (0 : Int) (()) h (by repeat (first | exact SubF.nil | refine SubF.cons rfl ?_)) (SubM.refl _) (LentAll.refl _ _) ?_
        clear h
        intro k82 a80 b81 h
        unfold labels_cover_s4 at h
        refine J.seq ?_
        refine J.region ?_
        refine J.quiet (Y.lss rfl rfl) rfl ?_
        refine J.done ?_
        refine J.thenN ?_
        refine J.seq ?_
        refine J.condD (by exact rfl) (fun hp83 => ?_) (fun hp83 => ?_)
        · replace h := ifP hp83 h
          refine J.skip ?_
          refine J.thenN ?_
          refine J.seq ?_
          refine J.block ?_
          refine J.seq ?_
          refine J.region ?_
          refine J.quiet (Y.move rfl) rfl ?_
          replace h := ck_some h; obtain ⟨hc84, h⟩ := h
          refine J.quiet (Y.indexS rfl rfl (Lent.ar (Lent.res 2 rfl) FI64) rfl rfl hc84) rfl ?_
          refine J.quiet (Y.loadS0 rfl (Lent.ar (Lent.res 2 rfl) FI64) rfl rfl rfl RI64c0 hc84) rfl ?_
          refine J.quiet (Y.assign rfl) rfl ?_
          refine J.quiet (Y.assign rfl) rfl ?_
          refine J.done ?_
          refine J.thenN ?_
          refine J.seq ?_
          refine J.midI (A := Bool) (B := Unit) (fun a86 => labels_cover_k9 a80 (iter (labels_cover_s4 fuel p0 p1 a9) k82) a86 = some r) (fun a86 b87 => [(6, Value.int .i64 (List.length p1 : Int)), (7, Value.pointer (some ⟨b6.1, 0, none⟩)), (58, b6.2.1), (59, Value.int .i64 (List.length a9.2 : Int)), (60, Value.int .i64 (a80)), (75, Value.bool (a86))]) (fun a86 b87 => [Blk b6.1 [v0, v1, b6.2.1, b6.2.2] 75, Ar EI64 b6.2.2 a9.1, Ar EI64 b6.2.1 a9.2]) (fun a86 b87 => [Sl RI64 v0 p0.1, S2 RI64I64p v1 z2 p0.2, Sl RI64 v3 p1]) ?_ ?_
          · refine J.region ?_
            refine J.quiet (Y.move rfl) rfl ?_
            refine J.quiet (Y.geq rfl rfl) rfl ?_
            refine J.quiet (Y.move rfl) rfl ?_
            refine J.guardD (by exact rfl) (by exact rfl) (fun hp89 => ?_) (fun hp89 => ?_)
            · replace h := ifP hp89 h
              refine J.guardY rfl (Y.fieldB rfl rfl rfl rfl rfl) rfl ?_
              refine J.guardY rfl (Y.loadB 0 rfl rfl rfl rfl rfl) rfl ?_
              refine J.guardY rfl (Y.move rfl) rfl ?_
              replace h := ck_some h; obtain ⟨hc90, h⟩ := h
              refine J.guardY rfl (Y.indexS rfl rfl (Lent.ar (Lent.res 2 rfl) FI64) rfl rfl hc90) rfl ?_
              refine J.guardY rfl (Y.loadS0 rfl (Lent.ar (Lent.res 2 rfl) FI64) rfl rfl rfl RI64c0 hc90) rfl ?_
              refine J.guardY rfl (Y.move rfl) rfl ?_
              refine J.guardY rfl (Y.neq rfl rfl) rfl ?_
              refine J.quiet (Y.pickT rfl rfl) rfl ?_
              refine J.done ?_
              refine J.thenN ?_
              exact J.meetI (decide ((at' a9.2 (at' a9.2 a80)) ≠ a80)) (()) h (by repeat (first | exact SubF.nil | refine SubF.cons rfl ?_)) (SubM.refl _) (LentAll.refl _ _)
            · replace h := ifN hp89 h
              refine J.guardN rfl rfl rfl ?_
              refine J.guardN rfl rfl rfl ?_
              refine J.guardN rfl rfl rfl ?_
              refine J.guardN rfl rfl rfl ?_
              refine J.guardN rfl rfl rfl ?_
              refine J.guardN rfl rfl rfl ?_
              refine J.guardN rfl rfl rfl ?_
              refine J.quiet (Y.pickF rfl rfl) rfl ?_
              refine J.done ?_
              refine J.thenN ?_
              exact J.meetI (false) (()) h (by repeat (first | exact SubF.nil | refine SubF.cons rfl ?_)) (SubM.refl _) (LentAll.refl _ _)
          · clear h
            intro a86 b87 h
            unfold labels_cover_k9 at h
            refine J.cond (by exact rfl) (fun hp88 => ?_) (fun hp88 => ?_)
            · replace h := ifP hp88 h
              refine J.seq ?_
              refine J.region ?_
              refine J.quiet (Y.assign rfl) rfl ?_
              refine J.quiet (Y.assign rfl) rfl ?_
              refine J.done ?_
              refine J.thenN ?_
              refine J.ret ?_
              refine J.inR ?_
              refine J.thenR ?_
              refine J.thenR ?_
              refine J.inR ?_
              refine J.thenR ?_
              refine J.stp (Stp.nilAr EI64I64p) ?_
              obtain rfl := Option.some.inj h
              exact J.retG2 (Value.slice none 0 0) rfl rfl (RV.tmp rfl) (RV.tmp rfl) (SubM.cons 0 rfl (SubM.nil)) LentAll.nil
            · replace h := ifBN hp88 h
              refine J.skip ?_
              refine J.inN ?_
              refine J.thenN ?_
              refine J.region ?_
              refine J.quiet (Y.addW rfl rfl) rfl ?_
              refine J.quiet (Y.move rfl) rfl ?_
              refine J.done ?_
              refine J.thenN ?_
              exact J.againI (wI .i64 (a80 + (1 : Int))) (()) h (by repeat (first | exact SubF.nil | refine SubF.cons rfl ?_)) (SubM.refl _) (LentAll.refl _ _)
        · replace h := ifN hp83 h
          refine J.exit ?_
          refine J.thenX ?_
          refine J.thenX ?_
          refine J.inX ?_
          refine J.thenN ?_
          exact J.meetI (()) (()) h (by repeat (first | exact SubF.nil | refine SubF.cons rfl ?_)) (SubM.refl _) (LentAll.refl _ _)
      · clear h
        intro a11 b12 h
        unfold labels_cover_k3 at h
        refine J.seq ?_
        refine J.midI (A := List (Int)) (B := Value) (fun a15 => labels_cover_k4 fuel p0 p1 a9 a15 = some r) (fun a15 b16 => [(6, Value.int .i64 (List.length p1 : Int)), (7, Value.pointer (some ⟨b6.1, 0, none⟩))]) (fun a15 b16 => [Blk b6.1 [v0, v1, b6.2.1, b16] 75, Ar EI64 b16 a15, Ar EI64 b6.2.1 a9.2]) (fun a15 b16 => [Sl RI64 v0 p0.1, S2 RI64I64p v1 z2 p0.2, Sl RI64 v3 p1]) ?_ ?_
        · refine J.seq ?_
          refine J.region ?_
          refine J.quiet (Y.fieldB rfl rfl rfl rfl rfl) rfl ?_
          refine J.quiet (Y.loadB 0 rfl rfl rfl rfl rfl) rfl ?_
          refine J.quiet (Y.lenS rfl (Lent.ar (Lent.res 2 rfl) FI64) rfl) rfl ?_
          refine J.quiet (Y.move rfl) rfl ?_
          refine J.done ?_
          refine J.thenN ?_
          refine J.block ?_
          refine J.loopI (A := Int × List (Int)) (B := Value) (labels_cover_s3 fuel p0 p1 a9) (fun a63 b64 => [(6, Value.int .i64 (List.length p1 : Int)), (7, Value.pointer (some ⟨b6.1, 0, none⟩)), (78, b6.2.1), (79, Value.int .i64 (List.length a9.2 : Int)), (80, Value.int .i64 (a63.1))]) (fun a63 b64 => [Blk b6.1 [v0, v1, b6.2.1, b64] 75, Ar EI64 b64 a63.2, Ar EI64 b6.2.1 a9.2]) (fun a63 b64 => [Sl RI64 v0 p0.1, S2 RI64I64p v1 z2 p0.2, Sl RI64 v3 p1]) ((0 : Int), a9.1) (b6.2.2) h (by repeat (first | exact SubF.nil | refine SubF.cons rfl ?_)) (SubM.refl _) (LentAll.refl _ _) ?_
          clear h
          intro k65 a63 b64 h
          unfold labels_cover_s3 at h
          refine J.seq ?_
          refine J.region ?_
          refine J.quiet (Y.lss rfl rfl) rfl ?_
          refine J.done ?_
          refine J.thenN ?_
          refine J.seq ?_
          refine J.condD (by exact rfl) (fun hp66 => ?_) (fun hp66 => ?_)
          · replace h := ifP hp66 h
            refine J.skip ?_
            refine J.thenN ?_
            refine J.seq ?_
            refine J.block ?_
            refine J.seq ?_
            refine J.region ?_
            refine J.quiet (Y.move rfl) rfl ?_
            replace h := ck_some h; obtain ⟨hc67, h⟩ := h
            refine J.quiet (Y.indexS rfl rfl (Lent.ar (Lent.res 2 rfl) FI64) rfl rfl hc67) rfl ?_
            refine J.quiet (Y.loadS0 rfl (Lent.ar (Lent.res 2 rfl) FI64) rfl rfl rfl RI64c0 hc67) rfl ?_
            refine J.quiet (Y.assign rfl) rfl ?_
            refine J.quiet (Y.assign rfl) rfl ?_
            refine J.done ?_
            refine J.thenN ?_
            refine J.seq ?_
            refine J.midI (A := Bool × List (Int)) (B := Value) (fun a71 => labels_cover_k8 a63 (iter (labels_cover_s3 fuel p0 p1 a9) k65) a71 = some r) (fun a71 b72 => [(6, Value.int .i64 (List.length p1 : Int)), (7, Value.pointer (some ⟨b6.1, 0, none⟩)), (78, b6.2.1), (79, Value.int .i64 (List.length a9.2 : Int)), (80, Value.int .i64 (a63.1)), (91, Value.bool (a71.1))]) (fun a71 b72 => [Blk b6.1 [v0, v1, b6.2.1, b72] 75, Ar EI64 b72 a71.2, Ar EI64 b6.2.1 a9.2]) (fun a71 b72 => [Sl RI64 v0 p0.1, S2 RI64I64p v1 z2 p0.2, Sl RI64 v3 p1]) ?_ ?_
            · refine J.region ?_
              refine J.quiet (Y.move rfl) rfl ?_
              refine J.quiet (Y.lss rfl rfl) rfl ?_
              refine J.quiet (Y.move rfl) rfl ?_
              refine J.guardD (by exact rfl) (by exact rfl) (fun hp74 => ?_) (fun hp74 => ?_)
              · replace h := ifP hp74 h
                refine J.guardY rfl (Y.move rfl) rfl ?_
                replace h := bnd h; obtain ⟨r75, hr76, h⟩ := h
                refine J.loudG rfl (Loud.callM (Min := [Blk b6.1 [v0, v1, b6.2.1, b64] 75, Ar EI64 b64 a63.2]) (Mr := [Ar EI64 b6.2.1 a9.2]) body57 (t___labels_coverer__set fuel b6.1 v0 v1 z2 b6.2.1 b64 r75 hr76) rfl (SubM.refl _) (LentAll.cons (Lent.fact 0 rfl) (LentAll.cons (Lent.fact 1 rfl) (LentAll.cons (Lent.ar (Lent.res 0 rfl) FI64) (LentAll.nil)))) (fun _ _ => rfl)) rfl fun x77 => ?_
                refine J.guardY rfl (Y.not rfl) rfl ?_
                refine J.quiet (Y.pickT rfl rfl) rfl ?_
                refine J.done ?_
                refine J.thenN ?_
                exact J.meetI (((!r75.1)), r75.2) (x77) h (by repeat (first | exact SubF.nil | refine SubF.cons rfl ?_)) (SubM.refl _) (LentAll.refl _ _)
              · replace h := ifN hp74 h
                refine J.guardN rfl rfl rfl ?_
                refine J.guardN rfl rfl rfl ?_
                refine J.guardN rfl rfl rfl ?_
                refine J.quiet (Y.pickF rfl rfl) rfl ?_
                refine J.done ?_
                refine J.thenN ?_
                exact J.meetI (false, a63.2) (b64) h (by repeat (first | exact SubF.nil | refine SubF.cons rfl ?_)) (SubM.refl _) (LentAll.refl _ _)
            · clear h
              intro a71 b72 h
              unfold labels_cover_k8 at h
              refine J.cond (by exact rfl) (fun hp73 => ?_) (fun hp73 => ?_)
              · replace h := ifP hp73 h
                refine J.seq ?_
                refine J.region ?_
                refine J.quiet (Y.assign rfl) rfl ?_
                refine J.quiet (Y.assign rfl) rfl ?_
                refine J.done ?_
                refine J.thenN ?_
                refine J.ret ?_
                refine J.inR ?_
                refine J.thenR ?_
                refine J.thenR ?_
                refine J.inR ?_
                refine J.thenR ?_
                refine J.stp (Stp.nilAr EI64I64p) ?_
                obtain rfl := Option.some.inj h
                exact J.retG2 (Value.slice none 0 0) rfl rfl (RV.tmp rfl) (RV.tmp rfl) (SubM.cons 0 rfl (SubM.nil)) LentAll.nil
              · replace h := ifBN hp73 h
                refine J.skip ?_
                refine J.inN ?_
                refine J.thenN ?_
                refine J.region ?_
                refine J.quiet (Y.addW rfl rfl) rfl ?_
                refine J.quiet (Y.move rfl) rfl ?_
                refine J.done ?_
                refine J.thenN ?_
                exact J.againI ((wI .i64 (a63.1 + (1 : Int))), a71.2) (b72) h (by repeat (first | exact SubF.nil | refine SubF.cons rfl ?_)) (SubM.refl _) (LentAll.refl _ _)
          · replace h := ifN hp66 h
            refine J.exit ?_
            refine J.thenX ?_
            refine J.thenX ?_
            refine J.inX ?_
            refine J.thenN ?_
            exact J.meetI (a63.2) (b64) h (by repeat (first | exact SubF.nil | refine SubF.cons rfl ?_)) (SubM.refl _) (LentAll.refl _ _)
        · clear h
          intro a15 b16 h
          unfold labels_cover_k4 at h
          refine J.seq ?_
          refine J.midI (A := List (Int)) (B := Value) (fun a19 => labels_cover_k5 fuel p1 a19 = some r) (fun a19 b20 => [(6, Value.int .i64 (List.length p1 : Int)), (7, Value.pointer (some ⟨b6.1, 0, none⟩))]) (fun a19 b20 => [Blk b6.1 [v0, v1, b6.2.1, b20] 75, Ar EI64 b20 a19, Ar EI64 b6.2.1 a9.2]) (fun a19 b20 => [Sl RI64 v0 p0.1, S2 RI64I64p v1 z2 p0.2, Sl RI64 v3 p1]) ?_ ?_
          · refine J.seq ?_
            refine J.region ?_
            refine J.quiet (Y.move rfl) rfl ?_
            refine J.quiet (Y.move rfl) rfl ?_
            refine J.done ?_
            refine J.thenN ?_
            refine J.block ?_
            refine J.loopI (A := Int × List (Int)) (B := Value) (labels_cover_s2 fuel p0 p1 a9) (fun a40 b41 => [(6, Value.int .i64 (List.length p1 : Int)), (7, Value.pointer (some ⟨b6.1, 0, none⟩)), (93, Value.int .i64 (List.length p1 : Int)), (94, Value.int .i64 (a40.1))]) (fun a40 b41 => [Blk b6.1 [v0, v1, b6.2.1, b41] 75, Ar EI64 b41 a40.2, Ar EI64 b6.2.1 a9.2]) (fun a40 b41 => [Sl RI64 v0 p0.1, S2 RI64I64p v1 z2 p0.2, Sl RI64 v3 p1]) ((0 : Int), a15) (b16) h (by repeat (first | exact SubF.nil | refine SubF.cons rfl ?_)) (SubM.refl _) (LentAll.refl _ _) ?_
            clear h
            intro k42 a40 b41 h
            unfold labels_cover_s2 at h
            refine J.seq ?_
            refine J.region ?_
            refine J.quiet (Y.lss rfl rfl) rfl ?_
            refine J.done ?_
            refine J.thenN ?_
            refine J.seq ?_
            refine J.condD (by exact rfl) (fun hp43 => ?_) (fun hp43 => ?_)
            · replace h := ifP hp43 h
              refine J.skip ?_
              refine J.thenN ?_
              refine J.seq ?_
              refine J.block ?_
              refine J.seq ?_
              refine J.region ?_
              refine J.quiet (Y.move rfl) rfl ?_
              refine J.quiet (Y.assign rfl) rfl ?_
              refine J.done ?_
              refine J.thenN ?_
              refine J.seq ?_
              refine J.midI (A := Bool × List (Int)) (B := Value) (fun a47 => labels_cover_k7 a40 (iter (labels_cover_s2 fuel p0 p1 a9) k42) a47 = some r) (fun a47 b48 => [(6, Value.int .i64 (List.length p1 : Int)), (7, Value.pointer (some ⟨b6.1, 0, none⟩)), (93, Value.int .i64 (List.length p1 : Int)), (94, Value.int .i64 (a40.1)), (112, Value.bool (a47.1))]) (fun a47 b48 => [Blk b6.1 [v0, v1, b6.2.1, b48] 75, Ar EI64 b48 a47.2, Ar EI64 b6.2.1 a9.2]) (fun a47 b48 => [Sl RI64 v0 p0.1, S2 RI64I64p v1 z2 p0.2, Sl RI64 v3 p1]) ?_ ?_
              · refine J.region ?_
                refine J.quiet (Y.fieldB rfl rfl rfl rfl rfl) rfl ?_
                refine J.quiet (Y.loadB 0 rfl rfl rfl rfl rfl) rfl ?_
                refine J.quiet (Y.move rfl) rfl ?_
                replace h := ck_some h; obtain ⟨hc50, h⟩ := h
                refine J.quiet (Y.indexS rfl rfl (Lent.ar (Lent.res 1 rfl) FI64) rfl rfl hc50) rfl ?_
                refine J.quiet (Y.loadS0 rfl (Lent.ar (Lent.res 1 rfl) FI64) rfl rfl rfl RI64c0 hc50) rfl ?_
                refine J.quiet (Y.eql rfl rfl) rfl ?_
                refine J.quiet (Y.move rfl) rfl ?_
                refine J.guardD (by exact rfl) (by exact rfl) (fun hp51 => ?_) (fun hp51 => ?_)
                · replace h := ifP hp51 h
                  refine J.guardY rfl (Y.move rfl) rfl ?_
                  replace h := bnd h; obtain ⟨r52, hr53, h⟩ := h
                  refine J.loudG rfl (Loud.callM (Min := [Blk b6.1 [v0, v1, b6.2.1, b41] 75, Ar EI64 b41 a40.2]) (Mr := [Ar EI64 b6.2.1 a9.2]) body57 (t___labels_coverer__set fuel b6.1 v0 v1 z2 b6.2.1 b41 r52 hr53) rfl (SubM.refl _) (LentAll.cons (Lent.fact 0 rfl) (LentAll.cons (Lent.fact 1 rfl) (LentAll.cons (Lent.ar (Lent.res 0 rfl) FI64) (LentAll.nil)))) (fun _ _ => rfl)) rfl fun x54 => ?_
                  refine J.guardY rfl (Y.not rfl) rfl ?_
                  refine J.quiet (Y.pickT rfl rfl) rfl ?_
                  refine J.quiet (Y.move rfl) rfl ?_
                  refine J.guard (by exact rfl) (by exact rfl) (fun hp55 => ?_) (fun hp55 => ?_)
                  · replace h := ifP hp55 h
                    refine J.guardY rfl (Y.move rfl) rfl ?_
                    replace h := bnd h; obtain ⟨r56, hr57, h⟩ := h
                    refine J.loudG rfl (Loud.callM (Min := [Blk b6.1 [v0, v1, b6.2.1, x54] 75, Ar EI64 x54 r52.2]) (Mr := [Ar EI64 b6.2.1 a9.2]) body57 (t___labels_coverer__set fuel b6.1 v0 v1 z2 b6.2.1 x54 r56 hr57) rfl (SubM.refl _) (LentAll.cons (Lent.fact 0 rfl) (LentAll.cons (Lent.fact 1 rfl) (LentAll.cons (Lent.ar (Lent.res 0 rfl) FI64) (LentAll.nil)))) (fun _ _ => rfl)) rfl fun x58 => ?_
                    refine J.guardY rfl (Y.not rfl) rfl ?_
                    refine J.quiet (Y.pickT rfl rfl) rfl ?_
                    refine J.done ?_
                    refine J.thenN ?_
                    exact J.meetI (((!r56.1)), r56.2) (x58) h (by repeat (first | exact SubF.nil | refine SubF.cons rfl ?_)) (SubM.refl _) (LentAll.refl _ _)
                  · replace h := ifBN hp55 h
                    refine J.guardN rfl rfl rfl ?_
                    refine J.guardN rfl rfl rfl ?_
                    refine J.guardN rfl rfl rfl ?_
                    refine J.quiet (Y.pickF rfl rfl) rfl ?_
                    refine J.done ?_
                    refine J.thenN ?_
                    exact J.meetI (false, r52.2) (x54) h (by repeat (first | exact SubF.nil | refine SubF.cons rfl ?_)) (SubM.refl _) (LentAll.refl _ _)
                · replace h := ifN hp51 h
                  refine J.guardN rfl rfl rfl ?_
                  refine J.guardN rfl rfl rfl ?_
                  refine J.guardN rfl rfl rfl ?_
                  refine J.quiet (Y.pickF rfl rfl) rfl ?_
                  refine J.quiet (Y.move rfl) rfl ?_
                  refine J.guardN rfl rfl rfl ?_
                  refine J.guardN rfl rfl rfl ?_
                  refine J.guardN rfl rfl rfl ?_
                  refine J.quiet (Y.pickF rfl rfl) rfl ?_
                  refine J.done ?_
                  refine J.thenN ?_
                  exact J.meetI (false, a40.2) (b41) h (by repeat (first | exact SubF.nil | refine SubF.cons rfl ?_)) (SubM.refl _) (LentAll.refl _ _)
              · clear h
                intro a47 b48 h
                unfold labels_cover_k7 at h
                refine J.cond (by exact rfl) (fun hp49 => ?_) (fun hp49 => ?_)
                · replace h := ifP hp49 h
                  refine J.seq ?_
                  refine J.region ?_
                  refine J.quiet (Y.assign rfl) rfl ?_
                  refine J.quiet (Y.assign rfl) rfl ?_
                  refine J.done ?_
                  refine J.thenN ?_
                  refine J.ret ?_
                  refine J.inR ?_
                  refine J.thenR ?_
                  refine J.thenR ?_
                  refine J.inR ?_
                  refine J.thenR ?_
                  refine J.stp (Stp.nilAr EI64I64p) ?_
                  obtain rfl := Option.some.inj h
                  exact J.retG2 (Value.slice none 0 0) rfl rfl (RV.tmp rfl) (RV.tmp rfl) (SubM.cons 0 rfl (SubM.nil)) LentAll.nil
                · replace h := ifBN hp49 h
                  refine J.skip ?_
                  refine J.inN ?_
                  refine J.thenN ?_
                  refine J.region ?_
                  refine J.quiet (Y.addW rfl rfl) rfl ?_
                  refine J.quiet (Y.move rfl) rfl ?_
                  refine J.done ?_
                  refine J.thenN ?_
                  exact J.againI ((wI .i64 (a40.1 + (1 : Int))), a47.2) (b48) h (by repeat (first | exact SubF.nil | refine SubF.cons rfl ?_)) (SubM.refl _) (LentAll.refl _ _)
            · replace h := ifN hp43 h
              refine J.exit ?_
              refine J.thenX ?_
              refine J.thenX ?_
              refine J.inX ?_
              refine J.thenN ?_
              exact J.meetI (a40.2) (b41) h (by repeat (first | exact SubF.nil | refine SubF.cons rfl ?_)) (SubM.refl _) (LentAll.refl _ _)
          · clear h
            intro a19 b20 h
            unfold labels_cover_k5 at h
            refine J.seq ?_
            refine J.region ?_
            refine J.quiet (Y.move rfl) rfl ?_
            replace h := ck_some h; obtain ⟨hc21, h⟩ := h
            refine J.loud (Loud.makeS (e := EI64I64p) (((0 : Int), (0 : Int))) rfl rfl rfl rfl hc21 rfl rfl rfl) rfl fun u22 => ?_
            refine J.quiet (Y.assign rfl) rfl ?_
            refine J.done ?_
            refine J.thenN ?_
            refine J.seq ?_
            refine J.midI (A := (List (Int × Int))) (B := Unit) (fun a24 => labels_cover_k6  a24 = some r) (fun a24 b25 => [(15, u22)]) (fun a24 b25 => [Ar EI64I64p u22 a24]) (fun a24 b25 => [Sl RI64 v0 p0.1, S2 RI64I64p v1 z2 p0.2, Sl RI64 v3 p1]) ?_ ?_
            · refine J.seq ?_
              refine J.region ?_
              refine J.quiet (Y.fieldB rfl rfl rfl rfl rfl) rfl ?_
              refine J.quiet (Y.loadB 1 rfl rfl rfl rfl rfl) rfl ?_
              refine J.quiet (Y.lenS rfl (Lent.ar (Lent.res 2 rfl) FI64) rfl) rfl ?_
              refine J.quiet (Y.move rfl) rfl ?_
              refine J.done ?_
              refine J.thenN ?_
              refine J.block ?_
              refine J.loopI (A := Int × (List (Int × Int))) (B := Unit) (labels_cover_s1 a19) (fun a29 b30 => [(15, u22), (117, b20), (118, Value.int .i64 (List.length a19 : Int)), (119, Value.int .i64 (a29.1))]) (fun a29 b30 => [Ar EI64I64p u22 a29.2, Ar EI64 b20 a19]) (fun a29 b30 => [Sl RI64 v0 p0.1, S2 RI64I64p v1 z2 p0.2, Sl RI64 v3 p1]) ((0 : Int), (List.replicate (Int.toNat (List.length p1 : Int)) ((0 : Int), (0 : Int)))) (()) h (by repeat (first | exact SubF.nil | refine SubF.cons rfl ?_)) (SubM.cons 0 rfl (SubM.cons 1 rfl (SubM.nil))) (LentAll.refl _ _) ?_
              clear h
              intro k31 a29 b30 h
              unfold labels_cover_s1 at h
              refine J.seq ?_
              refine J.region ?_
              refine J.quiet (Y.lss rfl rfl) rfl ?_
              refine J.done ?_
              refine J.thenN ?_
              refine J.seq ?_
              refine J.condD (by exact rfl) (fun hp32 => ?_) (fun hp32 => ?_)
              · replace h := ifP hp32 h
                refine J.skip ?_
                refine J.thenN ?_
                refine J.seq ?_
                refine J.block ?_
                refine J.seq ?_
                refine J.region ?_
                refine J.quiet (Y.move rfl) rfl ?_
                replace h := ck_some h; obtain ⟨hc33, h⟩ := h
                refine J.quiet (Y.indexS rfl rfl (Lent.ar (Lent.res 1 rfl) FI64) rfl rfl hc33) rfl ?_
                refine J.quiet (Y.loadS0 rfl (Lent.ar (Lent.res 1 rfl) FI64) rfl rfl rfl RI64c0 hc33) rfl ?_
                refine J.quiet (Y.assign rfl) rfl ?_
                refine J.quiet (Y.assign rfl) rfl ?_
                refine J.done ?_
                refine J.thenN ?_
                refine J.region ?_
                refine J.quiet (Y.move rfl) rfl ?_
                refine J.quiet (Y.move rfl) rfl ?_
                refine J.quiet (Y.move rfl) rfl ?_
                replace h := ck_some h; obtain ⟨hc34, h⟩ := h
                refine J.quiet (Y.indexS rfl rfl (Lent.ar (Lent.res 0 rfl) FI64I64p) rfl rfl hc34) rfl ?_
                refine J.quiet (Y.indexEl (i := 0) rfl rfl rfl rfl rfl (by decide)) rfl ?_
                refine J.loud0 (Loud.storeE (us := [Value.int .i64 (at' a19 a29.1)]) (o := 0) 0 (((at' a19 a29.1), ((at' a29.2 a29.1).2))) hc34 rfl rfl rfl rfl rfl rfl rfl rfl rfl rfl) fun x35 => ?_
                refine J.done ?_
                refine J.inN ?_
                refine J.thenN ?_
                refine J.region ?_
                refine J.quiet (Y.addW rfl rfl) rfl ?_
                refine J.quiet (Y.move rfl) rfl ?_
                refine J.done ?_
                refine J.thenN ?_
                exact J.againI ((wI .i64 (a29.1 + (1 : Int))), (List.set a29.2 (Int.toNat a29.1) ((at' a19 a29.1), ((at' a29.2 a29.1).2)))) (()) h (by repeat (first | exact SubF.nil | refine SubF.cons rfl ?_)) (SubM.refl _) (LentAll.refl _ _)
              · replace h := ifN hp32 h
                refine J.exit ?_
                refine J.thenX ?_
                refine J.thenX ?_
                refine J.inX ?_
                refine J.thenN ?_
                exact J.meetI (a29.2) (()) h (by repeat (first | exact SubF.nil | refine SubF.cons rfl ?_)) (SubM.cons 0 rfl (SubM.nil)) (LentAll.refl _ _)
            · clear h
              intro a24 b25 h
              unfold labels_cover_k6 at h
              refine J.seq ?_
              refine J.region ?_
              refine J.quiet (Y.move rfl) rfl ?_
              refine J.quiet (Y.assign rfl) rfl ?_
              refine J.quiet (Y.assign rfl) rfl ?_
              refine J.done ?_
              refine J.thenN ?_
              refine J.ret ?_
              obtain rfl := Option.some.inj h
              exact J.retG2 (u22) rfl rfl (RV.tmp rfl) (RV.tmp rfl) (SubM.refl _) LentAll.nil

end Go.Proofs.Ytmajgimhmfeliaa
end
section
set_option linter.unusedVariables false
set_option linter.unusedSimpArgs false
namespace Go.Proofs.Ytmajgimhmfeliaa
open Go.Sx
set_option linter.unusedVariables false
set_option linter.unusedSimpArgs false
def m_labels_Prove (fuel : Nat) (p0 : Int) (p1 : List (Int) × (List (List (Int × Int)))) (p2 : List (Int)) : Option ((List (Int × Int)) × Int) :=
  Option.bind (m_graph_Connected fuel ((p1.1, p1.2))) fun r2 => (if (!r2) = true then (some (([] : List (Int × Int)), (1 : Int))) else (Option.bind (m_labels_known fuel p0) fun r6 => (if (!r6) = true then (some (([] : List (Int × Int)), (2 : Int))) else (Option.bind (m_labels_fits fuel p0 ((p1.1, p1.2)) p2) fun r10 => (if (!r10) = true then (some (([] : List (Int × Int)), (7 : Int))) else (ck (0 ≤ (wI .i64 (p0 - (1 : Int))) ∧ (wI .i64 (p0 - (1 : Int))) < ((4 : Nat) : Int)) (if wI .i64 (p0 - (1 : Int)) = (0 : Int) then (Option.bind (m_labels_tree fuel ((p1.1, p1.2)) p2) fun r17 => (if (!r17.2) = true then (some (([] : List (Int × Int)), (7 : Int))) else (some (r17.1, (0 : Int))))) else (if wI .i64 (p0 - (1 : Int)) = (1 : Int) then (Option.bind (m_labels_leader fuel ((p1.1, p1.2)) p2) fun r22 => (if (!r22.2) = true then (some (([] : List (Int × Int)), (7 : Int))) else (some (r22.1, (0 : Int))))) else (if wI .i64 (p0 - (1 : Int)) = (2 : Int) then (none) else (Option.bind (m_labels_cover fuel ((p1.1, p1.2)) p2) fun r27 => (if (!r27.2) = true then (some (([] : List (Int × Int)), (7 : Int))) else (some (r27.1, (0 : Int))))))))))))))

theorem body12 : HasBody Try.prog 12 := Try.call12

set_option maxHeartbeats 4000000 in
set_option maxRecDepth 20000 in
theorem t_labels_Prove (fuel : Nat) {p0 : Int} {p1 : List (Int) × (List (List (Int × Int)))} {p2 : List (Int)} (v0 : Value)  (v1 : Value)  (z2 : List (Value × List (Int × Int)))  (v3 : Value) (r : (List (Int × Int)) × Int) (h : m_labels_Prove fuel p0 p1 p2 = some r) :
    Meets Try.prog 12 #[Value.int .i64 (p0), Value.agg #[v0, v1], v3] [Sl RI64 v0 p1.1, S2 RI64I64p v1 z2 p1.2, Sl RI64 v3 p2] (fun x : Value => Value.tuple #[x, Value.int .i64 (r.2)]) (fun x l => Ar EI64I64p x r.1 :: l) (fun _ l => l) := by
  refine Meets.of (vs := [Value.int .i64 (p0), Value.agg #[v0, v1], v3]) Try.func12 rfl Try.ntmps12 rfl fun c => ?_
  unfold m_labels_Prove at h
  refine J.seq ?_
  refine J.region ?_
  refine J.loud (Loud.box (cs := [v0, v1]) rfl rfl) rfl fun b1 => ?_
  refine J.quiet (Y.assign rfl) rfl ?_
  refine J.quiet (Y.assign rfl) rfl ?_
  refine J.done ?_
  refine J.thenN ?_
  refine J.seq ?_
  refine J.seq ?_
  refine J.region ?_
  refine J.quiet (Y.loadBAll 0 rfl rfl rfl rfl) rfl ?_
  replace h := bnd h; obtain ⟨r2, hr3, h⟩ := h
  refine J.loud (Loud.callL body29 (t_graph_Connected fuel v0 v1 z2 r2 hr3) rfl (LentAll.cons (Lent.fact 0 rfl) (LentAll.cons (Lent.fact 1 rfl) (LentAll.nil))) (fun _ _ => rfl)) rfl fun x4 => ?_
  refine J.quiet (Y.not rfl) rfl ?_
  refine J.done ?_
  refine J.thenN ?_
  refine J.cond (by exact rfl) (fun hp5 => ?_) (fun hp5 => ?_)
  · replace h := ifP hp5 h
    refine J.seq ?_
    refine J.region ?_
    refine J.quiet (Y.assign rfl) rfl ?_
    refine J.quiet (Y.assign rfl) rfl ?_
    refine J.done ?_
    refine J.thenN ?_
    refine J.ret ?_
    refine J.thenR ?_
    refine J.stp (Stp.nilAr EI64I64p) ?_
    obtain rfl := Option.some.inj h
    exact J.retG2 (Value.slice none 0 0) rfl rfl (RV.tmp rfl) (RV.tmp rfl) (SubM.cons 0 rfl (SubM.nil)) LentAll.nil
  · replace h := ifBN hp5 h
    refine J.skip ?_
    refine J.thenN ?_
    refine J.seq ?_
    refine J.seq ?_
    refine J.region ?_
    refine J.quiet (Y.move rfl) rfl ?_
    replace h := bnd h; obtain ⟨r6, hr7, h⟩ := h
    refine J.loud (Loud.callL body30 (t_labels_known fuel  r6 hr7) rfl (LentAll.nil) (fun _ _ => rfl)) rfl fun x8 => ?_
    refine J.quiet (Y.not rfl) rfl ?_
    refine J.done ?_
    refine J.thenN ?_
    refine J.cond (by exact rfl) (fun hp9 => ?_) (fun hp9 => ?_)
    · replace h := ifP hp9 h
      refine J.seq ?_
      refine J.region ?_
      refine J.quiet (Y.assign rfl) rfl ?_
      refine J.quiet (Y.assign rfl) rfl ?_
      refine J.done ?_
      refine J.thenN ?_
      refine J.ret ?_
      refine J.thenR ?_
      refine J.stp (Stp.nilAr EI64I64p) ?_
      obtain rfl := Option.some.inj h
      exact J.retG2 (Value.slice none 0 0) rfl rfl (RV.tmp rfl) (RV.tmp rfl) (SubM.cons 0 rfl (SubM.nil)) LentAll.nil
    · replace h := ifBN hp9 h
      refine J.skip ?_
      refine J.thenN ?_
      refine J.seq ?_
      refine J.seq ?_
      refine J.region ?_
      refine J.quiet (Y.move rfl) rfl ?_
      refine J.quiet (Y.loadBAll 0 rfl rfl rfl rfl) rfl ?_
      refine J.quiet (Y.move rfl) rfl ?_
      replace h := bnd h; obtain ⟨r10, hr11, h⟩ := h
      refine J.loud (Loud.callL body31 (t_labels_fits fuel v0 v1 z2 v3 r10 hr11) rfl (LentAll.cons (Lent.fact 0 rfl) (LentAll.cons (Lent.fact 1 rfl) (LentAll.cons (Lent.fact 2 rfl) (LentAll.nil)))) (fun _ _ => rfl)) rfl fun x12 => ?_
      refine J.quiet (Y.not rfl) rfl ?_
      refine J.done ?_
      refine J.thenN ?_
      refine J.cond (by exact rfl) (fun hp13 => ?_) (fun hp13 => ?_)
      · replace h := ifP hp13 h
        refine J.seq ?_
        refine J.region ?_
        refine J.quiet (Y.assign rfl) rfl ?_
        refine J.quiet (Y.assign rfl) rfl ?_
        refine J.done ?_
        refine J.thenN ?_
        refine J.ret ?_
        refine J.thenR ?_
        refine J.stp (Stp.nilAr EI64I64p) ?_
        obtain rfl := Option.some.inj h
        exact J.retG2 (Value.slice none 0 0) rfl rfl (RV.tmp rfl) (RV.tmp rfl) (SubM.cons 0 rfl (SubM.nil)) LentAll.nil
      · replace h := ifBN hp13 h
        refine J.skip ?_
        refine J.thenN ?_
        refine J.seq ?_
        refine J.region ?_
        refine J.quiet (Y.bld4 (r := Value.agg #[Value.func (.func 32) #[] #[], Value.func (.func 33) #[] #[], Value.func (.func 34) #[] #[], Value.func (.func 35) #[] #[]]) rfl rfl rfl rfl (by intro w; simp [Instr.build, Instr.fill, cells_intV, cells_boolV, cells_sliceV, cells_ptrV, cells_strV, cells_funcV, cells_agg])) rfl ?_
        refine J.loud (Loud.alloc (cs := [Value.nilFunc, Value.nilFunc, Value.nilFunc, Value.nilFunc]) rfl rfl) rfl fun b14 => ?_
        refine J.storeAll 0 (vs := [Value.func (.func 32) #[] #[], Value.func (.func 33) #[] #[], Value.func (.func 34) #[] #[], Value.func (.func 35) #[] #[]]) rfl rfl rfl rfl rfl rfl ?_
        refine J.done ?_
        refine J.thenN ?_
        refine J.seq ?_
        refine JR.start [0, 1, 3, 7, 0, 0, 63, 127, 255, 255, 511, 2047] 11 mixedOrders (by decide +kernel) ?_
        refine JR.open (by exact rfl) ?_
        refine JR.qt rfl (SubM.nil) (SubL.nil) (Y.move rfl) HistOk.z ?_
        refine JR.qt rfl (SubM.nil) (SubL.nil) (Y.subW rfl rfl) HistOk.z ?_
        replace h := ck_some h; obtain ⟨hc15, h⟩ := h
        by_cases hq16 : wI .i64 (p0 - (1 : Int)) = (0 : Int)
        · replace h := ifP hq16 h
          refine JR.qt rfl (SubM.nil) (SubL.nil) (Y.indexArrC 0 rfl rfl rfl rfl rfl hq16 rfl) HistOk.z ?_
          refine JR.qt rfl (SubM.cons 0 rfl (SubM.nil)) (SubL.nil) (Y.loadB 0 rfl rfl rfl rfl rfl) HistOk.z ?_
          refine JR.qt rfl (SubM.cons 1 rfl (SubM.nil)) (SubL.nil) (Y.loadBAll 0 rfl rfl rfl rfl) HistOk.z ?_
          refine JR.qt rfl (SubM.nil) (SubL.nil) (Y.move rfl) HistOk.z ?_
          replace h := bnd h; obtain ⟨r17, hr18, h⟩ := h
          refine JR.loud rfl rfl rfl (Loud.callVL (vs := [Value.agg #[v0, v1], v3]) (cs := []) body32 rfl (t_labels_tree fuel v0 v1 z2 v3 r17 hr18) rfl (LentAll.cons (Lent.fact 0 rfl) (LentAll.cons (Lent.fact 1 rfl) (LentAll.cons (Lent.fact 2 rfl) (LentAll.nil)))) (fun _ _ => rfl)) rfl (fun x19 => (BsOk.b rfl (BsOk.b rfl (BsOk.b rfl (BsOk.b rfl (BsOk.b rfl (BsOk.b rfl BsOk.z))))))) fun x19 => ?_
          refine JR.qt rfl (SubM.nil) (SubL.nil) (Y.move rfl) (HistOk.b rfl HistOk.z) ?_
          refine JR.qt rfl (SubM.nil) (SubL.nil) (Y.extract rfl rfl) (HistOk.b rfl HistOk.z) ?_
          refine JR.qt rfl (SubM.nil) (SubL.nil) (Y.extract rfl rfl) (HistOk.b rfl HistOk.z) ?_
          refine JR.qt rfl (SubM.nil) (SubL.nil) (Y.assign rfl) (HistOk.b rfl HistOk.z) ?_
          refine JR.tailD 11 rfl rfl ?_
          refine J.quiet (Y.assign rfl) rfl ?_
          refine J.done ?_
          refine J.thenN ?_
          refine J.seq ?_
          refine J.seq ?_
          refine J.region ?_
          refine J.quiet (Y.move rfl) rfl ?_
          refine J.quiet (Y.not rfl) rfl ?_
          refine J.done ?_
          refine J.thenN ?_
          refine J.cond (by exact rfl) (fun hp20 => ?_) (fun hp20 => ?_)
          · replace h := ifP hp20 h
            refine J.seq ?_
            refine J.region ?_
            refine J.quiet (Y.assign rfl) rfl ?_
            refine J.quiet (Y.assign rfl) rfl ?_
            refine J.done ?_
            refine J.thenN ?_
            refine J.ret ?_
            refine J.thenR ?_
            refine J.stp (Stp.nilAr EI64I64p) ?_
            obtain rfl := Option.some.inj h
            exact J.retG2 (Value.slice none 0 0) rfl rfl (RV.tmp rfl) (RV.tmp rfl) (SubM.cons 0 rfl (SubM.nil)) LentAll.nil
          · replace h := ifBN hp20 h
            refine J.skip ?_
            refine J.thenN ?_
            refine J.seq ?_
            refine J.region ?_
            refine J.quiet (Y.move rfl) rfl ?_
            refine J.quiet (Y.assign rfl) rfl ?_
            refine J.quiet (Y.assign rfl) rfl ?_
            refine J.done ?_
            refine J.thenN ?_
            refine J.ret ?_
            obtain rfl := Option.some.inj h
            exact J.retG2 (x19) rfl rfl (RV.tmp rfl) (RV.tmp rfl) (SubM.cons 0 rfl (SubM.nil)) LentAll.nil
        · replace h := ifN hq16 h
          by_cases hq21 : wI .i64 (p0 - (1 : Int)) = (1 : Int)
          · replace h := ifP hq21 h
            refine JR.qt rfl (SubM.nil) (SubL.nil) (Y.indexArrC 1 rfl rfl rfl rfl rfl hq21 rfl) HistOk.z ?_
            refine JR.qt rfl (SubM.cons 0 rfl (SubM.nil)) (SubL.nil) (Y.loadB 0 rfl rfl rfl rfl rfl) HistOk.z ?_
            refine JR.qt rfl (SubM.cons 1 rfl (SubM.nil)) (SubL.nil) (Y.loadBAll 0 rfl rfl rfl rfl) HistOk.z ?_
            refine JR.qt rfl (SubM.nil) (SubL.nil) (Y.move rfl) HistOk.z ?_
            replace h := bnd h; obtain ⟨r22, hr23, h⟩ := h
            refine JR.loud rfl rfl rfl (Loud.callVL (vs := [Value.agg #[v0, v1], v3]) (cs := []) body33 rfl (t_labels_leader fuel v0 v1 z2 v3 r22 hr23) rfl (LentAll.cons (Lent.fact 0 rfl) (LentAll.cons (Lent.fact 1 rfl) (LentAll.cons (Lent.fact 2 rfl) (LentAll.nil)))) (fun _ _ => rfl)) rfl (fun x24 => (BsOk.b rfl (BsOk.b rfl (BsOk.b rfl (BsOk.b rfl (BsOk.b rfl (BsOk.b rfl BsOk.z))))))) fun x24 => ?_
            refine JR.qt rfl (SubM.nil) (SubL.nil) (Y.move rfl) (HistOk.b rfl HistOk.z) ?_
            refine JR.qt rfl (SubM.nil) (SubL.nil) (Y.extract rfl rfl) (HistOk.b rfl HistOk.z) ?_
            refine JR.qt rfl (SubM.nil) (SubL.nil) (Y.extract rfl rfl) (HistOk.b rfl HistOk.z) ?_
            refine JR.qt rfl (SubM.nil) (SubL.nil) (Y.assign rfl) (HistOk.b rfl HistOk.z) ?_
            refine JR.tailD 11 rfl rfl ?_
            refine J.quiet (Y.assign rfl) rfl ?_
            refine J.done ?_
            refine J.thenN ?_
            refine J.seq ?_
            refine J.seq ?_
            refine J.region ?_
            refine J.quiet (Y.move rfl) rfl ?_
            refine J.quiet (Y.not rfl) rfl ?_
            refine J.done ?_
            refine J.thenN ?_
            refine J.cond (by exact rfl) (fun hp25 => ?_) (fun hp25 => ?_)
            · replace h := ifP hp25 h
              refine J.seq ?_
              refine J.region ?_
              refine J.quiet (Y.assign rfl) rfl ?_
              refine J.quiet (Y.assign rfl) rfl ?_
              refine J.done ?_
              refine J.thenN ?_
              refine J.ret ?_
              refine J.thenR ?_
              refine J.stp (Stp.nilAr EI64I64p) ?_
              obtain rfl := Option.some.inj h
              exact J.retG2 (Value.slice none 0 0) rfl rfl (RV.tmp rfl) (RV.tmp rfl) (SubM.cons 0 rfl (SubM.nil)) LentAll.nil
            · replace h := ifBN hp25 h
              refine J.skip ?_
              refine J.thenN ?_
              refine J.seq ?_
              refine J.region ?_
              refine J.quiet (Y.move rfl) rfl ?_
              refine J.quiet (Y.assign rfl) rfl ?_
              refine J.quiet (Y.assign rfl) rfl ?_
              refine J.done ?_
              refine J.thenN ?_
              refine J.ret ?_
              obtain rfl := Option.some.inj h
              exact J.retG2 (x24) rfl rfl (RV.tmp rfl) (RV.tmp rfl) (SubM.cons 0 rfl (SubM.nil)) LentAll.nil
          · replace h := ifN hq21 h
            by_cases hq26 : wI .i64 (p0 - (1 : Int)) = (2 : Int)
            · replace h := ifP hq26 h
              refine JR.qt rfl (SubM.nil) (SubL.nil) (Y.indexArrC 2 rfl rfl rfl rfl rfl hq26 rfl) HistOk.z ?_
              refine JR.qt rfl (SubM.cons 0 rfl (SubM.nil)) (SubL.nil) (Y.loadB 0 rfl rfl rfl rfl rfl) HistOk.z ?_
              refine JR.qt rfl (SubM.cons 1 rfl (SubM.nil)) (SubL.nil) (Y.loadBAll 0 rfl rfl rfl rfl) HistOk.z ?_
              refine JR.qt rfl (SubM.nil) (SubL.nil) (Y.move rfl) HistOk.z ?_
              cases h
            · replace h := ifN hq26 h
              refine JR.qt rfl (SubM.nil) (SubL.nil) (Y.indexArrC 3 rfl rfl rfl rfl rfl (by omega) rfl) HistOk.z ?_
              refine JR.qt rfl (SubM.cons 0 rfl (SubM.nil)) (SubL.nil) (Y.loadB 0 rfl rfl rfl rfl rfl) HistOk.z ?_
              refine JR.qt rfl (SubM.cons 1 rfl (SubM.nil)) (SubL.nil) (Y.loadBAll 0 rfl rfl rfl rfl) HistOk.z ?_
              refine JR.qt rfl (SubM.nil) (SubL.nil) (Y.move rfl) HistOk.z ?_
              replace h := bnd h; obtain ⟨r27, hr28, h⟩ := h
              refine JR.loud rfl rfl rfl (Loud.callVL (vs := [Value.agg #[v0, v1], v3]) (cs := []) body35 rfl (t_labels_cover fuel v0 v1 z2 v3 r27 hr28) rfl (LentAll.cons (Lent.fact 0 rfl) (LentAll.cons (Lent.fact 1 rfl) (LentAll.cons (Lent.fact 2 rfl) (LentAll.nil)))) (fun _ _ => rfl)) rfl (fun x29 => (BsOk.b rfl (BsOk.b rfl (BsOk.b rfl (BsOk.b rfl (BsOk.b rfl (BsOk.b rfl BsOk.z))))))) fun x29 => ?_
              refine JR.qt rfl (SubM.nil) (SubL.nil) (Y.move rfl) (HistOk.b rfl HistOk.z) ?_
              refine JR.qt rfl (SubM.nil) (SubL.nil) (Y.extract rfl rfl) (HistOk.b rfl HistOk.z) ?_
              refine JR.qt rfl (SubM.nil) (SubL.nil) (Y.extract rfl rfl) (HistOk.b rfl HistOk.z) ?_
              refine JR.qt rfl (SubM.nil) (SubL.nil) (Y.assign rfl) (HistOk.b rfl HistOk.z) ?_
              refine JR.tailD 11 rfl rfl ?_
              refine J.quiet (Y.assign rfl) rfl ?_
              refine J.done ?_
              refine J.thenN ?_
              refine J.seq ?_
              refine J.seq ?_
              refine J.region ?_
              refine J.quiet (Y.move rfl) rfl ?_
              refine J.quiet (Y.not rfl) rfl ?_
              refine J.done ?_
              refine J.thenN ?_
              refine J.cond (by exact rfl) (fun hp30 => ?_) (fun hp30 => ?_)
              · replace h := ifP hp30 h
                refine J.seq ?_
                refine J.region ?_
                refine J.quiet (Y.assign rfl) rfl ?_
                refine J.quiet (Y.assign rfl) rfl ?_
                refine J.done ?_
                refine J.thenN ?_
                refine J.ret ?_
                refine J.thenR ?_
                refine J.stp (Stp.nilAr EI64I64p) ?_
                obtain rfl := Option.some.inj h
                exact J.retG2 (Value.slice none 0 0) rfl rfl (RV.tmp rfl) (RV.tmp rfl) (SubM.cons 0 rfl (SubM.nil)) LentAll.nil
              · replace h := ifBN hp30 h
                refine J.skip ?_
                refine J.thenN ?_
                refine J.seq ?_
                refine J.region ?_
                refine J.quiet (Y.move rfl) rfl ?_
                refine J.quiet (Y.assign rfl) rfl ?_
                refine J.quiet (Y.assign rfl) rfl ?_
                refine J.done ?_
                refine J.thenN ?_
                refine J.ret ?_
                obtain rfl := Option.some.inj h
                exact J.retG2 (x29) rfl rfl (RV.tmp rfl) (RV.tmp rfl) (SubM.cons 0 rfl (SubM.nil)) LentAll.nil

end Go.Proofs.Ytmajgimhmfeliaa
end
section
set_option linter.unusedVariables false
set_option linter.unusedSimpArgs false
namespace Go.Proofs.Ytmajgimhmfeliaa
open Go.Sx
set_option linter.unusedVariables false
set_option linter.unusedSimpArgs false
def law39_same_k1  (a2 : Unit) : Option (Bool) :=
  some (true)
def law39_same_s1 (p0 : List (Int × Int)) (p1 : List (Int × Int)) (a6 : Int) (ag5 : (Int) → Option (Bool)) : Option (Bool) :=
  if a6 < (List.length p0 : Int) then (ck (0 ≤ a6 ∧ a6 < (List.length p0 : Int)) (ck (0 ≤ a6 ∧ a6 < (List.length p1 : Int)) (if (((at' p0 a6).1), ((at' p0 a6).2)) ≠ (((at' p1 a6).1), ((at' p1 a6).2)) then (some (false)) else (ag5 (wI .i64 (a6 + (1 : Int))))))) else (law39_same_k1  (()))
def m_law39_same (fuel : Nat) (p0 : List (Int × Int)) (p1 : List (Int × Int)) : Option (Bool) :=
  if (List.length p0 : Int) ≠ (List.length p1 : Int) then (some (false)) else (iter (law39_same_s1 p0 p1) fuel (0 : Int))

theorem body21 : HasBody Try.prog 21 := Try.call21

set_option maxHeartbeats 4000000 in
set_option maxRecDepth 20000 in
theorem t_law39_same (fuel : Nat) {p0 : List (Int × Int)} {p1 : List (Int × Int)} (v0 : Value)  (v1 : Value) (r : Bool) (h : m_law39_same fuel p0 p1 = some r) :
    Meets Try.prog 21 #[v0, v1] [Sl RI64I64p v0 p0, Sl RI64I64p v1 p1] (fun x : Unit => Value.bool (r)) (fun x l => l) (fun _ l => l) := by
  refine Meets.of (vs := [v0, v1]) Try.func21 rfl Try.ntmps21 rfl fun c => ?_
  unfold m_law39_same at h
  refine J.seq ?_
  refine J.region ?_
  refine J.quiet (Y.assign rfl) rfl ?_
  refine J.done ?_
  refine J.thenN ?_
  refine J.seq ?_
  refine J.seq ?_
  refine J.region ?_
  refine J.quiet (Y.move rfl) rfl ?_
  refine J.quiet (Y.lenS rfl (Lent.fact 0 rfl) rfl) rfl ?_
  refine J.quiet (Y.move rfl) rfl ?_
  refine J.quiet (Y.lenS rfl (Lent.fact 1 rfl) rfl) rfl ?_
  refine J.quiet (Y.neq rfl rfl) rfl ?_
  refine J.done ?_
  refine J.thenN ?_
  refine J.condD (by exact rfl) (fun hp1 => ?_) (fun hp1 => ?_)
  · replace h := ifP hp1 h
    refine J.seq ?_
    refine J.region ?_
    refine J.quiet (Y.assign rfl) rfl ?_
    refine J.done ?_
    refine J.thenN ?_
    refine J.ret ?_
    refine J.thenR ?_
    obtain rfl := Option.some.inj h
    exact J.retG1 (()) rfl rfl (RV.tmp rfl) (SubM.refl _) LentAll.nil
  · replace h := ifN hp1 h
    refine J.skip ?_
    refine J.thenN ?_
    refine J.seq ?_
    refine J.midI (A := Unit) (B := Unit) (fun a2 => law39_same_k1  a2 = some r) (fun a2 b3 => []) (fun a2 b3 => []) (fun a2 b3 => [Sl RI64I64p v0 p0, Sl RI64I64p v1 p1]) ?_ ?_
    · refine J.seq ?_
      refine J.region ?_
      refine J.quiet (Y.assign rfl) rfl ?_
      refine J.done ?_
      refine J.thenN ?_
      refine J.block ?_
      refine J.loopI (A := Int) (B := Unit) (law39_same_s1 p0 p1) (fun a6 b7 => [(0, v0), (1, v1), (5, Value.int .i64 (a6))]) (fun a6 b7 => []) (fun a6 b7 => [Sl RI64I64p v0 p0, Sl RI64I64p v1 p1]) (0 : Int) (()) h (by repeat (first | exact SubF.nil | refine SubF.cons rfl ?_)) (SubM.refl _) (LentAll.refl _ _) ?_
      clear h
      intro k8 a6 b7 h
      unfold law39_same_s1 at h
      refine J.seq ?_
      refine J.seq ?_
      refine J.region ?_
      refine J.quiet (Y.move rfl) rfl ?_
      refine J.quiet (Y.move rfl) rfl ?_
      refine J.quiet (Y.lenS rfl (Lent.fact 0 rfl) rfl) rfl ?_
      refine J.quiet (Y.lss rfl rfl) rfl ?_
      refine J.done ?_
      refine J.thenN ?_
      refine J.condD (by exact rfl) (fun hp9 => ?_) (fun hp9 => ?_)
      · replace h := ifP hp9 h
        refine J.skip ?_
        refine J.thenN ?_
        refine J.seq ?_
        refine J.block ?_
        refine J.seq ?_
        refine JR.start [0, 0, 3, 7, 0, 0, 48, 112, 255] 8 mixedOrders (by decide +kernel) ?_
        refine JR.open (by exact rfl) ?_
        refine JR.qt rfl (SubM.refl _) (SubL.nil) (Y.move rfl) HistOk.z ?_
        refine JR.qt rfl (SubM.refl _) (SubL.nil) (Y.move rfl) HistOk.z ?_
        replace h := ck_some h; obtain ⟨hc10, h⟩ := h
        refine JR.qt rfl (SubM.refl _) (SubL.cons (List.mem_of_getElem? (i := 0) rfl) (SubL.nil)) (Y.indexS rfl rfl (Lent.fact 0 rfl) rfl rfl hc10) HistOk.z ?_
        refine JR.qt rfl (SubM.refl _) (SubL.cons (List.mem_of_getElem? (i := 0) rfl) (SubL.nil)) (Y.loadAggS (cs := [Value.int .i64 ((at' p0 a6).1), Value.int .i64 ((at' p0 a6).2)]) rfl (Lent.fact 0 rfl) FI64I64p rfl rfl rfl rfl hc10) HistOk.z ?_
        refine JR.qt rfl (SubM.refl _) (SubL.nil) (Y.move rfl) HistOk.z ?_
        refine JR.qt rfl (SubM.refl _) (SubL.nil) (Y.move rfl) HistOk.z ?_
        replace h := ck_some h; obtain ⟨hc11, h⟩ := h
        refine JR.qt rfl (SubM.refl _) (SubL.cons (List.mem_of_getElem? (i := 1) rfl) (SubL.nil)) (Y.indexS rfl rfl (Lent.fact 0 rfl) rfl rfl hc11) HistOk.z ?_
        refine JR.qt rfl (SubM.refl _) (SubL.cons (List.mem_of_getElem? (i := 1) rfl) (SubL.nil)) (Y.loadAggS (cs := [Value.int .i64 ((at' p1 a6).1), Value.int .i64 ((at' p1 a6).2)]) rfl (Lent.fact 0 rfl) FI64I64p rfl rfl rfl rfl hc11) HistOk.z ?_
        refine JR.tailD 8 rfl rfl ?_
        refine J.quiet (Y.eqAN rfl rfl (eq_T42N (((at' p0 a6).1), ((at' p0 a6).2)) (((at' p1 a6).1), ((at' p1 a6).2)) _ _)) rfl ?_
        refine J.done ?_
        refine J.thenN ?_
        refine J.condD (by exact rfl) (fun hp12 => ?_) (fun hp12 => ?_)
        · replace h := ifP hp12 h
          refine J.seq ?_
          refine J.region ?_
          refine J.quiet (Y.assign rfl) rfl ?_
          refine J.done ?_
          refine J.thenN ?_
          refine J.ret ?_
          refine J.inR ?_
          refine J.thenR ?_
          refine J.thenR ?_
          refine J.inR ?_
          refine J.thenR ?_
          obtain rfl := Option.some.inj h
          exact J.retG1 (()) rfl rfl (RV.tmp rfl) (SubM.refl _) LentAll.nil
        · replace h := ifN hp12 h
          refine J.skip ?_
          refine J.inN ?_
          refine J.thenN ?_
          refine J.region ?_
          refine J.quiet (Y.move rfl) rfl ?_
          refine J.quiet (Y.addW rfl rfl) rfl ?_
          refine J.quiet (Y.assign rfl) rfl ?_
          refine J.done ?_
          refine J.thenN ?_
          exact J.againI (wI .i64 (a6 + (1 : Int))) (()) h (by repeat (first | exact SubF.nil | refine SubF.cons rfl ?_)) (SubM.refl _) (LentAll.refl _ _)
      · replace h := ifN hp9 h
        refine J.exit ?_
        refine J.thenX ?_
        refine J.thenX ?_
        refine J.inX ?_
        refine J.thenN ?_
        exact J.meetI (()) (()) h (by repeat (first | exact SubF.nil | refine SubF.cons rfl ?_)) (SubM.refl _) (LentAll.refl _ _)
    · clear h
      intro a2 b3 h
      unfold law39_same_k1 at h
      refine J.seq ?_
      refine J.region ?_
      refine J.quiet (Y.assign rfl) rfl ?_
      refine J.done ?_
      refine J.thenN ?_
      refine J.ret ?_
      obtain rfl := Option.some.inj h
      exact J.retG1 (()) rfl rfl (RV.tmp rfl) (SubM.refl _) LentAll.nil

end Go.Proofs.Ytmajgimhmfeliaa
end
section
set_option linter.unusedVariables false
set_option linter.unusedSimpArgs false
namespace Go.Proofs.Ytmajgimhmfeliaa
open Go.Sx
set_option linter.unusedVariables false
set_option linter.unusedSimpArgs false
def world_Within_k1  (a4 : Int) : Option (Int) :=
  some (a4)
def m_world_Within (fuel : Nat) (p0 : Int) (p1 : Int) : Option (Int) :=
  if p1 < (1 : Int) then (some (0 : Int)) else (ck (p1 ≠ 0) (if (Int.tmod p0 p1) < (0 : Int) then (world_Within_k1  (wI .i64 ((Int.tmod p0 p1) + p1))) else (world_Within_k1  (Int.tmod p0 p1))))

theorem body14 : HasBody Try.prog 14 := Try.call14

set_option maxHeartbeats 4000000 in
set_option maxRecDepth 20000 in
theorem t_world_Within (fuel : Nat) {p0 : Int} {p1 : Int} (r : Int) (h : m_world_Within fuel p0 p1 = some r) :
    Meets Try.prog 14 #[Value.int .i64 (p0), Value.int .i64 (p1)] [] (fun x : Unit => Value.int .i64 (r)) (fun x l => l) (fun _ l => l) := by
  refine Meets.of (vs := [Value.int .i64 (p0), Value.int .i64 (p1)]) Try.func14 rfl Try.ntmps14 rfl fun c => ?_
  unfold m_world_Within at h
  refine J.seq ?_
  refine J.region ?_
  refine J.quiet (Y.assign rfl) rfl ?_
  refine J.done ?_
  refine J.thenN ?_
  refine J.seq ?_
  refine J.seq ?_
  refine J.region ?_
  refine J.quiet (Y.move rfl) rfl ?_
  refine J.quiet (Y.lss rfl rfl) rfl ?_
  refine J.done ?_
  refine J.thenN ?_
  refine J.condD (by exact rfl) (fun hp1 => ?_) (fun hp1 => ?_)
  · replace h := ifP hp1 h
    refine J.seq ?_
    refine J.region ?_
    refine J.quiet (Y.assign rfl) rfl ?_
    refine J.done ?_
    refine J.thenN ?_
    refine J.ret ?_
    refine J.thenR ?_
    obtain rfl := Option.some.inj h
    exact J.retG1 (()) rfl rfl (RV.tmp rfl) (SubM.refl _) LentAll.nil
  · replace h := ifN hp1 h
    refine J.skip ?_
    refine J.thenN ?_
    refine J.seq ?_
    refine J.region ?_
    refine J.quiet (Y.move rfl) rfl ?_
    refine J.quiet (Y.move rfl) rfl ?_
    replace h := ck_some h; obtain ⟨hc2, h⟩ := h
    refine J.quiet (Y.rem rfl rfl hc2) rfl ?_
    refine J.quiet (Y.assign rfl) rfl ?_
    refine J.done ?_
    refine J.thenN ?_
    refine J.seq ?_
    refine J.midI (A := Int) (B := Unit) (fun a4 => world_Within_k1  a4 = some r) (fun a4 b5 => [(0, Value.int .i64 (a4))]) (fun a4 b5 => []) (fun a4 b5 => []) ?_ ?_
    · refine J.seq ?_
      refine J.region ?_
      refine J.quiet (Y.move rfl) rfl ?_
      refine J.quiet (Y.lss rfl rfl) rfl ?_
      refine J.done ?_
      refine J.thenN ?_
      refine J.condD (by exact rfl) (fun hp6 => ?_) (fun hp6 => ?_)
      · replace h := ifP hp6 h
        refine J.region ?_
        refine J.quiet (Y.move rfl) rfl ?_
        refine J.quiet (Y.move rfl) rfl ?_
        refine J.quiet (Y.addW rfl rfl) rfl ?_
        refine J.quiet (Y.assign rfl) rfl ?_
        refine J.done ?_
        refine J.thenN ?_
        exact J.meetI (wI .i64 ((Int.tmod p0 p1) + p1)) (()) h (by repeat (first | exact SubF.nil | refine SubF.cons rfl ?_)) (SubM.refl _) (LentAll.refl _ _)
      · replace h := ifN hp6 h
        refine J.skip ?_
        refine J.thenN ?_
        exact J.meetI (Int.tmod p0 p1) (()) h (by repeat (first | exact SubF.nil | refine SubF.cons rfl ?_)) (SubM.refl _) (LentAll.refl _ _)
    · clear h
      intro a4 b5 h
      unfold world_Within_k1 at h
      refine J.seq ?_
      refine J.region ?_
      refine J.quiet (Y.move rfl) rfl ?_
      refine J.quiet (Y.assign rfl) rfl ?_
      refine J.done ?_
      refine J.thenN ?_
      refine J.ret ?_
      obtain rfl := Option.some.inj h
      exact J.retG1 (()) rfl rfl (RV.tmp rfl) (SubM.refl _) LentAll.nil

end Go.Proofs.Ytmajgimhmfeliaa
end
section
set_option linter.unusedVariables false
set_option linter.unusedSimpArgs false
namespace Go.Proofs.Ytmajgimhmfeliaa
open Go.Sx
set_option linter.unusedVariables false
set_option linter.unusedSimpArgs false
def m_world_at (fuel : Nat) (p0 : List (Int)) (p1 : Int) : Option (Int) :=
  if p1 < (List.length p0 : Int) then (ck (0 ≤ p1 ∧ p1 < (List.length p0 : Int)) (some (at' p0 p1))) else (some (0 : Int))

theorem body52 : HasBody Try.prog 52 := Try.call52

set_option maxHeartbeats 4000000 in
set_option maxRecDepth 20000 in
theorem t_world_at (fuel : Nat) {p0 : List (Int)} {p1 : Int} (v0 : Value) (r : Int) (h : m_world_at fuel p0 p1 = some r) :
    Meets Try.prog 52 #[v0, Value.int .i64 (p1)] [Sl RI64 v0 p0] (fun x : Unit => Value.int .i64 (r)) (fun x l => l) (fun _ l => l) := by
  refine Meets.of (vs := [v0, Value.int .i64 (p1)]) Try.func52 rfl Try.ntmps52 rfl fun c => ?_
  unfold m_world_at at h
  refine J.seq ?_
  refine J.region ?_
  refine J.quiet (Y.assign rfl) rfl ?_
  refine J.done ?_
  refine J.thenN ?_
  refine J.seq ?_
  refine J.seq ?_
  refine J.region ?_
  refine J.quiet (Y.move rfl) rfl ?_
  refine J.quiet (Y.move rfl) rfl ?_
  refine J.quiet (Y.lenS rfl (Lent.fact 0 rfl) rfl) rfl ?_
  refine J.quiet (Y.lss rfl rfl) rfl ?_
  refine J.done ?_
  refine J.thenN ?_
  refine J.condD (by exact rfl) (fun hp1 => ?_) (fun hp1 => ?_)
  · replace h := ifP hp1 h
    refine J.seq ?_
    refine J.region ?_
    refine J.quiet (Y.move rfl) rfl ?_
    refine J.quiet (Y.move rfl) rfl ?_
    replace h := ck_some h; obtain ⟨hc2, h⟩ := h
    refine J.quiet (Y.indexS rfl rfl (Lent.fact 0 rfl) rfl rfl hc2) rfl ?_
    refine J.quiet (Y.loadS0 rfl (Lent.fact 0 rfl) rfl rfl rfl RI64c0 hc2) rfl ?_
    refine J.quiet (Y.assign rfl) rfl ?_
    refine J.done ?_
    refine J.thenN ?_
    refine J.ret ?_
    refine J.thenR ?_
    obtain rfl := Option.some.inj h
    exact J.retG1 (()) rfl rfl (RV.tmp rfl) (SubM.refl _) LentAll.nil
  · replace h := ifN hp1 h
    refine J.skip ?_
    refine J.thenN ?_
    refine J.seq ?_
    refine J.region ?_
    refine J.quiet (Y.assign rfl) rfl ?_
    refine J.done ?_
    refine J.thenN ?_
    refine J.ret ?_
    obtain rfl := Option.some.inj h
    exact J.retG1 (()) rfl rfl (RV.tmp rfl) (SubM.refl _) LentAll.nil

end Go.Proofs.Ytmajgimhmfeliaa
end
section
set_option linter.unusedVariables false
set_option linter.unusedSimpArgs false
namespace Go.Proofs.Ytmajgimhmfeliaa
open Go.Sx
set_option linter.unusedVariables false
set_option linter.unusedSimpArgs false
def _world_Net__nodes_k1 (r3 : Int) (a13 : List (Int)) : Option ((List (Int) × (List (List (Int × Int))))) :=
  some ((a13, (List.replicate (Int.toNat (wI .i64 ((1 : Int) + r3))) ([] : List (Int × Int)))))
def _world_Net__nodes_k2 (a21 : Int × List (Int)) (ag20 : (Int × List (Int)) → Option ((List (Int) × (List (List (Int × Int)))))) (a32 : Int) : Option ((List (Int) × (List (List (Int × Int))))) :=
  ck ((List.length a21.2 : Int) + (List.length ([a32]) : Int) ≤ 1099511627) (ag20 ((wI .i64 (a21.1 + (1 : Int))), (a21.2 ++ [a32])))
def _world_Net__nodes_k3 (ag40 : (Int × Int) → Option ((List (Int) × (List (List (Int × Int)))))) (a47 : Int × Int) : Option ((List (Int) × (List (List (Int × Int))))) :=
  ag40 (a47.1, (wI .i64 (a47.2 + (1 : Int))))
def _world_Net__nodes_s2 (a21 : Int × List (Int)) (ag20 : (Int × List (Int)) → Option ((List (Int) × (List (List (Int × Int)))))) (a41 : Int × Int) (ag40 : (Int × Int) → Option ((List (Int) × (List (List (Int × Int)))))) : Option ((List (Int) × (List (List (Int × Int))))) :=
  if a41.2 < a21.1 then (ck (0 ≤ a41.2 ∧ a41.2 < (List.length a21.2 : Int)) (if (at' a21.2 a41.2) = a41.1 then (ck ((256 : Int) ≠ 0) (_world_Net__nodes_k3 ag40 ((Int.tmod (wI .i64 (a41.1 + (1 : Int))) (256 : Int)), (-1 : Int)))) else (_world_Net__nodes_k3 ag40 (a41.1, a41.2)))) else (_world_Net__nodes_k2 a21 ag20 (a41.1))
def _world_Net__nodes_s1 (fuel : Nat) (p0 : Int × List (Int) × List (Int) × List (Int) × Bool × Bool) (r3 : Int) (a21 : Int × List (Int)) (ag20 : (Int × List (Int)) → Option ((List (Int) × (List (List (Int × Int)))))) : Option ((List (Int) × (List (List (Int × Int))))) :=
  if a21.1 < (wI .i64 ((1 : Int) + r3)) then (Option.bind (m_world_at fuel p0.2.2.2.1 a21.1) fun r25 => (Option.bind (m_world_Within fuel r25 (256 : Int)) fun r28 => (iter (_world_Net__nodes_s2 a21 ag20) fuel (r28, (0 : Int))))) else (_world_Net__nodes_k1 r3 (a21.2))
def m__world_Net__nodes (fuel : Nat) (p0 : Int × List (Int) × List (Int) × List (Int) × Bool × Bool) (p1 : Int) : Option ((List (Int) × (List (List (Int × Int))))) :=
  Option.bind (m_world_Within fuel (wI .i64 (p0.1 - (1 : Int))) p1) fun r3 => (ck (0 ≤ (wI .i64 ((1 : Int) + r3)) ∧ (wI .i64 ((1 : Int) + r3)) ≤ 1099511627) (iter (_world_Net__nodes_s1 fuel p0 r3) fuel ((0 : Int), ([] : List Int))))

theorem body44 : HasBody Try.prog 44 := Try.call44

set_option maxHeartbeats 4000000 in
set_option maxRecDepth 20000 in
theorem t__world_Net__nodes (fuel : Nat) {p0 : Int × List (Int) × List (Int) × List (Int) × Bool × Bool} {p1 : Int} (v0 : Value)  (v1 : Value)  (v2 : Value) (r : (List (Int) × (List (List (Int × Int))))) (h : m__world_Net__nodes fuel p0 p1 = some r) :
    Meets Try.prog 44 #[Value.agg #[Value.int .i64 (p0.1), v0, v1, v2, Value.bool (p0.2.2.2.2.1), Value.bool (p0.2.2.2.2.2)], Value.int .i64 (p1)] [Sl RI64 v0 p0.2.1, Sl RI64 v1 p0.2.2.1, Sl RI64 v2 p0.2.2.2.1] (fun x : Value × Value × List Value => Value.agg #[x.1, x.2.1]) (fun x l => Ar EI64 x.1 r.1 :: Ar Enc.raw x.2.1 x.2.2 :: Rws EI64I64p x.2.2 r.2 :: l) (fun _ l => l) := by
  refine Meets.of (vs := [Value.agg #[Value.int .i64 (p0.1), v0, v1, v2, Value.bool (p0.2.2.2.2.1), Value.bool (p0.2.2.2.2.2)], Value.int .i64 (p1)]) Try.func44 rfl Try.ntmps44 rfl fun c => ?_
  unfold m__world_Net__nodes at h
  refine J.seq ?_
  refine J.region ?_
  refine J.loud (Loud.box (cs := [Value.int .i64 (p0.1), v0, v1, v2, Value.bool (p0.2.2.2.2.1), Value.bool (p0.2.2.2.2.2)]) rfl rfl) rfl fun b1 => ?_
  refine J.loud (Loud.alloc (cs := [Value.slice none 0 0, Value.slice none 0 0]) rfl rfl) rfl fun b2 => ?_
  refine J.done ?_
  refine J.thenN ?_
  refine J.seq ?_
  refine J.region ?_
  refine J.quiet (Y.fieldB rfl rfl rfl rfl rfl) rfl ?_
  refine J.quiet (Y.loadB 1 rfl rfl rfl rfl rfl) rfl ?_
  refine J.quiet (Y.subW rfl rfl) rfl ?_
  refine J.quiet (Y.move rfl) rfl ?_
  replace h := bnd h; obtain ⟨r3, hr4, h⟩ := h
  refine J.loud (Loud.callL body14 (t_world_Within fuel  r3 hr4) rfl (LentAll.nil) (fun _ _ => rfl)) rfl fun x5 => ?_
  refine J.quiet (Y.addW rfl rfl) rfl ?_
  refine J.quiet (Y.assign rfl) rfl ?_
  refine J.done ?_
  refine J.thenN ?_
  refine J.seq ?_
  refine J.region ?_
  refine J.quiet (Y.move rfl) rfl ?_
  replace h := ck_some h; obtain ⟨hc6, h⟩ := h
  refine J.stp (Stp.rowsNew EI64I64p (Int.toNat (wI .i64 ((1 : Int) + r3)))) ?_
  refine J.loud (Loud.makeS (e := Enc.raw) (Value.slice none 0 0) rfl rfl rfl rfl hc6 rfl rfl rfl) rfl fun u7 => ?_
  refine J.know (Know.one (Lent.sl (Lent.rows (i := 0) (j := 1) rfl rfl FI64I64p))) fun ho8 => ?_
  refine J.quiet (Y.bld1 (r := Value.agg #[Value.slice none 0 0, u7]) rfl (by intro w; simp [Instr.build, Instr.fill, cells_intV, cells_boolV, cells_sliceV, cells_ptrV, cells_strV, cells_funcV, cells_agg, one_cells ho8])) rfl ?_
  refine J.loud (Loud.alloc (cs := [Value.slice none 0 0, Value.slice none 0 0]) rfl rfl) rfl fun b9 => ?_
  refine J.know (Know.one (Lent.sl (Lent.rows (i := 1) (j := 2) rfl rfl FI64I64p))) fun ho10 => ?_
  refine J.storeAll 0 (vs := [Value.slice none 0 0, u7]) rfl rfl (all1 rfl (all1 ho10 rfl)) rfl rfl rfl ?_
  refine J.done ?_
  refine J.thenN ?_
  refine J.seq ?_
  refine J.midI (A := List (Int)) (B := Value) (fun a13 => _world_Net__nodes_k1 r3 a13 = some r) (fun a13 b14 => [(4, Value.pointer (some ⟨b2, 0, none⟩)), (6, Value.pointer (some ⟨b9, 0, none⟩))]) (fun a13 b14 => [Blk b9 [b14, u7] 29, Ar Enc.raw u7 (List.replicate (Int.toNat (wI .i64 ((1 : Int) + r3))) (Value.slice none 0 0)), Rws EI64I64p (List.replicate (Int.toNat (wI .i64 ((1 : Int) + r3))) (Value.slice none 0 0)) (List.replicate (Int.toNat (wI .i64 ((1 : Int) + r3))) ([] : List (Int × Int))), Blk b2 [Value.slice none 0 0, Value.slice none 0 0] 29, Ar EI64 b14 a13]) (fun a13 b14 => [Sl RI64 v0 p0.2.1, Sl RI64 v1 p0.2.2.1, Sl RI64 v2 p0.2.2.2.1]) ?_ ?_
  · refine J.seq ?_
    refine J.region ?_
    refine J.quiet (Y.assign rfl) rfl ?_
    refine J.done ?_
    refine J.thenN ?_
    refine J.block ?_
    refine J.stp (Stp.nilAr EI64) ?_
    refine J.loopI (A := Int × List (Int)) (B := Value) (_world_Net__nodes_s1 fuel p0 r3) (fun a21 b22 => [(2, Value.pointer (some ⟨b1, 0, none⟩)), (4, Value.pointer (some ⟨b2, 0, none⟩)), (5, Value.int .i64 (wI .i64 ((1 : Int) + r3))), (6, Value.pointer (some ⟨b9, 0, none⟩)), (7, Value.int .i64 (a21.1))]) (fun a21 b22 => [Blk b9 [b22, u7] 29, Ar Enc.raw u7 (List.replicate (Int.toNat (wI .i64 ((1 : Int) + r3))) (Value.slice none 0 0)), Rws EI64I64p (List.replicate (Int.toNat (wI .i64 ((1 : Int) + r3))) (Value.slice none 0 0)) (List.replicate (Int.toNat (wI .i64 ((1 : Int) + r3))) ([] : List (Int × Int))), Blk b2 [Value.slice none 0 0, Value.slice none 0 0] 29, Blk b1 [Value.int .i64 (p0.1), v0, v1, v2, Value.bool (p0.2.2.2.2.1), Value.bool (p0.2.2.2.2.2)] 24, Ar EI64 b22 a21.2]) (fun a21 b22 => [Sl RI64 v0 p0.2.1, Sl RI64 v1 p0.2.2.1, Sl RI64 v2 p0.2.2.2.1]) ((0 : Int), ([] : List Int)) (Value.slice none 0 0) h (by repeat (first | exact SubF.nil | refine SubF.cons rfl ?_)) (SubM.cons 1 rfl (SubM.cons 1 rfl (SubM.cons 1 rfl (SubM.cons 1 rfl (SubM.cons 1 rfl (SubM.cons 0 rfl (SubM.nil))))))) (LentAll.refl _ _) ?_
    clear h
    intro k23 a21 b22 h
    unfold _world_Net__nodes_s1 at h
    refine J.seq ?_
    refine J.seq ?_
    refine J.region ?_
    refine J.quiet (Y.move rfl) rfl ?_
    refine J.quiet (Y.move rfl) rfl ?_
    refine J.quiet (Y.lss rfl rfl) rfl ?_
    refine J.done ?_
    refine J.thenN ?_
    refine J.condD (by exact rfl) (fun hp24 => ?_) (fun hp24 => ?_)
    · replace h := ifP hp24 h
      refine J.skip ?_
      refine J.thenN ?_
      refine J.seq ?_
      refine J.block ?_
      refine J.seq ?_
      refine J.region ?_
      refine J.quiet (Y.fieldB rfl rfl rfl rfl rfl) rfl ?_
      refine J.quiet (Y.loadB 4 rfl rfl rfl rfl rfl) rfl ?_
      refine J.quiet (Y.move rfl) rfl ?_
      replace h := bnd h; obtain ⟨r25, hr26, h⟩ := h
      refine J.loud (Loud.callL body52 (t_world_at fuel v2 r25 hr26) rfl (LentAll.cons (Lent.fact 2 rfl) (LentAll.nil)) (fun _ _ => rfl)) rfl fun x27 => ?_
      replace h := bnd h; obtain ⟨r28, hr29, h⟩ := h
      refine J.loud (Loud.callL body14 (t_world_Within fuel  r28 hr29) rfl (LentAll.nil) (fun _ _ => rfl)) rfl fun x30 => ?_
      refine J.quiet (Y.assign rfl) rfl ?_
      refine J.done ?_
      refine J.thenN ?_
      refine J.seq ?_
      refine J.midI (A := Int) (B := Unit) (fun a32 => _world_Net__nodes_k2 a21 (iter (_world_Net__nodes_s1 fuel p0 r3) k23) a32 = some r) (fun a32 b33 => [(2, Value.pointer (some ⟨b1, 0, none⟩)), (4, Value.pointer (some ⟨b2, 0, none⟩)), (5, Value.int .i64 (wI .i64 ((1 : Int) + r3))), (6, Value.pointer (some ⟨b9, 0, none⟩)), (7, Value.int .i64 (a21.1)), (8, Value.int .i64 (a32))]) (fun a32 b33 => [Blk b9 [b22, u7] 29, Ar Enc.raw u7 (List.replicate (Int.toNat (wI .i64 ((1 : Int) + r3))) (Value.slice none 0 0)), Rws EI64I64p (List.replicate (Int.toNat (wI .i64 ((1 : Int) + r3))) (Value.slice none 0 0)) (List.replicate (Int.toNat (wI .i64 ((1 : Int) + r3))) ([] : List (Int × Int))), Blk b2 [Value.slice none 0 0, Value.slice none 0 0] 29, Blk b1 [Value.int .i64 (p0.1), v0, v1, v2, Value.bool (p0.2.2.2.2.1), Value.bool (p0.2.2.2.2.2)] 24, Ar EI64 b22 a21.2]) (fun a32 b33 => [Sl RI64 v0 p0.2.1, Sl RI64 v1 p0.2.2.1, Sl RI64 v2 p0.2.2.2.1]) ?_ ?_
      · refine J.seq ?_
        refine J.region ?_
        refine J.quiet (Y.assign rfl) rfl ?_
        refine J.done ?_
        refine J.thenN ?_
        refine J.block ?_
        refine J.loopI (A := Int × Int) (B := Unit) (_world_Net__nodes_s2 a21 (iter (_world_Net__nodes_s1 fuel p0 r3) k23)) (fun a41 b42 => [(2, Value.pointer (some ⟨b1, 0, none⟩)), (4, Value.pointer (some ⟨b2, 0, none⟩)), (5, Value.int .i64 (wI .i64 ((1 : Int) + r3))), (6, Value.pointer (some ⟨b9, 0, none⟩)), (7, Value.int .i64 (a21.1)), (8, Value.int .i64 (a41.1)), (9, Value.int .i64 (a41.2))]) (fun a41 b42 => [Blk b9 [b22, u7] 29, Ar Enc.raw u7 (List.replicate (Int.toNat (wI .i64 ((1 : Int) + r3))) (Value.slice none 0 0)), Rws EI64I64p (List.replicate (Int.toNat (wI .i64 ((1 : Int) + r3))) (Value.slice none 0 0)) (List.replicate (Int.toNat (wI .i64 ((1 : Int) + r3))) ([] : List (Int × Int))), Blk b2 [Value.slice none 0 0, Value.slice none 0 0] 29, Blk b1 [Value.int .i64 (p0.1), v0, v1, v2, Value.bool (p0.2.2.2.2.1), Value.bool (p0.2.2.2.2.2)] 24, Ar EI64 b22 a21.2]) (fun a41 b42 => [Sl RI64 v0 p0.2.1, Sl RI64 v1 p0.2.2.1, Sl RI64 v2 p0.2.2.2.1]) (r28, (0 : Int)) (()) h (by repeat (first | exact SubF.nil | refine SubF.cons rfl ?_)) (SubM.refl _) (LentAll.refl _ _) ?_
        clear h
        intro k43 a41 b42 h
        unfold _world_Net__nodes_s2 at h
        refine J.seq ?_
        refine J.seq ?_
        refine J.region ?_
        refine J.quiet (Y.move rfl) rfl ?_
        refine J.quiet (Y.move rfl) rfl ?_
        refine J.quiet (Y.lss rfl rfl) rfl ?_
        refine J.done ?_
        refine J.thenN ?_
        refine J.condD (by exact rfl) (fun hp44 => ?_) (fun hp44 => ?_)
        · replace h := ifP hp44 h
          refine J.skip ?_
          refine J.thenN ?_
          refine J.seq ?_
          refine J.midI (A := Int × Int) (B := Unit) (fun a47 => _world_Net__nodes_k3 (iter (_world_Net__nodes_s2 a21 (iter (_world_Net__nodes_s1 fuel p0 r3) k23)) k43) a47 = some r) (fun a47 b48 => [(2, Value.pointer (some ⟨b1, 0, none⟩)), (4, Value.pointer (some ⟨b2, 0, none⟩)), (5, Value.int .i64 (wI .i64 ((1 : Int) + r3))), (6, Value.pointer (some ⟨b9, 0, none⟩)), (7, Value.int .i64 (a21.1)), (8, Value.int .i64 (a47.1)), (9, Value.int .i64 (a47.2))]) (fun a47 b48 => [Blk b9 [b22, u7] 29, Ar Enc.raw u7 (List.replicate (Int.toNat (wI .i64 ((1 : Int) + r3))) (Value.slice none 0 0)), Rws EI64I64p (List.replicate (Int.toNat (wI .i64 ((1 : Int) + r3))) (Value.slice none 0 0)) (List.replicate (Int.toNat (wI .i64 ((1 : Int) + r3))) ([] : List (Int × Int))), Blk b2 [Value.slice none 0 0, Value.slice none 0 0] 29, Blk b1 [Value.int .i64 (p0.1), v0, v1, v2, Value.bool (p0.2.2.2.2.1), Value.bool (p0.2.2.2.2.2)] 24, Ar EI64 b22 a21.2]) (fun a47 b48 => [Sl RI64 v0 p0.2.1, Sl RI64 v1 p0.2.2.1, Sl RI64 v2 p0.2.2.2.1]) ?_ ?_
          · refine J.block ?_
            refine J.seq ?_
            refine J.region ?_
            refine J.quiet (Y.fieldB rfl rfl rfl rfl rfl) rfl ?_
            refine J.quiet (Y.loadB 0 rfl rfl rfl rfl rfl) rfl ?_
            refine J.quiet (Y.move rfl) rfl ?_
            replace h := ck_some h; obtain ⟨hc49, h⟩ := h
            refine J.quiet (Y.indexS rfl rfl (Lent.ar (Lent.res 5 rfl) FI64) rfl rfl hc49) rfl ?_
            refine J.quiet (Y.loadS0 rfl (Lent.ar (Lent.res 5 rfl) FI64) rfl rfl rfl RI64c0 hc49) rfl ?_
            refine J.quiet (Y.move rfl) rfl ?_
            refine J.quiet (Y.eql rfl rfl) rfl ?_
            refine J.done ?_
            refine J.thenN ?_
            refine J.condD (by exact rfl) (fun hp50 => ?_) (fun hp50 => ?_)
            · replace h := ifP hp50 h
              refine J.region ?_
              refine J.quiet (Y.move rfl) rfl ?_
              refine J.quiet (Y.addW rfl rfl) rfl ?_
              replace h := ck_some h; obtain ⟨hc51, h⟩ := h
              refine J.quiet (Y.rem rfl rfl hc51) rfl ?_
              refine J.quiet (Y.assign rfl) rfl ?_
              refine J.quiet (Y.assign rfl) rfl ?_
              refine J.done ?_
              refine J.inN ?_
              refine J.thenN ?_
              exact J.meetI ((Int.tmod (wI .i64 (a41.1 + (1 : Int))) (256 : Int)), (-1 : Int)) (()) h (by repeat (first | exact SubF.nil | refine SubF.cons rfl ?_)) (SubM.refl _) (LentAll.refl _ _)
            · replace h := ifN hp50 h
              refine J.skip ?_
              refine J.inN ?_
              refine J.thenN ?_
              exact J.meetI (a41.1, a41.2) (()) h (by repeat (first | exact SubF.nil | refine SubF.cons rfl ?_)) (SubM.refl _) (LentAll.refl _ _)
          · clear h
            intro a47 b48 h
            unfold _world_Net__nodes_k3 at h
            refine J.region ?_
            refine J.quiet (Y.move rfl) rfl ?_
            refine J.quiet (Y.addW rfl rfl) rfl ?_
            refine J.quiet (Y.assign rfl) rfl ?_
            refine J.done ?_
            refine J.thenN ?_
            exact J.againI (a47.1, (wI .i64 (a47.2 + (1 : Int)))) (()) h (by repeat (first | exact SubF.nil | refine SubF.cons rfl ?_)) (SubM.refl _) (LentAll.refl _ _)
        · replace h := ifN hp44 h
          refine J.exit ?_
          refine J.thenX ?_
          refine J.thenX ?_
          refine J.inX ?_
          refine J.thenN ?_
          exact J.meetI (a41.1) (()) h (by repeat (first | exact SubF.nil | refine SubF.cons rfl ?_)) (SubM.refl _) (LentAll.refl _ _)
      · clear h
        intro a32 b33 h
        unfold _world_Net__nodes_k2 at h
        refine J.region ?_
        refine J.quiet (Y.fieldB rfl rfl rfl rfl rfl) rfl ?_
        refine J.quiet (Y.loadB 0 rfl rfl rfl rfl rfl) rfl ?_
        refine J.quiet (Y.move rfl) rfl ?_
        refine J.loud (Loud.buildS (e := EI64) ([a32]) [(0, Value.int .i64 (a32))] rfl rfl rfl rfl (fill_1_1 (Value.int .i64 (a32)) rfl) rfl rfl rfl) rfl fun u34 => ?_
        replace h := ck_some h; obtain ⟨hc36, h⟩ := h
        refine J.loud (Loud.appendL 6 FI64 rfl rfl rfl (Lent.ar (Lent.res 0 rfl) FI64) rfl rfl rfl rfl hc36 rfl) rfl fun u35 => ?_
        refine J.quiet (Y.fieldB rfl rfl rfl rfl rfl) rfl ?_
        refine J.know (Know.one ((Lent.ar (Lent.res 6 rfl) FI64))) fun ho37 => ?_
        refine J.store1 1 rfl rfl ho37 rfl rfl rfl ?_
        refine J.done ?_
        refine J.inN ?_
        refine J.thenN ?_
        refine J.region ?_
        refine J.quiet (Y.move rfl) rfl ?_
        refine J.quiet (Y.addW rfl rfl) rfl ?_
        refine J.quiet (Y.assign rfl) rfl ?_
        refine J.done ?_
        refine J.thenN ?_
        exact J.againI ((wI .i64 (a21.1 + (1 : Int))), (a21.2 ++ [a32])) (u35) h (by repeat (first | exact SubF.nil | refine SubF.cons rfl ?_)) (SubM.cons 1 rfl (SubM.cons 1 rfl (SubM.cons 1 rfl (SubM.cons 1 rfl (SubM.cons 1 rfl (SubM.cons 1 rfl (SubM.nil))))))) (LentAll.refl _ _)
    · replace h := ifN hp24 h
      refine J.exit ?_
      refine J.thenX ?_
      refine J.thenX ?_
      refine J.inX ?_
      refine J.thenN ?_
      exact J.meetI (a21.2) (b22) h (by repeat (first | exact SubF.nil | refine SubF.cons rfl ?_)) (SubM.cons 0 rfl (SubM.cons 0 rfl (SubM.cons 0 rfl (SubM.cons 0 rfl (SubM.cons 1 rfl (SubM.nil)))))) (LentAll.refl _ _)
  · clear h
    intro a13 b14 h
    unfold _world_Net__nodes_k1 at h
    refine J.seq ?_
    refine J.region ?_
    refine J.quiet (Y.loadBAll 0 rfl rfl rfl rfl) rfl ?_
    refine J.know (Know.one ((Lent.ar (Lent.res 4 rfl) FI64))) fun ho15 => ?_
    refine J.know (Know.one (Lent.sl (Lent.rows (i := 1) (j := 2) rfl rfl FI64I64p))) fun ho16 => ?_
    refine J.storeAll 3 (vs := [b14, u7]) rfl rfl (all1 ho15 (all1 ho16 rfl)) rfl rfl rfl ?_
    refine J.done ?_
    refine J.thenN ?_
    refine J.ret ?_
    obtain rfl := Option.some.inj h
    exact J.retG1 (b14, u7, (List.replicate (Int.toNat (wI .i64 ((1 : Int) + r3))) (Value.slice none 0 0))) rfl rfl (RV.cell 3 rfl rfl rfl rfl) (SubM.cons 4 rfl (SubM.cons 1 rfl (SubM.cons 1 rfl (SubM.nil)))) LentAll.nil

end Go.Proofs.Ytmajgimhmfeliaa
end
section
set_option linter.unusedVariables false
set_option linter.unusedSimpArgs false
namespace Go.Proofs.Ytmajgimhmfeliaa
open Go.Sx
set_option linter.unusedVariables false
set_option linter.unusedSimpArgs false
def world_linked_k1  (a2 : Unit) : Option (Bool) :=
  some (false)
def world_linked_s1 (p0 : List (Int) × (List (List (Int × Int)))) (p1 : Int) (p2 : Int) (a6 : Int) (ag5 : (Int) → Option (Bool)) : Option (Bool) :=
  ck (0 ≤ p1 ∧ p1 < (List.length p0.2 : Int)) (if a6 < (List.length (at' p0.2 p1) : Int) then (ck (0 ≤ p1 ∧ p1 < (List.length p0.2 : Int)) (ck (0 ≤ a6 ∧ a6 < (List.length (at' p0.2 p1) : Int)) (if ((at' (at' p0.2 p1) a6).1) = p2 then (some (true)) else (ag5 (wI .i64 (a6 + (1 : Int))))))) else (world_linked_k1  (())))
def m_world_linked (fuel : Nat) (p0 : List (Int) × (List (List (Int × Int)))) (p1 : Int) (p2 : Int) : Option (Bool) :=
  iter (world_linked_s1 p0 p1 p2) fuel (0 : Int)

theorem body75 : HasBody Try.prog 75 := Try.call75

set_option maxHeartbeats 4000000 in
set_option maxRecDepth 20000 in
theorem t_world_linked (fuel : Nat) {p0 : List (Int) × (List (List (Int × Int)))} {p1 : Int} {p2 : Int} (v0 : Value)  (v1 : Value)  (z2 : List (Value × List (Int × Int))) (r : Bool) (h : m_world_linked fuel p0 p1 p2 = some r) :
    Meets Try.prog 75 #[Value.agg #[v0, v1], Value.int .i64 (p1), Value.int .i64 (p2)] [Sl RI64 v0 p0.1, S2 RI64I64p v1 z2 p0.2] (fun x : Unit => Value.bool (r)) (fun x l => l) (fun _ l => l) := by
  refine Meets.of (vs := [Value.agg #[v0, v1], Value.int .i64 (p1), Value.int .i64 (p2)]) Try.func75 rfl Try.ntmps75 rfl fun c => ?_
  unfold m_world_linked at h
  refine J.seq ?_
  refine J.region ?_
  refine J.loud (Loud.box (cs := [v0, v1]) rfl rfl) rfl fun b1 => ?_
  refine J.quiet (Y.assign rfl) rfl ?_
  refine J.done ?_
  refine J.thenN ?_
  refine J.seq ?_
  refine J.midI (A := Unit) (B := Unit) (fun a2 => world_linked_k1  a2 = some r) (fun a2 b3 => []) (fun a2 b3 => []) (fun a2 b3 => [Sl RI64 v0 p0.1, S2 RI64I64p v1 z2 p0.2]) ?_ ?_
  · refine J.seq ?_
    refine J.region ?_
    refine J.quiet (Y.assign rfl) rfl ?_
    refine J.done ?_
    refine J.thenN ?_
    refine J.block ?_
    refine J.loopI (A := Int) (B := Unit) (world_linked_s1 p0 p1 p2) (fun a6 b7 => [(1, Value.int .i64 (p1)), (2, Value.int .i64 (p2)), (3, Value.pointer (some ⟨b1, 0, none⟩)), (7, Value.int .i64 (a6))]) (fun a6 b7 => [Blk b1 [v0, v1] 29]) (fun a6 b7 => [Sl RI64 v0 p0.1, S2 RI64I64p v1 z2 p0.2]) (0 : Int) (()) h (by repeat (first | exact SubF.nil | refine SubF.cons rfl ?_)) (SubM.refl _) (LentAll.refl _ _) ?_
    clear h
    intro k8 a6 b7 h
    unfold world_linked_s1 at h
    refine J.seq ?_
    refine J.seq ?_
    refine J.region ?_
    refine J.quiet (Y.move rfl) rfl ?_
    refine J.quiet (Y.fieldB rfl rfl rfl rfl rfl) rfl ?_
    refine J.quiet (Y.loadB 0 rfl rfl rfl rfl rfl) rfl ?_
    refine J.quiet (Y.move rfl) rfl ?_
    replace h := ck_some h; obtain ⟨hc9, h⟩ := h
    refine J.quiet (Y.indexN rfl rfl (Lent.fact 1 rfl) rfl rfl hc9) rfl ?_
    refine J.quiet (Y.loadRow rfl (Lent.fact 1 rfl) rfl rfl hc9) rfl ?_
    refine J.quiet (Y.lenS rfl (Lent.el (Lent.fact 1 rfl) hc9.1 hc9.2) rfl) rfl ?_
    refine J.quiet (Y.lss rfl rfl) rfl ?_
    refine J.done ?_
    refine J.thenN ?_
    refine J.condD (by exact rfl) (fun hp10 => ?_) (fun hp10 => ?_)
    · replace h := ifP hp10 h
      refine J.skip ?_
      refine J.thenN ?_
      refine J.seq ?_
      refine J.block ?_
      refine J.seq ?_
      refine J.region ?_
      refine J.quiet (Y.fieldB rfl rfl rfl rfl rfl) rfl ?_
      refine J.quiet (Y.loadB 0 rfl rfl rfl rfl rfl) rfl ?_
      refine J.quiet (Y.move rfl) rfl ?_
      replace h := ck_some h; obtain ⟨hc11, h⟩ := h
      refine J.quiet (Y.indexN rfl rfl (Lent.fact 1 rfl) rfl rfl hc11) rfl ?_
      refine J.quiet (Y.loadRow rfl (Lent.fact 1 rfl) rfl rfl hc11) rfl ?_
      refine J.quiet (Y.move rfl) rfl ?_
      replace h := ck_some h; obtain ⟨hc12, h⟩ := h
      refine J.quiet (Y.indexS rfl rfl (Lent.el (Lent.fact 1 rfl) hc11.1 hc11.2) rfl rfl hc12) rfl ?_
      refine J.quiet (Y.fieldEl rfl rfl rfl rfl rfl) rfl ?_
      refine J.quiet (Y.loadS rfl (Lent.el (Lent.fact 1 rfl) hc11.1 hc11.2) rfl rfl rfl RI64I64pc0 hc12) rfl ?_
      refine J.quiet (Y.move rfl) rfl ?_
      refine J.quiet (Y.eql rfl rfl) rfl ?_
      refine J.done ?_
      refine J.thenN ?_
      refine J.condD (by exact rfl) (fun hp13 => ?_) (fun hp13 => ?_)
      · replace h := ifP hp13 h
        refine J.seq ?_
        refine J.region ?_
        refine J.quiet (Y.assign rfl) rfl ?_
        refine J.done ?_
        refine J.thenN ?_
        refine J.ret ?_
        refine J.inR ?_
        refine J.thenR ?_
        refine J.thenR ?_
        refine J.inR ?_
        refine J.thenR ?_
        obtain rfl := Option.some.inj h
        exact J.retG1 (()) rfl rfl (RV.tmp rfl) (SubM.nil) LentAll.nil
      · replace h := ifN hp13 h
        refine J.skip ?_
        refine J.inN ?_
        refine J.thenN ?_
        refine J.region ?_
        refine J.quiet (Y.move rfl) rfl ?_
        refine J.quiet (Y.addW rfl rfl) rfl ?_
        refine J.quiet (Y.assign rfl) rfl ?_
        refine J.done ?_
        refine J.thenN ?_
        exact J.againI (wI .i64 (a6 + (1 : Int))) (()) h (by repeat (first | exact SubF.nil | refine SubF.cons rfl ?_)) (SubM.refl _) (LentAll.refl _ _)
    · replace h := ifN hp10 h
      refine J.exit ?_
      refine J.thenX ?_
      refine J.thenX ?_
      refine J.inX ?_
      refine J.thenN ?_
      exact J.meetI (()) (()) h (by repeat (first | exact SubF.nil | refine SubF.cons rfl ?_)) (SubM.nil) (LentAll.refl _ _)
  · clear h
    intro a2 b3 h
    unfold world_linked_k1 at h
    refine J.seq ?_
    refine J.region ?_
    refine J.quiet (Y.assign rfl) rfl ?_
    refine J.done ?_
    refine J.thenN ?_
    refine J.ret ?_
    obtain rfl := Option.some.inj h
    exact J.retG1 (()) rfl rfl (RV.tmp rfl) (SubM.refl _) LentAll.nil

end Go.Proofs.Ytmajgimhmfeliaa
end
section
set_option linter.unusedVariables false
set_option linter.unusedSimpArgs false
namespace Go.Proofs.Ytmajgimhmfeliaa
open Go.Sx
set_option linter.unusedVariables false
set_option linter.unusedSimpArgs false
def _world_Net__link_k1 (p0 : Int × List (Int) × List (Int) × List (Int) × Bool × Bool) (p1 : List (Int) × (List (List (Int × Int)))) (p2 : Int) (p3 : Int) (p4 : Int) (a4 : Bool) : Option ((List (List (Int × Int)))) :=
  if a4 = true then (some (p1.2)) else (if p0.2.2.2.2.2 = true then (ck (0 ≤ p2 ∧ p2 < (List.length p1.2 : Int)) (ck ((List.length ([ (p3, p4)]) : Int) + (List.length (at' p1.2 p2) : Int) ≤ 1099511627) (ck (0 ≤ p2 ∧ p2 < (List.length p1.2 : Int)) (ck (0 ≤ p3 ∧ p3 < (List.length (List.set p1.2 (Int.toNat p2) (([ (p3, p4)]) ++ (at' p1.2 p2))) : Int)) (ck ((List.length ([ (p2, p4)]) : Int) + (List.length (at' (List.set p1.2 (Int.toNat p2) (([ (p3, p4)]) ++ (at' p1.2 p2))) p3) : Int) ≤ 1099511627) (ck (0 ≤ p3 ∧ p3 < (List.length (List.set p1.2 (Int.toNat p2) (([ (p3, p4)]) ++ (at' p1.2 p2))) : Int)) (some (List.set (List.set p1.2 (Int.toNat p2) (([ (p3, p4)]) ++ (at' p1.2 p2))) (Int.toNat p3) (([ (p2, p4)]) ++ (at' (List.set p1.2 (Int.toNat p2) (([ (p3, p4)]) ++ (at' p1.2 p2))) p3)))))))))) else (ck (0 ≤ p2 ∧ p2 < (List.length p1.2 : Int)) (ck (0 ≤ p3 ∧ p3 < (List.length p1.2 : Int)) (ck ((List.length (at' p1.2 p2) : Int) + (List.length ([ (p3, p4)]) : Int) ≤ 1099511627) (ck ((List.length (at' p1.2 p3) : Int) + (List.length ([ (p2, p4)]) : Int) ≤ 1099511627) (ck (Int.toNat p2 ≠ Int.toNat p3) (ck (0 ≤ p2 ∧ p2 < (List.length (List.set (List.set p1.2 (Int.toNat p2) ((at' p1.2 p2) ++ ([ (p3, p4)]))) (Int.toNat p3) ((at' p1.2 p3) ++ ([ (p2, p4)]))) : Int)) (ck (0 ≤ p3 ∧ p3 < (List.length (List.set (List.set p1.2 (Int.toNat p2) ((at' p1.2 p2) ++ ([ (p3, p4)]))) (Int.toNat p3) ((at' p1.2 p3) ++ ([ (p2, p4)]))) : Int)) (some (List.set (List.set p1.2 (Int.toNat p2) ((at' p1.2 p2) ++ ([ (p3, p4)]))) (Int.toNat p3) ((at' p1.2 p3) ++ ([ (p2, p4)]))))))))))))
def m__world_Net__link (fuel : Nat) (p0 : Int × List (Int) × List (Int) × List (Int) × Bool × Bool) (p1 : List (Int) × (List (List (Int × Int)))) (p2 : Int) (p3 : Int) (p4 : Int) : Option ((List (List (Int × Int)))) :=
  if p2 = p3 then (_world_Net__link_k1 p0 p1 p2 p3 p4 (true)) else (Option.bind (m_world_linked fuel ((p1.1, p1.2)) p2 p3) fun r86 => (_world_Net__link_k1 p0 p1 p2 p3 p4 (r86)))

theorem body51 : HasBody Try.prog 51 := Try.call51

set_option maxHeartbeats 4000000 in
set_option maxRecDepth 20000 in
theorem t__world_Net__link (fuel : Nat) {p0 : Int × List (Int) × List (Int) × List (Int) × Bool × Bool} {p1 : List (Int) × (List (List (Int × Int)))} {p2 : Int} {p3 : Int} {p4 : Int} (v0 : Value)  (v1 : Value)  (v2 : Value)  (v3 : Value)  (v4 : Value)  (w5 : List Value) (r : (List (List (Int × Int)))) (h : m__world_Net__link fuel p0 p1 p2 p3 p4 = some r) :
    MeetsM Try.prog 51 #[Value.agg #[Value.int .i64 (p0.1), v0, v1, v2, Value.bool (p0.2.2.2.2.1), Value.bool (p0.2.2.2.2.2)], Value.agg #[v3, v4], Value.int .i64 (p2), Value.int .i64 (p3), Value.int .i64 (p4)] [Ar Enc.raw v4 w5, Rws EI64I64p w5 p1.2] [Sl RI64 v0 p0.2.1, Sl RI64 v1 p0.2.2.1, Sl RI64 v2 p0.2.2.2.1, Sl RI64 v3 p1.1] (fun x : List Value => Value.tuple #[]) (fun x l => Ar Enc.raw v4 x :: Rws EI64I64p x r :: l) := by
  refine MeetsM.of (vs := [Value.agg #[Value.int .i64 (p0.1), v0, v1, v2, Value.bool (p0.2.2.2.2.1), Value.bool (p0.2.2.2.2.2)], Value.agg #[v3, v4], Value.int .i64 (p2), Value.int .i64 (p3), Value.int .i64 (p4)]) Try.func51 rfl Try.ntmps51 rfl fun c => ?_
  unfold m__world_Net__link at h
  refine J.seq ?_
  refine J.region ?_
  refine J.loud (Loud.box (cs := [Value.int .i64 (p0.1), v0, v1, v2, Value.bool (p0.2.2.2.2.1), Value.bool (p0.2.2.2.2.2)]) rfl rfl) rfl fun b1 => ?_
  refine J.loud (Loud.box (cs := [v3, v4]) rfl rfl) rfl fun b2 => ?_
  refine J.done ?_
  refine J.thenN ?_
  refine J.seq ?_
  refine J.seq ?_
  refine J.midI (A := Bool) (B := Unit) (fun a4 => _world_Net__link_k1 p0 p1 p2 p3 p4 a4 = some r) (fun a4 b5 => [(2, Value.int .i64 (p2)), (3, Value.int .i64 (p3)), (4, Value.int .i64 (p4)), (5, Value.pointer (some ⟨b1, 0, none⟩)), (6, Value.pointer (some ⟨b2, 0, none⟩)), (20, Value.bool (a4))]) (fun a4 b5 => [Blk b2 [v3, v4] 29, Blk b1 [Value.int .i64 (p0.1), v0, v1, v2, Value.bool (p0.2.2.2.2.1), Value.bool (p0.2.2.2.2.2)] 24, Ar Enc.raw v4 w5, Rws EI64I64p w5 p1.2]) (fun a4 b5 => [Sl RI64 v0 p0.2.1, Sl RI64 v1 p0.2.2.1, Sl RI64 v2 p0.2.2.2.1, Sl RI64 v3 p1.1]) ?_ ?_
  · refine J.region ?_
    refine J.quiet (Y.move rfl) rfl ?_
    refine J.quiet (Y.move rfl) rfl ?_
    refine J.quiet (Y.eql rfl rfl) rfl ?_
    refine J.quiet (Y.move rfl) rfl ?_
    refine J.guardD (by exact rfl) (by exact rfl) (fun hp85 => ?_) (fun hp85 => ?_)
    · replace h := ifP hp85 h
      refine J.guardN rfl rfl rfl ?_
      refine J.guardN rfl rfl rfl ?_
      refine J.guardN rfl rfl rfl ?_
      refine J.guardN rfl rfl rfl ?_
      refine J.quiet (Y.pickT rfl rfl) rfl ?_
      refine J.done ?_
      refine J.thenN ?_
      exact J.meetI (true) (()) h (by repeat (first | exact SubF.nil | refine SubF.cons rfl ?_)) (SubM.refl _) (LentAll.refl _ _)
    · replace h := ifN hp85 h
      refine J.guardY rfl (Y.loadBAll 0 rfl rfl rfl rfl) rfl ?_
      refine J.guardY rfl (Y.move rfl) rfl ?_
      refine J.guardY rfl (Y.move rfl) rfl ?_
      replace h := bnd h; obtain ⟨r86, hr87, h⟩ := h
      refine J.loudG rfl (Loud.callL body75 (t_world_linked fuel v3 v4 (List.zip w5 p1.2) r86 hr87) rfl (LentAll.cons (Lent.fact 3 rfl) (LentAll.cons (Lent.rows (i := 2) (j := 3) rfl rfl FI64I64p) (LentAll.nil))) (fun _ _ => rfl)) rfl fun x88 => ?_
      refine J.quiet (Y.pickF rfl rfl) rfl ?_
      refine J.done ?_
      refine J.thenN ?_
      exact J.meetI (r86) (()) h (by repeat (first | exact SubF.nil | refine SubF.cons rfl ?_)) (SubM.refl _) (LentAll.refl _ _)
  · clear h
    intro a4 b5 h
    unfold _world_Net__link_k1 at h
    refine J.cond (by exact rfl) (fun hp6 => ?_) (fun hp6 => ?_)
    · replace h := ifP hp6 h
      refine J.ret ?_
      refine J.thenR ?_
      obtain rfl := Option.some.inj h
      exact J.retG0 (w5) rfl rfl .ret (.inl rfl) (SubM.cons 2 rfl (SubM.cons 2 rfl (SubM.nil))) LentAll.nil
    · replace h := ifBN hp6 h
      refine J.skip ?_
      refine J.thenN ?_
      refine J.seq ?_
      refine J.region ?_
      refine J.quiet (Y.move rfl) rfl ?_
      refine J.quiet (Y.move rfl) rfl ?_
      refine J.quiet (Y.bld2 (r := Value.agg #[Value.int .i64 (p3), Value.int .i64 (p4)]) rfl rfl (by intro w; simp [Instr.build, Instr.fill, cells_intV, cells_boolV, cells_sliceV, cells_ptrV, cells_strV, cells_funcV, cells_agg])) rfl ?_
      refine J.quiet (Y.move rfl) rfl ?_
      refine J.quiet (Y.move rfl) rfl ?_
      refine J.quiet (Y.bld2 (r := Value.agg #[Value.int .i64 (p2), Value.int .i64 (p4)]) rfl rfl (by intro w; simp [Instr.build, Instr.fill, cells_intV, cells_boolV, cells_sliceV, cells_ptrV, cells_strV, cells_funcV, cells_agg])) rfl ?_
      refine J.loud (Loud.alloc (cs := [Value.int .i64 (0 : Int), Value.int .i64 (0 : Int)]) rfl rfl) rfl fun b7 => ?_
      refine J.loud (Loud.alloc (cs := [Value.int .i64 (0 : Int), Value.int .i64 (0 : Int)]) rfl rfl) rfl fun b8 => ?_
      refine J.storeAll 1 (vs := [Value.int .i64 (p3), Value.int .i64 (p4)]) rfl rfl rfl rfl rfl rfl ?_
      refine J.storeAll 0 (vs := [Value.int .i64 (p2), Value.int .i64 (p4)]) rfl rfl rfl rfl rfl rfl ?_
      refine J.done ?_
      refine J.thenN ?_
      refine J.seq ?_
      refine J.seq ?_
      refine J.region ?_
      refine J.quiet (Y.fieldB rfl rfl rfl rfl rfl) rfl ?_
      refine J.quiet (Y.loadB 3 rfl rfl rfl rfl rfl) rfl ?_
      refine J.done ?_
      refine J.thenN ?_
      refine J.cond (by exact rfl) (fun hp9 => ?_) (fun hp9 => ?_)
      · replace h := ifP hp9 h
        refine J.seq ?_
        refine JR.start [0, 1, 0, 0, 8, 0, 32, 0, 224, 480, 1016, 2047, 4095] 11 mixedOrders (by decide +kernel) ?_
        refine JR.open (by exact rfl) ?_
        refine JR.qt rfl (SubM.nil) (SubL.nil) (Y.fieldB rfl rfl rfl rfl rfl) HistOk.z ?_
        refine JR.qt rfl (SubM.cons 2 rfl (SubM.nil)) (SubL.nil) (Y.loadB 0 rfl rfl rfl rfl rfl) HistOk.z ?_
        refine JR.qt rfl (SubM.nil) (SubL.nil) (Y.move rfl) HistOk.z ?_
        refine JR.qt rfl (SubM.cons 1 rfl (SubM.nil)) (SubL.nil) (Y.loadBAll 0 rfl rfl rfl rfl) HistOk.z ?_
        refine JR.loud rfl rfl rfl (Loud.buildS (e := EI64I64p) ([((p3, p4))]) [(0, Value.agg #[Value.int .i64 (p3), Value.int .i64 (p4)])] rfl rfl rfl rfl (fill_1_2 (Value.int .i64 (p3)) (Value.int .i64 (p4))) rfl rfl rfl) rfl (fun u10 => (BsOk.b rfl (BsOk.h (SubM.nil) (SubL.nil) (BsOk.h (SubM.cons 3 rfl (SubM.nil)) (SubL.nil) (BsOk.h (SubM.nil) (SubL.nil) BsOk.z))))) fun u10 => ?_
        refine JR.qt rfl (SubM.nil) (SubL.nil) (Y.fieldB rfl rfl rfl rfl rfl) (HistOk.h (SubM.nil) (SubL.nil) HistOk.z) ?_
        refine JR.qt rfl (SubM.cons 3 rfl (SubM.nil)) (SubL.nil) (Y.loadB 0 rfl rfl rfl rfl rfl) (HistOk.h (SubM.cons 2 rfl (SubM.nil)) (SubL.nil) HistOk.z) ?_
        refine JR.qt rfl (SubM.nil) (SubL.nil) (Y.move rfl) (HistOk.h (SubM.nil) (SubL.nil) HistOk.z) ?_
        replace h := ck_some h; obtain ⟨hc11, h⟩ := h
        refine JR.know (Know.rws 6 rfl) fun hl12 => ?_
        refine JR.qt rfl (SubM.cons 5 rfl (SubM.nil)) (SubL.nil) (Y.indexA 0 rfl rfl rfl rfl rfl hc11.1 (by have q1 := hc11.2; have q2 := hl12; (try simp only [List.length_set] at q1); (try simp only [List.length_set] at q2); (try simp only [List.length_set]); omega)) (HistOk.h (SubM.cons 4 rfl (SubM.nil)) (SubL.nil) HistOk.z) ?_
        refine JR.know (Know.rws 6 rfl) fun hl13 => ?_
        refine JR.qt rfl (SubM.cons 5 rfl (SubM.nil)) (SubL.nil) (Y.loadRaw 0 rfl rfl hl13 rfl rfl hc11) (HistOk.h (SubM.cons 4 rfl (SubM.nil)) (SubL.nil) HistOk.z) ?_
        replace h := ck_some h; obtain ⟨hc15, h⟩ := h
        refine JR.loud rfl rfl rfl (Loud.appendL 0 FI64I64p rfl rfl rfl (Lent.row (j := 6) rfl FI64I64p hc11.1 hc11.2) rfl rfl rfl rfl hc15 rfl) rfl (fun u14 => (BsOk.b rfl (BsOk.b rfl (BsOk.b rfl (BsOk.b rfl (BsOk.b rfl (BsOk.b rfl (BsOk.h (SubM.nil) (SubL.nil) (BsOk.h (SubM.cons 3 rfl (SubM.nil)) (SubL.nil) (BsOk.h (SubM.nil) (SubL.nil) BsOk.z)))))))))) fun u14 => ?_
        refine JR.tailD 11 rfl rfl ?_
        replace h := ck_some h; obtain ⟨hc16, h⟩ := h
        refine J.quiet (Y.indexN rfl rfl (Lent.rows (i := 5) (j := 6) rfl rfl FI64I64p) rfl rfl hc16) rfl ?_
        refine J.know (Know.one ((Lent.ar (Lent.res 0 rfl) FI64I64p))) fun ho17 => ?_
        refine J.stp (Stp.putRow (k := p2) 6 0 rfl rfl rfl hc16) ?_
        refine J.storeRow 4 5 ⟨hc16.1, by first | exact hc16.2 | simpa using hc16.2⟩ rfl rfl rfl rfl rfl (by simp) ho17 rfl ?_
        refine J.done ?_
        refine J.thenN ?_
        refine J.seq ?_
        refine JR.start [0, 1, 0, 0, 8, 0, 32, 0, 224, 480, 1016, 2047, 4095] 11 mixedOrders (by decide +kernel) ?_
        refine JR.open (by exact rfl) ?_
        refine JR.qt rfl (SubM.nil) (SubL.nil) (Y.fieldB rfl rfl rfl rfl rfl) HistOk.z ?_
        refine JR.qt rfl (SubM.cons 2 rfl (SubM.nil)) (SubL.nil) (Y.loadB 0 rfl rfl rfl rfl rfl) HistOk.z ?_
        refine JR.qt rfl (SubM.nil) (SubL.nil) (Y.move rfl) HistOk.z ?_
        refine JR.qt rfl (SubM.cons 0 rfl (SubM.nil)) (SubL.nil) (Y.loadBAll 0 rfl rfl rfl rfl) HistOk.z ?_
        refine JR.loud rfl rfl rfl (Loud.buildS (e := EI64I64p) ([((p2, p4))]) [(0, Value.agg #[Value.int .i64 (p2), Value.int .i64 (p4)])] rfl rfl rfl rfl (fill_1_2 (Value.int .i64 (p2)) (Value.int .i64 (p4))) rfl rfl rfl) rfl (fun u18 => (BsOk.b rfl (BsOk.h (SubM.nil) (SubL.nil) (BsOk.h (SubM.cons 3 rfl (SubM.nil)) (SubL.nil) (BsOk.h (SubM.nil) (SubL.nil) BsOk.z))))) fun u18 => ?_
        refine JR.qt rfl (SubM.nil) (SubL.nil) (Y.fieldB rfl rfl rfl rfl rfl) (HistOk.h (SubM.nil) (SubL.nil) HistOk.z) ?_
        refine JR.qt rfl (SubM.cons 3 rfl (SubM.nil)) (SubL.nil) (Y.loadB 0 rfl rfl rfl rfl rfl) (HistOk.h (SubM.cons 2 rfl (SubM.nil)) (SubL.nil) HistOk.z) ?_
        refine JR.qt rfl (SubM.nil) (SubL.nil) (Y.move rfl) (HistOk.h (SubM.nil) (SubL.nil) HistOk.z) ?_
        replace h := ck_some h; obtain ⟨hc19, h⟩ := h
        refine JR.know (Know.rws 6 rfl) fun hl20 => ?_
        refine JR.qt rfl (SubM.cons 5 rfl (SubM.nil)) (SubL.nil) (Y.indexA 0 rfl rfl rfl rfl rfl hc19.1 (by have q1 := hc19.2; have q2 := hl20; (try simp only [List.length_set] at q1); (try simp only [List.length_set] at q2); (try simp only [List.length_set]); omega)) (HistOk.h (SubM.cons 4 rfl (SubM.nil)) (SubL.nil) HistOk.z) ?_
        refine JR.know (Know.rws 6 rfl) fun hl21 => ?_
        refine JR.qt rfl (SubM.cons 5 rfl (SubM.nil)) (SubL.nil) (Y.loadRaw 0 rfl rfl hl21 rfl rfl hc19) (HistOk.h (SubM.cons 4 rfl (SubM.nil)) (SubL.nil) HistOk.z) ?_
        replace h := ck_some h; obtain ⟨hc23, h⟩ := h
        refine JR.loud rfl rfl rfl (Loud.appendL 0 FI64I64p rfl rfl rfl (Lent.row (j := 6) rfl FI64I64p hc19.1 hc19.2) rfl rfl rfl rfl hc23 rfl) rfl (fun u22 => (BsOk.b rfl (BsOk.b rfl (BsOk.b rfl (BsOk.b rfl (BsOk.b rfl (BsOk.b rfl (BsOk.h (SubM.nil) (SubL.nil) (BsOk.h (SubM.cons 3 rfl (SubM.nil)) (SubL.nil) (BsOk.h (SubM.nil) (SubL.nil) BsOk.z)))))))))) fun u22 => ?_
        refine JR.tailD 11 rfl rfl ?_
        replace h := ck_some h; obtain ⟨hc24, h⟩ := h
        refine J.quiet (Y.indexN rfl rfl (Lent.rows (i := 5) (j := 6) rfl rfl FI64I64p) rfl rfl hc24) rfl ?_
        refine J.know (Know.one ((Lent.ar (Lent.res 0 rfl) FI64I64p))) fun ho25 => ?_
        refine J.stp (Stp.putRow (k := p3) 6 0 rfl rfl rfl hc24) ?_
        refine J.storeRow 4 5 ⟨hc24.1, by first | exact hc24.2 | simpa using hc24.2⟩ rfl rfl rfl rfl rfl (by simp) ho25 rfl ?_
        refine J.done ?_
        refine J.thenN ?_
        refine J.ret ?_
        refine J.thenR ?_
        obtain rfl := Option.some.inj h
        exact J.retG0 (List.set (List.set w5 (Int.toNat p2) u14) (Int.toNat p3) u22) rfl rfl .ret (.inl rfl) (SubM.cons 4 rfl (SubM.cons 4 rfl (SubM.nil))) LentAll.nil
      · replace h := ifBN hp9 h
        refine J.skip ?_
        refine J.thenN ?_
        replace h := ck_some h; obtain ⟨hc26, h⟩ := h
        replace h := ck_some h; obtain ⟨hc29, h⟩ := h
        replace h := ck_some h; obtain ⟨hc34, h⟩ := h
        replace h := ck_some h; obtain ⟨hc37, h⟩ := h
        replace h := ck_some h; obtain ⟨hc38, h⟩ := h
        replace h := ck_some h; obtain ⟨hc39, h⟩ := h
        replace h := ck_some h; obtain ⟨hc43, h⟩ := h
        refine JR.orders [0, 1, 0, 0, 8, 0, 0, 64, 0, 448, 960, 0, 2048, 8128, 0, 16384, 0, 114688, 245760, 0, 524288, 2097088, 4194247, 8388551, 16777215, 33554431] 24 [[0, 1, 2, 3, 4, 5, 6, 7, 8, 9, 10, 11, 14, 15, 16, 17, 18, 19, 12, 13, 20, 21, 22, 23, 24, 25], [0, 1, 2, 3, 4, 5, 6, 7, 8, 9, 10, 11, 14, 15, 16, 17, 18, 19, 12, 20, 13, 21, 22, 23, 24, 25], [0, 1, 2, 3, 4, 5, 6, 7, 8, 9, 10, 11, 14, 15, 16, 17, 18, 19, 20, 12, 13, 21, 22, 23, 24, 25]] mixedOrders (by decide +kernel) (by decide +kernel) ?_
        intro o ho
        simp only [List.mem_cons, List.not_mem_nil, or_false] at ho
        rcases ho with rfl | rfl | rfl
        · refine JR.qt rfl (SubM.nil) (SubL.nil) (Y.fieldB rfl rfl rfl rfl rfl) HistOk.z ?_
          refine JR.qt rfl (SubM.cons 2 rfl (SubM.nil)) (SubL.nil) (Y.loadB 0 rfl rfl rfl rfl rfl) HistOk.z ?_
          refine JR.qt rfl (SubM.nil) (SubL.nil) (Y.move rfl) HistOk.z ?_
          refine JR.qt rfl (SubM.nil) (SubL.nil) (Y.fieldB rfl rfl rfl rfl rfl) HistOk.z ?_
          refine JR.qt rfl (SubM.cons 2 rfl (SubM.nil)) (SubL.nil) (Y.loadB 0 rfl rfl rfl rfl rfl) HistOk.z ?_
          refine JR.qt rfl (SubM.nil) (SubL.nil) (Y.move rfl) HistOk.z ?_
          refine JR.qt rfl (SubM.nil) (SubL.nil) (Y.fieldB rfl rfl rfl rfl rfl) HistOk.z ?_
          refine JR.qt rfl (SubM.cons 2 rfl (SubM.nil)) (SubL.nil) (Y.loadB 0 rfl rfl rfl rfl rfl) HistOk.z ?_
          refine JR.qt rfl (SubM.nil) (SubL.nil) (Y.move rfl) HistOk.z ?_
          refine JR.know (Know.rws 5 rfl) fun hl46 => ?_
          refine JR.qt rfl (SubM.cons 4 rfl (SubM.nil)) (SubL.nil) (Y.indexA 0 rfl rfl rfl rfl rfl hc26.1 (by have q1 := hc26.2; have q2 := hl46; (try simp only [List.length_set] at q1); (try simp only [List.length_set] at q2); (try simp only [List.length_set]); omega)) HistOk.z ?_
          refine JR.know (Know.rws 5 rfl) fun hl47 => ?_
          refine JR.qt rfl (SubM.cons 4 rfl (SubM.nil)) (SubL.nil) (Y.loadRaw 0 rfl rfl hl47 rfl rfl hc26) HistOk.z ?_
          refine JR.qt rfl (SubM.cons 1 rfl (SubM.nil)) (SubL.nil) (Y.loadBAll 0 rfl rfl rfl rfl) HistOk.z ?_
          refine JR.qt rfl (SubM.nil) (SubL.nil) (Y.fieldB rfl rfl rfl rfl rfl) HistOk.z ?_
          refine JR.qt rfl (SubM.cons 2 rfl (SubM.nil)) (SubL.nil) (Y.loadB 0 rfl rfl rfl rfl rfl) HistOk.z ?_
          refine JR.qt rfl (SubM.nil) (SubL.nil) (Y.move rfl) HistOk.z ?_
          refine JR.know (Know.rws 5 rfl) fun hl48 => ?_
          refine JR.qt rfl (SubM.cons 4 rfl (SubM.nil)) (SubL.nil) (Y.indexA 0 rfl rfl rfl rfl rfl hc29.1 (by have q1 := hc29.2; have q2 := hl48; (try simp only [List.length_set] at q1); (try simp only [List.length_set] at q2); (try simp only [List.length_set]); omega)) HistOk.z ?_
          refine JR.know (Know.rws 5 rfl) fun hl49 => ?_
          refine JR.qt rfl (SubM.cons 4 rfl (SubM.nil)) (SubL.nil) (Y.loadRaw 0 rfl rfl hl49 rfl rfl hc29) HistOk.z ?_
          refine JR.qt rfl (SubM.cons 0 rfl (SubM.nil)) (SubL.nil) (Y.loadBAll 0 rfl rfl rfl rfl) HistOk.z ?_
          refine JR.loud rfl rfl rfl (Loud.buildS (e := EI64I64p) ([((p3, p4))]) [(0, Value.agg #[Value.int .i64 (p3), Value.int .i64 (p4)])] rfl rfl rfl rfl (fill_1_2 (Value.int .i64 (p3)) (Value.int .i64 (p4))) rfl rfl rfl) rfl (fun u50 => (BsOk.h (SubM.cons 1 rfl (SubM.nil)) (SubL.nil) (BsOk.h (SubM.cons 5 rfl (SubM.nil)) (SubL.nil) (BsOk.h (SubM.cons 5 rfl (SubM.nil)) (SubL.nil) (BsOk.h (SubM.nil) (SubL.nil) (BsOk.h (SubM.cons 3 rfl (SubM.nil)) (SubL.nil) (BsOk.h (SubM.nil) (SubL.nil) (BsOk.b rfl (BsOk.h (SubM.cons 5 rfl (SubM.nil)) (SubL.nil) (BsOk.h (SubM.cons 5 rfl (SubM.nil)) (SubL.nil) (BsOk.h (SubM.nil) (SubL.nil) (BsOk.h (SubM.cons 3 rfl (SubM.nil)) (SubL.nil) (BsOk.h (SubM.nil) (SubL.nil) (BsOk.h (SubM.nil) (SubL.nil) (BsOk.h (SubM.cons 3 rfl (SubM.nil)) (SubL.nil) (BsOk.h (SubM.nil) (SubL.nil) (BsOk.h (SubM.nil) (SubL.nil) (BsOk.h (SubM.cons 3 rfl (SubM.nil)) (SubL.nil) (BsOk.h (SubM.nil) (SubL.nil) BsOk.z))))))))))))))))))) fun u50 => ?_
          refine JR.loud rfl rfl rfl (Loud.appendRowL 6 FI64I64p rfl rfl rfl (Lent.ar (Lent.res 0 rfl) FI64I64p) rfl rfl rfl rfl hc26 hc34 rfl) rfl (fun u51 => (BsOk.h (SubM.cons 1 rfl (SubM.nil)) (SubL.nil) (BsOk.h (SubM.cons 5 rfl (SubM.nil)) (SubL.nil) (BsOk.h (SubM.cons 5 rfl (SubM.nil)) (SubL.nil) (BsOk.h (SubM.nil) (SubL.nil) (BsOk.h (SubM.cons 3 rfl (SubM.nil)) (SubL.nil) (BsOk.h (SubM.nil) (SubL.nil) (BsOk.b rfl (BsOk.b rfl (BsOk.b rfl (BsOk.b rfl (BsOk.b rfl (BsOk.b rfl (BsOk.h (SubM.nil) (SubL.nil) (BsOk.h (SubM.cons 3 rfl (SubM.nil)) (SubL.nil) (BsOk.h (SubM.nil) (SubL.nil) (BsOk.h (SubM.nil) (SubL.nil) (BsOk.h (SubM.cons 3 rfl (SubM.nil)) (SubL.nil) (BsOk.h (SubM.nil) (SubL.nil) BsOk.z))))))))))))))))))) fun u51 => ?_
          refine JR.loud rfl rfl rfl (Loud.buildS (e := EI64I64p) ([((p2, p4))]) [(0, Value.agg #[Value.int .i64 (p2), Value.int .i64 (p4)])] rfl rfl rfl rfl (fill_1_2 (Value.int .i64 (p2)) (Value.int .i64 (p4))) rfl rfl rfl) rfl (fun u52 => (BsOk.b rfl (BsOk.h (SubM.cons 6 rfl (SubM.nil)) (SubL.nil) (BsOk.h (SubM.cons 6 rfl (SubM.nil)) (SubL.nil) (BsOk.h (SubM.nil) (SubL.nil) (BsOk.h (SubM.cons 4 rfl (SubM.nil)) (SubL.nil) (BsOk.h (SubM.nil) (SubL.nil) (BsOk.h (SubM.cons 3 rfl (SubM.nil)) (SubL.nil) (BsOk.h (SubM.cons 6 rfl (SubM.nil)) (SubL.nil) (BsOk.h (SubM.cons 6 rfl (SubM.nil)) (SubL.nil) (BsOk.h (SubM.nil) (SubL.nil) (BsOk.h (SubM.cons 4 rfl (SubM.nil)) (SubL.nil) (BsOk.h (SubM.nil) (SubL.nil) (BsOk.h (SubM.nil) (SubL.nil) (BsOk.h (SubM.cons 4 rfl (SubM.nil)) (SubL.nil) (BsOk.h (SubM.nil) (SubL.nil) (BsOk.h (SubM.nil) (SubL.nil) (BsOk.h (SubM.cons 4 rfl (SubM.nil)) (SubL.nil) (BsOk.h (SubM.nil) (SubL.nil) BsOk.z))))))))))))))))))) fun u52 => ?_
          refine JR.loud rfl rfl rfl (Loud.appendRow2 (j := p2) 7 FI64I64p rfl rfl rfl (Lent.ar (Lent.res 0 rfl) FI64I64p) rfl rfl rfl rfl hc29 hc37 rfl hc38) rfl (fun u53 => (BsOk.b rfl (BsOk.b rfl (BsOk.b rfl (BsOk.b rfl (BsOk.b rfl (BsOk.b rfl (BsOk.b rfl (BsOk.b rfl (BsOk.b rfl (BsOk.b rfl (BsOk.b rfl (BsOk.b rfl (BsOk.h (SubM.nil) (SubL.nil) (BsOk.h (SubM.cons 4 rfl (SubM.nil)) (SubL.nil) (BsOk.h (SubM.nil) (SubL.nil) (BsOk.h (SubM.nil) (SubL.nil) (BsOk.h (SubM.cons 4 rfl (SubM.nil)) (SubL.nil) (BsOk.h (SubM.nil) (SubL.nil) BsOk.z))))))))))))))))))) fun u53 => ?_
          refine JR.know (Know.rws 7 rfl) fun hl54 => ?_
          refine JR.qt rfl (SubM.cons 6 rfl (SubM.nil)) (SubL.nil) (Y.indexA 0 rfl rfl rfl rfl rfl hc39.1 (by have q1 := hc39.2; have q2 := hl54; (try simp only [List.length_set] at q1); (try simp only [List.length_set] at q2); (try simp only [List.length_set]); omega)) (HistOk.b rfl (HistOk.b rfl (HistOk.b rfl (HistOk.b rfl HistOk.z)))) ?_
          refine JR.know (Know.oneRow2 (k := p2) (j := p3) 7 rfl (by omega) ⟨hc39.1, by first | exact hc39.2 | simpa using hc39.2⟩) fun ho55 => ?_
          refine JR.loud0 rfl rfl rfl (Loud.storeRow 6 7 ⟨hc39.1, by first | exact hc39.2 | simpa using hc39.2⟩ rfl rfl rfl rfl (by simp) ho55 rfl) (fun x56 => (BsOk.b rfl (BsOk.b rfl (BsOk.b rfl (BsOk.b rfl (BsOk.b rfl (BsOk.b rfl (BsOk.b rfl (BsOk.b rfl (BsOk.b rfl (BsOk.b rfl (BsOk.b rfl (BsOk.b rfl (BsOk.b rfl (BsOk.h (SubM.nil) (SubL.nil) (BsOk.h (SubM.cons 4 rfl (SubM.nil)) (SubL.nil) (BsOk.h (SubM.nil) (SubL.nil) (BsOk.b rfl (BsOk.b rfl (BsOk.b rfl BsOk.z)))))))))))))))))))) fun x56 => ?_
          refine JR.tailD 24 rfl rfl ?_
          refine J.know (Know.rws 7 rfl) fun hl57 => ?_
          refine J.quiet (Y.indexA 6 rfl rfl rfl rfl rfl hc43.1 (by have q1 := hc43.2; have q2 := hl57; (try simp only [List.length_set] at q1); (try simp only [List.length_set] at q2); (try simp only [List.length_set]); omega)) rfl ?_
          refine J.know (Know.oneRow 7 (k := p3) rfl ⟨hc43.1, by first | exact hc43.2 | simpa using hc43.2⟩) fun ho58 => ?_
          refine J.storeRow 6 7 ⟨hc43.1, by first | exact hc43.2 | simpa using hc43.2⟩ rfl rfl rfl rfl rfl (by simp) ho58 rfl ?_
          refine J.done ?_
          obtain rfl := Option.some.inj h
          exact J.retG0 (List.set (List.set w5 (Int.toNat p2) u51) (Int.toNat p3) u53) rfl rfl .normal (.inr rfl) (SubM.cons 6 rfl (SubM.cons 6 rfl (SubM.nil))) LentAll.nil
        · refine JR.qt rfl (SubM.nil) (SubL.nil) (Y.fieldB rfl rfl rfl rfl rfl) HistOk.z ?_
          refine JR.qt rfl (SubM.cons 2 rfl (SubM.nil)) (SubL.nil) (Y.loadB 0 rfl rfl rfl rfl rfl) HistOk.z ?_
          refine JR.qt rfl (SubM.nil) (SubL.nil) (Y.move rfl) HistOk.z ?_
          refine JR.qt rfl (SubM.nil) (SubL.nil) (Y.fieldB rfl rfl rfl rfl rfl) HistOk.z ?_
          refine JR.qt rfl (SubM.cons 2 rfl (SubM.nil)) (SubL.nil) (Y.loadB 0 rfl rfl rfl rfl rfl) HistOk.z ?_
          refine JR.qt rfl (SubM.nil) (SubL.nil) (Y.move rfl) HistOk.z ?_
          refine JR.qt rfl (SubM.nil) (SubL.nil) (Y.fieldB rfl rfl rfl rfl rfl) HistOk.z ?_
          refine JR.qt rfl (SubM.cons 2 rfl (SubM.nil)) (SubL.nil) (Y.loadB 0 rfl rfl rfl rfl rfl) HistOk.z ?_
          refine JR.qt rfl (SubM.nil) (SubL.nil) (Y.move rfl) HistOk.z ?_
          refine JR.know (Know.rws 5 rfl) fun hl59 => ?_
          refine JR.qt rfl (SubM.cons 4 rfl (SubM.nil)) (SubL.nil) (Y.indexA 0 rfl rfl rfl rfl rfl hc26.1 (by have q1 := hc26.2; have q2 := hl59; (try simp only [List.length_set] at q1); (try simp only [List.length_set] at q2); (try simp only [List.length_set]); omega)) HistOk.z ?_
          refine JR.know (Know.rws 5 rfl) fun hl60 => ?_
          refine JR.qt rfl (SubM.cons 4 rfl (SubM.nil)) (SubL.nil) (Y.loadRaw 0 rfl rfl hl60 rfl rfl hc26) HistOk.z ?_
          refine JR.qt rfl (SubM.cons 1 rfl (SubM.nil)) (SubL.nil) (Y.loadBAll 0 rfl rfl rfl rfl) HistOk.z ?_
          refine JR.qt rfl (SubM.nil) (SubL.nil) (Y.fieldB rfl rfl rfl rfl rfl) HistOk.z ?_
          refine JR.qt rfl (SubM.cons 2 rfl (SubM.nil)) (SubL.nil) (Y.loadB 0 rfl rfl rfl rfl rfl) HistOk.z ?_
          refine JR.qt rfl (SubM.nil) (SubL.nil) (Y.move rfl) HistOk.z ?_
          refine JR.know (Know.rws 5 rfl) fun hl61 => ?_
          refine JR.qt rfl (SubM.cons 4 rfl (SubM.nil)) (SubL.nil) (Y.indexA 0 rfl rfl rfl rfl rfl hc29.1 (by have q1 := hc29.2; have q2 := hl61; (try simp only [List.length_set] at q1); (try simp only [List.length_set] at q2); (try simp only [List.length_set]); omega)) HistOk.z ?_
          refine JR.know (Know.rws 5 rfl) fun hl62 => ?_
          refine JR.qt rfl (SubM.cons 4 rfl (SubM.nil)) (SubL.nil) (Y.loadRaw 0 rfl rfl hl62 rfl rfl hc29) HistOk.z ?_
          refine JR.qt rfl (SubM.cons 0 rfl (SubM.nil)) (SubL.nil) (Y.loadBAll 0 rfl rfl rfl rfl) HistOk.z ?_
          refine JR.loud rfl rfl rfl (Loud.buildS (e := EI64I64p) ([((p3, p4))]) [(0, Value.agg #[Value.int .i64 (p3), Value.int .i64 (p4)])] rfl rfl rfl rfl (fill_1_2 (Value.int .i64 (p3)) (Value.int .i64 (p4))) rfl rfl rfl) rfl (fun u63 => (BsOk.h (SubM.cons 1 rfl (SubM.nil)) (SubL.nil) (BsOk.h (SubM.cons 5 rfl (SubM.nil)) (SubL.nil) (BsOk.h (SubM.cons 5 rfl (SubM.nil)) (SubL.nil) (BsOk.h (SubM.nil) (SubL.nil) (BsOk.h (SubM.cons 3 rfl (SubM.nil)) (SubL.nil) (BsOk.h (SubM.nil) (SubL.nil) (BsOk.b rfl (BsOk.h (SubM.cons 5 rfl (SubM.nil)) (SubL.nil) (BsOk.h (SubM.cons 5 rfl (SubM.nil)) (SubL.nil) (BsOk.h (SubM.nil) (SubL.nil) (BsOk.h (SubM.cons 3 rfl (SubM.nil)) (SubL.nil) (BsOk.h (SubM.nil) (SubL.nil) (BsOk.h (SubM.nil) (SubL.nil) (BsOk.h (SubM.cons 3 rfl (SubM.nil)) (SubL.nil) (BsOk.h (SubM.nil) (SubL.nil) (BsOk.h (SubM.nil) (SubL.nil) (BsOk.h (SubM.cons 3 rfl (SubM.nil)) (SubL.nil) (BsOk.h (SubM.nil) (SubL.nil) BsOk.z))))))))))))))))))) fun u63 => ?_
          refine JR.loud rfl rfl rfl (Loud.buildS (e := EI64I64p) ([((p2, p4))]) [(0, Value.agg #[Value.int .i64 (p2), Value.int .i64 (p4)])] rfl rfl rfl rfl (fill_1_2 (Value.int .i64 (p2)) (Value.int .i64 (p4))) rfl rfl rfl) rfl (fun u64 => (BsOk.b rfl (BsOk.h (SubM.cons 6 rfl (SubM.nil)) (SubL.nil) (BsOk.h (SubM.cons 6 rfl (SubM.nil)) (SubL.nil) (BsOk.h (SubM.nil) (SubL.nil) (BsOk.h (SubM.cons 4 rfl (SubM.nil)) (SubL.nil) (BsOk.h (SubM.nil) (SubL.nil) (BsOk.h (SubM.cons 3 rfl (SubM.nil)) (SubL.nil) (BsOk.h (SubM.cons 6 rfl (SubM.nil)) (SubL.nil) (BsOk.h (SubM.cons 6 rfl (SubM.nil)) (SubL.nil) (BsOk.h (SubM.nil) (SubL.nil) (BsOk.h (SubM.cons 4 rfl (SubM.nil)) (SubL.nil) (BsOk.h (SubM.nil) (SubL.nil) (BsOk.h (SubM.nil) (SubL.nil) (BsOk.h (SubM.cons 4 rfl (SubM.nil)) (SubL.nil) (BsOk.h (SubM.nil) (SubL.nil) (BsOk.h (SubM.nil) (SubL.nil) (BsOk.h (SubM.cons 4 rfl (SubM.nil)) (SubL.nil) (BsOk.h (SubM.nil) (SubL.nil) BsOk.z))))))))))))))))))) fun u64 => ?_
          refine JR.loud rfl rfl rfl (Loud.appendRowL 7 FI64I64p rfl rfl rfl (Lent.ar (Lent.res 1 rfl) FI64I64p) rfl rfl rfl rfl hc26 hc34 rfl) rfl (fun u65 => (BsOk.h (SubM.cons 2 rfl (SubM.nil)) (SubL.nil) (BsOk.h (SubM.cons 6 rfl (SubM.nil)) (SubL.nil) (BsOk.h (SubM.cons 6 rfl (SubM.nil)) (SubL.nil) (BsOk.h (SubM.nil) (SubL.nil) (BsOk.h (SubM.cons 4 rfl (SubM.nil)) (SubL.nil) (BsOk.h (SubM.nil) (SubL.nil) (BsOk.b rfl (BsOk.b rfl (BsOk.b rfl (BsOk.b rfl (BsOk.b rfl (BsOk.b rfl (BsOk.h (SubM.nil) (SubL.nil) (BsOk.h (SubM.cons 4 rfl (SubM.nil)) (SubL.nil) (BsOk.h (SubM.nil) (SubL.nil) (BsOk.h (SubM.nil) (SubL.nil) (BsOk.h (SubM.cons 4 rfl (SubM.nil)) (SubL.nil) (BsOk.h (SubM.nil) (SubL.nil) BsOk.z))))))))))))))))))) fun u65 => ?_
          refine JR.loud rfl rfl rfl (Loud.appendRow2 (j := p2) 7 FI64I64p rfl rfl rfl (Lent.ar (Lent.res 0 rfl) FI64I64p) rfl rfl rfl rfl hc29 hc37 rfl hc38) rfl (fun u66 => (BsOk.b rfl (BsOk.b rfl (BsOk.b rfl (BsOk.b rfl (BsOk.b rfl (BsOk.b rfl (BsOk.b rfl (BsOk.b rfl (BsOk.b rfl (BsOk.b rfl (BsOk.b rfl (BsOk.b rfl (BsOk.h (SubM.nil) (SubL.nil) (BsOk.h (SubM.cons 4 rfl (SubM.nil)) (SubL.nil) (BsOk.h (SubM.nil) (SubL.nil) (BsOk.h (SubM.nil) (SubL.nil) (BsOk.h (SubM.cons 4 rfl (SubM.nil)) (SubL.nil) (BsOk.h (SubM.nil) (SubL.nil) BsOk.z))))))))))))))))))) fun u66 => ?_
          refine JR.know (Know.rws 7 rfl) fun hl67 => ?_
          refine JR.qt rfl (SubM.cons 6 rfl (SubM.nil)) (SubL.nil) (Y.indexA 0 rfl rfl rfl rfl rfl hc39.1 (by have q1 := hc39.2; have q2 := hl67; (try simp only [List.length_set] at q1); (try simp only [List.length_set] at q2); (try simp only [List.length_set]); omega)) (HistOk.b rfl (HistOk.b rfl (HistOk.b rfl (HistOk.b rfl HistOk.z)))) ?_
          refine JR.know (Know.oneRow2 (k := p2) (j := p3) 7 rfl (by omega) ⟨hc39.1, by first | exact hc39.2 | simpa using hc39.2⟩) fun ho68 => ?_
          refine JR.loud0 rfl rfl rfl (Loud.storeRow 6 7 ⟨hc39.1, by first | exact hc39.2 | simpa using hc39.2⟩ rfl rfl rfl rfl (by simp) ho68 rfl) (fun x69 => (BsOk.b rfl (BsOk.b rfl (BsOk.b rfl (BsOk.b rfl (BsOk.b rfl (BsOk.b rfl (BsOk.b rfl (BsOk.b rfl (BsOk.b rfl (BsOk.b rfl (BsOk.b rfl (BsOk.b rfl (BsOk.b rfl (BsOk.h (SubM.nil) (SubL.nil) (BsOk.h (SubM.cons 4 rfl (SubM.nil)) (SubL.nil) (BsOk.h (SubM.nil) (SubL.nil) (BsOk.b rfl (BsOk.b rfl (BsOk.b rfl BsOk.z)))))))))))))))))))) fun x69 => ?_
          refine JR.tailD 24 rfl rfl ?_
          refine J.know (Know.rws 7 rfl) fun hl70 => ?_
          refine J.quiet (Y.indexA 6 rfl rfl rfl rfl rfl hc43.1 (by have q1 := hc43.2; have q2 := hl70; (try simp only [List.length_set] at q1); (try simp only [List.length_set] at q2); (try simp only [List.length_set]); omega)) rfl ?_
          refine J.know (Know.oneRow 7 (k := p3) rfl ⟨hc43.1, by first | exact hc43.2 | simpa using hc43.2⟩) fun ho71 => ?_
          refine J.storeRow 6 7 ⟨hc43.1, by first | exact hc43.2 | simpa using hc43.2⟩ rfl rfl rfl rfl rfl (by simp) ho71 rfl ?_
          refine J.done ?_
          obtain rfl := Option.some.inj h
          exact J.retG0 (List.set (List.set w5 (Int.toNat p2) u65) (Int.toNat p3) u66) rfl rfl .normal (.inr rfl) (SubM.cons 6 rfl (SubM.cons 6 rfl (SubM.nil))) LentAll.nil
        · refine JR.qt rfl (SubM.nil) (SubL.nil) (Y.fieldB rfl rfl rfl rfl rfl) HistOk.z ?_
          refine JR.qt rfl (SubM.cons 2 rfl (SubM.nil)) (SubL.nil) (Y.loadB 0 rfl rfl rfl rfl rfl) HistOk.z ?_
          refine JR.qt rfl (SubM.nil) (SubL.nil) (Y.move rfl) HistOk.z ?_
          refine JR.qt rfl (SubM.nil) (SubL.nil) (Y.fieldB rfl rfl rfl rfl rfl) HistOk.z ?_
          refine JR.qt rfl (SubM.cons 2 rfl (SubM.nil)) (SubL.nil) (Y.loadB 0 rfl rfl rfl rfl rfl) HistOk.z ?_
          refine JR.qt rfl (SubM.nil) (SubL.nil) (Y.move rfl) HistOk.z ?_
          refine JR.qt rfl (SubM.nil) (SubL.nil) (Y.fieldB rfl rfl rfl rfl rfl) HistOk.z ?_
          refine JR.qt rfl (SubM.cons 2 rfl (SubM.nil)) (SubL.nil) (Y.loadB 0 rfl rfl rfl rfl rfl) HistOk.z ?_
          refine JR.qt rfl (SubM.nil) (SubL.nil) (Y.move rfl) HistOk.z ?_
          refine JR.know (Know.rws 5 rfl) fun hl72 => ?_
          refine JR.qt rfl (SubM.cons 4 rfl (SubM.nil)) (SubL.nil) (Y.indexA 0 rfl rfl rfl rfl rfl hc26.1 (by have q1 := hc26.2; have q2 := hl72; (try simp only [List.length_set] at q1); (try simp only [List.length_set] at q2); (try simp only [List.length_set]); omega)) HistOk.z ?_
          refine JR.know (Know.rws 5 rfl) fun hl73 => ?_
          refine JR.qt rfl (SubM.cons 4 rfl (SubM.nil)) (SubL.nil) (Y.loadRaw 0 rfl rfl hl73 rfl rfl hc26) HistOk.z ?_
          refine JR.qt rfl (SubM.cons 1 rfl (SubM.nil)) (SubL.nil) (Y.loadBAll 0 rfl rfl rfl rfl) HistOk.z ?_
          refine JR.qt rfl (SubM.nil) (SubL.nil) (Y.fieldB rfl rfl rfl rfl rfl) HistOk.z ?_
          refine JR.qt rfl (SubM.cons 2 rfl (SubM.nil)) (SubL.nil) (Y.loadB 0 rfl rfl rfl rfl rfl) HistOk.z ?_
          refine JR.qt rfl (SubM.nil) (SubL.nil) (Y.move rfl) HistOk.z ?_
          refine JR.know (Know.rws 5 rfl) fun hl74 => ?_
          refine JR.qt rfl (SubM.cons 4 rfl (SubM.nil)) (SubL.nil) (Y.indexA 0 rfl rfl rfl rfl rfl hc29.1 (by have q1 := hc29.2; have q2 := hl74; (try simp only [List.length_set] at q1); (try simp only [List.length_set] at q2); (try simp only [List.length_set]); omega)) HistOk.z ?_
          refine JR.know (Know.rws 5 rfl) fun hl75 => ?_
          refine JR.qt rfl (SubM.cons 4 rfl (SubM.nil)) (SubL.nil) (Y.loadRaw 0 rfl rfl hl75 rfl rfl hc29) HistOk.z ?_
          refine JR.qt rfl (SubM.cons 0 rfl (SubM.nil)) (SubL.nil) (Y.loadBAll 0 rfl rfl rfl rfl) HistOk.z ?_
          refine JR.loud rfl rfl rfl (Loud.buildS (e := EI64I64p) ([((p2, p4))]) [(0, Value.agg #[Value.int .i64 (p2), Value.int .i64 (p4)])] rfl rfl rfl rfl (fill_1_2 (Value.int .i64 (p2)) (Value.int .i64 (p4))) rfl rfl rfl) rfl (fun u76 => (BsOk.b rfl (BsOk.h (SubM.cons 5 rfl (SubM.nil)) (SubL.nil) (BsOk.h (SubM.cons 5 rfl (SubM.nil)) (SubL.nil) (BsOk.h (SubM.nil) (SubL.nil) (BsOk.h (SubM.cons 3 rfl (SubM.nil)) (SubL.nil) (BsOk.h (SubM.nil) (SubL.nil) (BsOk.h (SubM.cons 2 rfl (SubM.nil)) (SubL.nil) (BsOk.h (SubM.cons 5 rfl (SubM.nil)) (SubL.nil) (BsOk.h (SubM.cons 5 rfl (SubM.nil)) (SubL.nil) (BsOk.h (SubM.nil) (SubL.nil) (BsOk.h (SubM.cons 3 rfl (SubM.nil)) (SubL.nil) (BsOk.h (SubM.nil) (SubL.nil) (BsOk.h (SubM.nil) (SubL.nil) (BsOk.h (SubM.cons 3 rfl (SubM.nil)) (SubL.nil) (BsOk.h (SubM.nil) (SubL.nil) (BsOk.h (SubM.nil) (SubL.nil) (BsOk.h (SubM.cons 3 rfl (SubM.nil)) (SubL.nil) (BsOk.h (SubM.nil) (SubL.nil) BsOk.z))))))))))))))))))) fun u76 => ?_
          refine JR.loud rfl rfl rfl (Loud.buildS (e := EI64I64p) ([((p3, p4))]) [(0, Value.agg #[Value.int .i64 (p3), Value.int .i64 (p4)])] rfl rfl rfl rfl (fill_1_2 (Value.int .i64 (p3)) (Value.int .i64 (p4))) rfl rfl rfl) rfl (fun u77 => (BsOk.h (SubM.cons 2 rfl (SubM.nil)) (SubL.nil) (BsOk.h (SubM.cons 6 rfl (SubM.nil)) (SubL.nil) (BsOk.h (SubM.cons 6 rfl (SubM.nil)) (SubL.nil) (BsOk.h (SubM.nil) (SubL.nil) (BsOk.h (SubM.cons 4 rfl (SubM.nil)) (SubL.nil) (BsOk.h (SubM.nil) (SubL.nil) (BsOk.b rfl (BsOk.h (SubM.cons 6 rfl (SubM.nil)) (SubL.nil) (BsOk.h (SubM.cons 6 rfl (SubM.nil)) (SubL.nil) (BsOk.h (SubM.nil) (SubL.nil) (BsOk.h (SubM.cons 4 rfl (SubM.nil)) (SubL.nil) (BsOk.h (SubM.nil) (SubL.nil) (BsOk.h (SubM.nil) (SubL.nil) (BsOk.h (SubM.cons 4 rfl (SubM.nil)) (SubL.nil) (BsOk.h (SubM.nil) (SubL.nil) (BsOk.h (SubM.nil) (SubL.nil) (BsOk.h (SubM.cons 4 rfl (SubM.nil)) (SubL.nil) (BsOk.h (SubM.nil) (SubL.nil) BsOk.z))))))))))))))))))) fun u77 => ?_
          refine JR.loud rfl rfl rfl (Loud.appendRowL 7 FI64I64p rfl rfl rfl (Lent.ar (Lent.res 0 rfl) FI64I64p) rfl rfl rfl rfl hc26 hc34 rfl) rfl (fun u78 => (BsOk.h (SubM.cons 2 rfl (SubM.nil)) (SubL.nil) (BsOk.h (SubM.cons 6 rfl (SubM.nil)) (SubL.nil) (BsOk.h (SubM.cons 6 rfl (SubM.nil)) (SubL.nil) (BsOk.h (SubM.nil) (SubL.nil) (BsOk.h (SubM.cons 4 rfl (SubM.nil)) (SubL.nil) (BsOk.h (SubM.nil) (SubL.nil) (BsOk.b rfl (BsOk.b rfl (BsOk.b rfl (BsOk.b rfl (BsOk.b rfl (BsOk.b rfl (BsOk.h (SubM.nil) (SubL.nil) (BsOk.h (SubM.cons 4 rfl (SubM.nil)) (SubL.nil) (BsOk.h (SubM.nil) (SubL.nil) (BsOk.h (SubM.nil) (SubL.nil) (BsOk.h (SubM.cons 4 rfl (SubM.nil)) (SubL.nil) (BsOk.h (SubM.nil) (SubL.nil) BsOk.z))))))))))))))))))) fun u78 => ?_
          refine JR.loud rfl rfl rfl (Loud.appendRow2 (j := p2) 7 FI64I64p rfl rfl rfl (Lent.ar (Lent.res 1 rfl) FI64I64p) rfl rfl rfl rfl hc29 hc37 rfl hc38) rfl (fun u79 => (BsOk.b rfl (BsOk.b rfl (BsOk.b rfl (BsOk.b rfl (BsOk.b rfl (BsOk.b rfl (BsOk.b rfl (BsOk.b rfl (BsOk.b rfl (BsOk.b rfl (BsOk.b rfl (BsOk.b rfl (BsOk.h (SubM.nil) (SubL.nil) (BsOk.h (SubM.cons 4 rfl (SubM.nil)) (SubL.nil) (BsOk.h (SubM.nil) (SubL.nil) (BsOk.h (SubM.nil) (SubL.nil) (BsOk.h (SubM.cons 4 rfl (SubM.nil)) (SubL.nil) (BsOk.h (SubM.nil) (SubL.nil) BsOk.z))))))))))))))))))) fun u79 => ?_
          refine JR.know (Know.rws 7 rfl) fun hl80 => ?_
          refine JR.qt rfl (SubM.cons 6 rfl (SubM.nil)) (SubL.nil) (Y.indexA 0 rfl rfl rfl rfl rfl hc39.1 (by have q1 := hc39.2; have q2 := hl80; (try simp only [List.length_set] at q1); (try simp only [List.length_set] at q2); (try simp only [List.length_set]); omega)) (HistOk.b rfl (HistOk.b rfl (HistOk.b rfl (HistOk.b rfl HistOk.z)))) ?_
          refine JR.know (Know.oneRow2 (k := p2) (j := p3) 7 rfl (by omega) ⟨hc39.1, by first | exact hc39.2 | simpa using hc39.2⟩) fun ho81 => ?_
          refine JR.loud0 rfl rfl rfl (Loud.storeRow 6 7 ⟨hc39.1, by first | exact hc39.2 | simpa using hc39.2⟩ rfl rfl rfl rfl (by simp) ho81 rfl) (fun x82 => (BsOk.b rfl (BsOk.b rfl (BsOk.b rfl (BsOk.b rfl (BsOk.b rfl (BsOk.b rfl (BsOk.b rfl (BsOk.b rfl (BsOk.b rfl (BsOk.b rfl (BsOk.b rfl (BsOk.b rfl (BsOk.b rfl (BsOk.h (SubM.nil) (SubL.nil) (BsOk.h (SubM.cons 4 rfl (SubM.nil)) (SubL.nil) (BsOk.h (SubM.nil) (SubL.nil) (BsOk.b rfl (BsOk.b rfl (BsOk.b rfl BsOk.z)))))))))))))))))))) fun x82 => ?_
          refine JR.tailD 24 rfl rfl ?_
          refine J.know (Know.rws 7 rfl) fun hl83 => ?_
          refine J.quiet (Y.indexA 6 rfl rfl rfl rfl rfl hc43.1 (by have q1 := hc43.2; have q2 := hl83; (try simp only [List.length_set] at q1); (try simp only [List.length_set] at q2); (try simp only [List.length_set]); omega)) rfl ?_
          refine J.know (Know.oneRow 7 (k := p3) rfl ⟨hc43.1, by first | exact hc43.2 | simpa using hc43.2⟩) fun ho84 => ?_
          refine J.storeRow 6 7 ⟨hc43.1, by first | exact hc43.2 | simpa using hc43.2⟩ rfl rfl rfl rfl rfl (by simp) ho84 rfl ?_
          refine J.done ?_
          obtain rfl := Option.some.inj h
          exact J.retG0 (List.set (List.set w5 (Int.toNat p2) u78) (Int.toNat p3) u79) rfl rfl .normal (.inr rfl) (SubM.cons 6 rfl (SubM.cons 6 rfl (SubM.nil))) LentAll.nil

end Go.Proofs.Ytmajgimhmfeliaa
end
section
set_option linter.unusedVariables false
set_option linter.unusedSimpArgs false
namespace Go.Proofs.Ytmajgimhmfeliaa
open Go.Sx
set_option linter.unusedVariables false
set_option linter.unusedSimpArgs false
def _world_Net__Tree_k1 (r3 : (List (Int) × (List (List (Int × Int))))) (a11 : (List (List (Int × Int)))) : Option ((List (Int) × (List (List (Int × Int))))) :=
  some ((r3.1, a11))
def _world_Net__Tree_s1 (fuel : Nat) (p0 : Int × List (Int) × List (Int) × List (Int) × Bool × Bool) (r3 : (List (Int) × (List (List (Int × Int))))) (a19 : Int × (List (List (Int × Int)))) (ag18 : (Int × (List (List (Int × Int)))) → Option ((List (Int) × (List (List (Int × Int)))))) : Option ((List (Int) × (List (List (Int × Int))))) :=
  if a19.1 < (List.length a19.2 : Int) then (Option.bind (m_world_at fuel p0.2.1 (wI .i64 (a19.1 - (1 : Int)))) fun r23 => (Option.bind (m_world_Within fuel r23 a19.1) fun r26 => (Option.bind (m_world_at fuel p0.2.2.1 (wI .i64 (a19.1 - (1 : Int)))) fun r29 => (Option.bind (m_world_Within fuel r29 (15 : Int)) fun r32 => (Option.bind (m__world_Net__link fuel ((p0.1, p0.2.1, p0.2.2.1, p0.2.2.2.1, p0.2.2.2.2.1, p0.2.2.2.2.2)) ((r3.1, a19.2)) r26 a19.1 (wI .i64 ((1 : Int) + r32))) fun r35 => (ag18 ((wI .i64 (a19.1 + (1 : Int))), r35))))))) else (_world_Net__Tree_k1 r3 (a19.2))
def m__world_Net__Tree (fuel : Nat) (p0 : Int × List (Int) × List (Int) × List (Int) × Bool × Bool) (p1 : Int) : Option ((List (Int) × (List (List (Int × Int))))) :=
  Option.bind (m__world_Net__nodes fuel ((p0.1, p0.2.1, p0.2.2.1, p0.2.2.2.1, p0.2.2.2.2.1, p0.2.2.2.2.2)) p1) fun r3 => (iter (_world_Net__Tree_s1 fuel p0 r3) fuel ((1 : Int), r3.2))

theorem body27 : HasBody Try.prog 27 := Try.call27

set_option maxHeartbeats 4000000 in
set_option maxRecDepth 20000 in
theorem t__world_Net__Tree (fuel : Nat) {p0 : Int × List (Int) × List (Int) × List (Int) × Bool × Bool} {p1 : Int} (v0 : Value)  (v1 : Value)  (v2 : Value) (r : (List (Int) × (List (List (Int × Int))))) (h : m__world_Net__Tree fuel p0 p1 = some r) :
    Meets Try.prog 27 #[Value.agg #[Value.int .i64 (p0.1), v0, v1, v2, Value.bool (p0.2.2.2.2.1), Value.bool (p0.2.2.2.2.2)], Value.int .i64 (p1)] [Sl RI64 v0 p0.2.1, Sl RI64 v1 p0.2.2.1, Sl RI64 v2 p0.2.2.2.1] (fun x : Value × Value × List Value => Value.agg #[x.1, x.2.1]) (fun x l => Ar EI64 x.1 r.1 :: Ar Enc.raw x.2.1 x.2.2 :: Rws EI64I64p x.2.2 r.2 :: l) (fun _ l => l) := by
  refine Meets.of (vs := [Value.agg #[Value.int .i64 (p0.1), v0, v1, v2, Value.bool (p0.2.2.2.2.1), Value.bool (p0.2.2.2.2.2)], Value.int .i64 (p1)]) Try.func27 rfl Try.ntmps27 rfl fun c => ?_
  unfold m__world_Net__Tree at h
  refine J.seq ?_
  refine J.region ?_
  refine J.loud (Loud.box (cs := [Value.int .i64 (p0.1), v0, v1, v2, Value.bool (p0.2.2.2.2.1), Value.bool (p0.2.2.2.2.2)]) rfl rfl) rfl fun b1 => ?_
  refine J.loud (Loud.alloc (cs := [Value.slice none 0 0, Value.slice none 0 0]) rfl rfl) rfl fun b2 => ?_
  refine J.done ?_
  refine J.thenN ?_
  refine J.seq ?_
  refine J.region ?_
  refine J.quiet (Y.loadBAll 1 rfl rfl rfl rfl) rfl ?_
  refine J.quiet (Y.move rfl) rfl ?_
  replace h := bnd h; obtain ⟨r3, hr4, h⟩ := h
  refine J.loud (Loud.callL body44 (t__world_Net__nodes fuel v0 v1 v2 r3 hr4) rfl (LentAll.cons (Lent.fact 0 rfl) (LentAll.cons (Lent.fact 1 rfl) (LentAll.cons (Lent.fact 2 rfl) (LentAll.nil)))) (fun _ _ => rfl)) rfl fun x5 => ?_
  refine J.loud (Loud.alloc (cs := [Value.slice none 0 0, Value.slice none 0 0]) rfl rfl) rfl fun b6 => ?_
  refine J.know (Know.one ((Lent.ar (Lent.res 1 rfl) FI64))) fun ho7 => ?_
  refine J.know (Know.one (Lent.sl (Lent.rows (i := 2) (j := 3) rfl rfl FI64I64p))) fun ho8 => ?_
  refine J.storeAll 0 (vs := [x5.1, x5.2.1]) rfl rfl (all1 ho7 (all1 ho8 rfl)) rfl rfl rfl ?_
  refine J.done ?_
  refine J.thenN ?_
  refine J.seq ?_
  refine J.midI (A := (List (List (Int × Int)))) (B := List Value) (fun a11 => _world_Net__Tree_k1 r3 a11 = some r) (fun a11 b12 => [(4, Value.pointer (some ⟨b2, 0, none⟩)), (5, Value.pointer (some ⟨b6, 0, none⟩))]) (fun a11 b12 => [Blk b6 [x5.1, x5.2.1] 29, Ar EI64 x5.1 r3.1, Ar Enc.raw x5.2.1 b12, Rws EI64I64p b12 a11, Blk b2 [Value.slice none 0 0, Value.slice none 0 0] 29]) (fun a11 b12 => [Sl RI64 v0 p0.2.1, Sl RI64 v1 p0.2.2.1, Sl RI64 v2 p0.2.2.2.1]) ?_ ?_
  · refine J.seq ?_
    refine J.region ?_
    refine J.quiet (Y.assign rfl) rfl ?_
    refine J.done ?_
    refine J.thenN ?_
    refine J.block ?_
    refine J.loopI (A := Int × (List (List (Int × Int)))) (B := List Value) (_world_Net__Tree_s1 fuel p0 r3) (fun a19 b20 => [(2, Value.pointer (some ⟨b1, 0, none⟩)), (4, Value.pointer (some ⟨b2, 0, none⟩)), (5, Value.pointer (some ⟨b6, 0, none⟩)), (6, Value.int .i64 (a19.1))]) (fun a19 b20 => [Blk b6 [x5.1, x5.2.1] 29, Ar EI64 x5.1 r3.1, Ar Enc.raw x5.2.1 b20, Rws EI64I64p b20 a19.2, Blk b2 [Value.slice none 0 0, Value.slice none 0 0] 29, Blk b1 [Value.int .i64 (p0.1), v0, v1, v2, Value.bool (p0.2.2.2.2.1), Value.bool (p0.2.2.2.2.2)] 24]) (fun a19 b20 => [Sl RI64 v0 p0.2.1, Sl RI64 v1 p0.2.2.1, Sl RI64 v2 p0.2.2.2.1]) ((1 : Int), r3.2) (x5.2.2) h (by repeat (first | exact SubF.nil | refine SubF.cons rfl ?_)) (SubM.refl _) (LentAll.refl _ _) ?_
    clear h
    intro k21 a19 b20 h
    unfold _world_Net__Tree_s1 at h
    refine J.seq ?_
    refine J.seq ?_
    refine J.region ?_
    refine J.quiet (Y.move rfl) rfl ?_
    refine J.quiet (Y.fieldB rfl rfl rfl rfl rfl) rfl ?_
    refine J.quiet (Y.loadB 0 rfl rfl rfl rfl rfl) rfl ?_
    refine J.quiet (Y.lenN rfl (Lent.rows (i := 2) (j := 3) rfl rfl FI64I64p) rfl) rfl ?_
    refine J.quiet (Y.lss rfl rfl) rfl ?_
    refine J.done ?_
    refine J.thenN ?_
    refine J.condD (by exact rfl) (fun hp22 => ?_) (fun hp22 => ?_)
    · replace h := ifP hp22 h
      refine J.skip ?_
      refine J.thenN ?_
      refine J.seq ?_
      refine J.block ?_
      refine JR.start [0, 0, 0, 4, 0, 16, 60, 0, 252, 0, 0, 1024, 0, 4096, 15868, 32252, 65020, 131071] 17 mixedOrders (by decide +kernel) ?_
      refine JR.open (by exact rfl) ?_
      refine JR.qt rfl (SubM.cons 5 rfl (SubM.nil)) (SubL.nil) (Y.loadBAll 0 rfl rfl rfl rfl) HistOk.z ?_
      refine JR.qt rfl (SubM.cons 0 rfl (SubM.nil)) (SubL.nil) (Y.loadBAll 0 rfl rfl rfl rfl) HistOk.z ?_
      refine JR.qt rfl (SubM.nil) (SubL.nil) (Y.fieldB rfl rfl rfl rfl rfl) HistOk.z ?_
      refine JR.qt rfl (SubM.cons 5 rfl (SubM.nil)) (SubL.nil) (Y.loadB 0 rfl rfl rfl rfl rfl) HistOk.z ?_
      refine JR.qt rfl (SubM.nil) (SubL.nil) (Y.move rfl) HistOk.z ?_
      refine JR.qt rfl (SubM.nil) (SubL.nil) (Y.subW rfl rfl) HistOk.z ?_
      replace h := bnd h; obtain ⟨r23, hr24, h⟩ := h
      refine JR.loud rfl rfl rfl (Loud.callL body52 (t_world_at fuel v0 r23 hr24) rfl (LentAll.cons (Lent.fact 0 rfl) (LentAll.nil)) (fun _ _ => rfl)) rfl (fun x25 => (BsOk.b rfl (BsOk.b rfl (BsOk.b rfl (BsOk.b rfl (BsOk.h (SubM.cons 0 rfl (SubM.nil)) (SubL.nil) (BsOk.h (SubM.cons 5 rfl (SubM.nil)) (SubL.nil) BsOk.z))))))) fun x25 => ?_
      refine JR.qt rfl (SubM.nil) (SubL.nil) (Y.move rfl) (HistOk.h (SubM.nil) (SubL.nil) HistOk.z) ?_
      replace h := bnd h; obtain ⟨r26, hr27, h⟩ := h
      refine JR.loud rfl rfl rfl (Loud.callL body14 (t_world_Within fuel  r26 hr27) rfl (LentAll.nil) (fun _ _ => rfl)) rfl (fun x28 => (BsOk.b rfl (BsOk.b rfl (BsOk.b rfl (BsOk.b rfl (BsOk.b rfl (BsOk.h (SubM.cons 0 rfl (SubM.nil)) (SubL.nil) (BsOk.h (SubM.cons 5 rfl (SubM.nil)) (SubL.nil) BsOk.z)))))))) fun x28 => ?_
      refine JR.qt rfl (SubM.nil) (SubL.nil) (Y.move rfl) (HistOk.h (SubM.nil) (SubL.nil) (HistOk.h (SubM.nil) (SubL.nil) HistOk.z)) ?_
      refine JR.qt rfl (SubM.nil) (SubL.nil) (Y.fieldB rfl rfl rfl rfl rfl) (HistOk.h (SubM.nil) (SubL.nil) (HistOk.h (SubM.nil) (SubL.nil) HistOk.z)) ?_
      refine JR.qt rfl (SubM.cons 5 rfl (SubM.nil)) (SubL.nil) (Y.loadB 0 rfl rfl rfl rfl rfl) (HistOk.h (SubM.cons 5 rfl (SubM.nil)) (SubL.nil) (HistOk.h (SubM.cons 5 rfl (SubM.nil)) (SubL.nil) HistOk.z)) ?_
      refine JR.qt rfl (SubM.nil) (SubL.nil) (Y.move rfl) (HistOk.h (SubM.nil) (SubL.nil) (HistOk.h (SubM.nil) (SubL.nil) HistOk.z)) ?_
      refine JR.qt rfl (SubM.nil) (SubL.nil) (Y.subW rfl rfl) (HistOk.h (SubM.nil) (SubL.nil) (HistOk.h (SubM.nil) (SubL.nil) HistOk.z)) ?_
      replace h := bnd h; obtain ⟨r29, hr30, h⟩ := h
      refine JR.loud rfl rfl rfl (Loud.callL body52 (t_world_at fuel v1 r29 hr30) rfl (LentAll.cons (Lent.fact 1 rfl) (LentAll.nil)) (fun _ _ => rfl)) rfl (fun x31 => (BsOk.b rfl (BsOk.b rfl (BsOk.b rfl (BsOk.b rfl (BsOk.h (SubM.nil) (SubL.nil) (BsOk.b rfl (BsOk.b rfl (BsOk.b rfl (BsOk.b rfl (BsOk.b rfl (BsOk.h (SubM.cons 0 rfl (SubM.nil)) (SubL.nil) (BsOk.h (SubM.cons 5 rfl (SubM.nil)) (SubL.nil) BsOk.z))))))))))))) fun x31 => ?_
      replace h := bnd h; obtain ⟨r32, hr33, h⟩ := h
      refine JR.loud rfl rfl rfl (Loud.callL body14 (t_world_Within fuel  r32 hr33) rfl (LentAll.nil) (fun _ _ => rfl)) rfl (fun x34 => (BsOk.b rfl (BsOk.b rfl (BsOk.b rfl (BsOk.b rfl (BsOk.h (SubM.nil) (SubL.nil) (BsOk.b rfl (BsOk.b rfl (BsOk.b rfl (BsOk.b rfl (BsOk.b rfl (BsOk.h (SubM.cons 0 rfl (SubM.nil)) (SubL.nil) (BsOk.h (SubM.cons 5 rfl (SubM.nil)) (SubL.nil) BsOk.z))))))))))))) fun x34 => ?_
      refine JR.qt rfl (SubM.nil) (SubL.nil) (Y.addW rfl rfl) (HistOk.b rfl (HistOk.b rfl (HistOk.b rfl (HistOk.b rfl HistOk.z)))) ?_
      refine JR.tailD 17 rfl rfl ?_
      replace h := bnd h; obtain ⟨r35, hr36, h⟩ := h
      refine J.loud (Loud.callM (Min := [Ar Enc.raw x5.2.1 b20, Rws EI64I64p b20 a19.2]) (Mr := [Blk b6 [x5.1, x5.2.1] 29, Ar EI64 x5.1 r3.1, Blk b2 [Value.slice none 0 0, Value.slice none 0 0] 29, Blk b1 [Value.int .i64 (p0.1), v0, v1, v2, Value.bool (p0.2.2.2.2.1), Value.bool (p0.2.2.2.2.2)] 24]) body51 (t__world_Net__link fuel v0 v1 v2 x5.1 x5.2.1 b20 r35 hr36) rfl (SubM.cons 2 rfl (SubM.cons 2 rfl (SubM.cons 0 rfl (SubM.cons 0 rfl (SubM.cons 0 rfl (SubM.cons 0 rfl (SubM.nil))))))) (LentAll.cons (Lent.fact 0 rfl) (LentAll.cons (Lent.fact 1 rfl) (LentAll.cons (Lent.fact 2 rfl) (LentAll.cons (Lent.ar (Lent.res 1 rfl) FI64) (LentAll.nil))))) (fun _ _ => rfl)) rfl fun x37 => ?_
      refine J.done ?_
      refine J.inN ?_
      refine J.thenN ?_
      refine J.region ?_
      refine J.quiet (Y.move rfl) rfl ?_
      refine J.quiet (Y.addW rfl rfl) rfl ?_
      refine J.quiet (Y.assign rfl) rfl ?_
      refine J.done ?_
      refine J.thenN ?_
      exact J.againI ((wI .i64 (a19.1 + (1 : Int))), r35) (x37) h (by repeat (first | exact SubF.nil | refine SubF.cons rfl ?_)) (SubM.cons 2 rfl (SubM.cons 2 rfl (SubM.cons 0 rfl (SubM.cons 0 rfl (SubM.cons 0 rfl (SubM.cons 0 rfl (SubM.nil))))))) (LentAll.refl _ _)
    · replace h := ifN hp22 h
      refine J.exit ?_
      refine J.thenX ?_
      refine J.thenX ?_
      refine J.inX ?_
      refine J.thenN ?_
      exact J.meetI (a19.2) (b20) h (by repeat (first | exact SubF.nil | refine SubF.cons rfl ?_)) (SubM.cons 0 rfl (SubM.cons 0 rfl (SubM.cons 0 rfl (SubM.cons 0 rfl (SubM.cons 0 rfl (SubM.nil)))))) (LentAll.refl _ _)
  · clear h
    intro a11 b12 h
    unfold _world_Net__Tree_k1 at h
    refine J.seq ?_
    refine J.region ?_
    refine J.quiet (Y.loadBAll 0 rfl rfl rfl rfl) rfl ?_
    refine J.know (Know.one ((Lent.ar (Lent.res 1 rfl) FI64))) fun ho13 => ?_
    refine J.know (Know.one (Lent.sl (Lent.rows (i := 2) (j := 3) rfl rfl FI64I64p))) fun ho14 => ?_
    refine J.storeAll 4 (vs := [x5.1, x5.2.1]) rfl rfl (all1 ho13 (all1 ho14 rfl)) rfl rfl rfl ?_
    refine J.done ?_
    refine J.thenN ?_
    refine J.ret ?_
    obtain rfl := Option.some.inj h
    exact J.retG1 (x5.1, x5.2.1, b12) rfl rfl (RV.cell 4 rfl rfl rfl rfl) (SubM.cons 1 rfl (SubM.cons 1 rfl (SubM.cons 1 rfl (SubM.nil)))) LentAll.nil

end Go.Proofs.Ytmajgimhmfeliaa
end
section
set_option linter.unusedVariables false
set_option linter.unusedSimpArgs false
namespace Go.Proofs.Ytmajgimhmfeliaa
open Go.Sx
set_option linter.unusedVariables false
set_option linter.unusedSimpArgs false
def law39_known_k1  (a20 : Bool) : Option (Bool) :=
  some (a20)
def m_law39_known (fuel : Nat)  : Option (Bool) :=
  Option.bind (m__world_Net__Tree fuel (((3 : Int), ([ (0 : Int), (1 : Int)]), ([] : List Int), ([ (0 : Int), (1 : Int), (2 : Int)]), false, false)) (3 : Int)) fun r5 => (Option.bind (m_labels_Prove fuel (1 : Int) ((r5.1, r5.2)) ([ (0 : Int), (-1 : Int), (0 : Int)])) fun r12 => (Option.bind (m_labels_Prove fuel (4 : Int) ((r5.1, r5.2)) ([ (0 : Int), (0 : Int), (-1 : Int)])) fun r16 => (if r12.2 = (0 : Int) then (if r16.2 = (0 : Int) then (Option.bind (m_law39_same fuel r12.1 ([ ((1 : Int), (1 : Int)), ((1 : Int), (0 : Int)), ((1 : Int), (1 : Int))])) fun r25 => (if r25 = true then (Option.bind (m_law39_same fuel r16.1 ([ ((0 : Int), (0 : Int)), ((1 : Int), (0 : Int)), ((0 : Int), (0 : Int))])) fun r30 => (law39_known_k1  (r30))) else (law39_known_k1  (false)))) else (law39_known_k1  (false))) else (law39_known_k1  (false)))))

theorem body13 : HasBody Try.prog 13 := Try.call13

set_option maxHeartbeats 4000000 in
set_option maxRecDepth 20000 in
theorem t_law39_known (fuel : Nat)  (r : Bool) (h : m_law39_known fuel  = some r) :
    Meets Try.prog 13 #[] [] (fun x : Unit => Value.bool (r)) (fun x l => l) (fun _ l => l) := by
  refine Meets.of (vs := []) Try.func13 rfl Try.ntmps13 rfl fun c => ?_
  unfold m_law39_known at h
  refine J.seq ?_
  refine J.region ?_
  refine J.quiet (Y.assign rfl) rfl ?_
  refine J.done ?_
  refine J.thenN ?_
  refine J.seq ?_
  refine J.region ?_
  refine J.loud (Loud.buildS (e := EI64) ([(0 : Int), (1 : Int)]) [(0, Value.int .i64 (0 : Int)), (1, Value.int .i64 (1 : Int))] rfl rfl rfl rfl (fill_2_1 (Value.int .i64 (0 : Int)) (Value.int .i64 (1 : Int)) rfl rfl) rfl rfl rfl) rfl fun u1 => ?_
  refine J.loud (Loud.buildS (e := EI64) ([(0 : Int), (1 : Int), (2 : Int)]) [(0, Value.int .i64 (0 : Int)), (1, Value.int .i64 (1 : Int)), (2, Value.int .i64 (2 : Int))] rfl rfl rfl rfl (fill_3_1 (Value.int .i64 (0 : Int)) (Value.int .i64 (1 : Int)) (Value.int .i64 (2 : Int)) rfl rfl rfl) rfl rfl rfl) rfl fun u2 => ?_
  refine J.know (Know.one ((Lent.ar (Lent.res 1 rfl) FI64))) fun ho3 => ?_
  refine J.know (Know.one ((Lent.ar (Lent.res 0 rfl) FI64))) fun ho4 => ?_
  refine J.quiet (Y.bld3 (r := Value.agg #[Value.int .i64 (3 : Int), u1, Value.slice none 0 0, u2, Value.bool (false), Value.bool (false)]) rfl rfl rfl (by intro w; simp [Instr.build, Instr.fill, cells_intV, cells_boolV, cells_sliceV, cells_ptrV, cells_strV, cells_funcV, cells_agg, one_cells ho3, one_cells ho4])) rfl ?_
  replace h := bnd h; obtain ⟨r5, hr6, h⟩ := h
  refine J.loud (Loud.callL body27 (t__world_Net__Tree fuel u1 (Value.slice none 0 0) u2 r5 hr6) rfl (LentAll.cons (Lent.ar (Lent.res 1 rfl) FI64) (LentAll.cons Lent.nil (LentAll.cons (Lent.ar (Lent.res 0 rfl) FI64) (LentAll.nil)))) (fun _ _ => rfl)) rfl fun x7 => ?_
  refine J.loud (Loud.alloc (cs := [Value.slice none 0 0, Value.slice none 0 0]) rfl rfl) rfl fun b8 => ?_
  refine J.know (Know.one ((Lent.ar (Lent.res 1 rfl) FI64))) fun ho9 => ?_
  refine J.know (Know.one (Lent.sl (Lent.rows (i := 2) (j := 3) rfl rfl FI64I64p))) fun ho10 => ?_
  refine J.storeAll 0 (vs := [x7.1, x7.2.1]) rfl rfl (all1 ho9 (all1 ho10 rfl)) rfl rfl rfl ?_
  refine J.done ?_
  refine J.thenN ?_
  refine J.seq ?_
  refine J.region ?_
  refine J.quiet (Y.loadBAll 0 rfl rfl rfl rfl) rfl ?_
  refine J.loud (Loud.buildS (e := EI64) ([(0 : Int), (-1 : Int), (0 : Int)]) [(0, Value.int .i64 (0 : Int)), (1, Value.int .i64 (-1 : Int)), (2, Value.int .i64 (0 : Int))] rfl rfl rfl rfl (fill_3_1 (Value.int .i64 (0 : Int)) (Value.int .i64 (-1 : Int)) (Value.int .i64 (0 : Int)) rfl rfl rfl) rfl rfl rfl) rfl fun u11 => ?_
  replace h := bnd h; obtain ⟨r12, hr13, h⟩ := h
  refine J.loud (Loud.callL body12 (t_labels_Prove fuel x7.1 x7.2.1 (List.zip x7.2.2 r5.2) u11 r12 hr13) rfl (LentAll.cons (Lent.ar (Lent.res 2 rfl) FI64) (LentAll.cons (Lent.rows (i := 3) (j := 4) rfl rfl FI64I64p) (LentAll.cons (Lent.ar (Lent.res 0 rfl) FI64) (LentAll.nil)))) (fun _ _ => rfl)) rfl fun x14 => ?_
  refine J.quiet (Y.move rfl) rfl ?_
  refine J.quiet (Y.extract rfl rfl) rfl ?_
  refine J.quiet (Y.extract rfl rfl) rfl ?_
  refine J.quiet (Y.assign rfl) rfl ?_
  refine J.quiet (Y.assign rfl) rfl ?_
  refine J.done ?_
  refine J.thenN ?_
  refine J.seq ?_
  refine J.region ?_
  refine J.quiet (Y.loadBAll 2 rfl rfl rfl rfl) rfl ?_
  refine J.loud (Loud.buildS (e := EI64) ([(0 : Int), (0 : Int), (-1 : Int)]) [(0, Value.int .i64 (0 : Int)), (1, Value.int .i64 (0 : Int)), (2, Value.int .i64 (-1 : Int))] rfl rfl rfl rfl (fill_3_1 (Value.int .i64 (0 : Int)) (Value.int .i64 (0 : Int)) (Value.int .i64 (-1 : Int)) rfl rfl rfl) rfl rfl rfl) rfl fun u15 => ?_
  replace h := bnd h; obtain ⟨r16, hr17, h⟩ := h
  refine J.loud (Loud.callL body12 (t_labels_Prove fuel x7.1 x7.2.1 (List.zip x7.2.2 r5.2) u15 r16 hr17) rfl (LentAll.cons (Lent.ar (Lent.res 4 rfl) FI64) (LentAll.cons (Lent.rows (i := 5) (j := 6) rfl rfl FI64I64p) (LentAll.cons (Lent.ar (Lent.res 0 rfl) FI64) (LentAll.nil)))) (fun _ _ => rfl)) rfl fun x18 => ?_
  refine J.quiet (Y.move rfl) rfl ?_
  refine J.quiet (Y.extract rfl rfl) rfl ?_
  refine J.quiet (Y.extract rfl rfl) rfl ?_
  refine J.quiet (Y.assign rfl) rfl ?_
  refine J.quiet (Y.assign rfl) rfl ?_
  refine J.done ?_
  refine J.thenN ?_
  refine J.seq ?_
  refine J.midI (A := Bool) (B := Unit) (fun a20 => law39_known_k1  a20 = some r) (fun a20 b21 => [(0, Value.bool (a20))]) (fun a20 b21 => []) (fun a20 b21 => []) ?_ ?_
  · refine J.region ?_
    refine J.quiet (Y.move rfl) rfl ?_
    refine J.quiet (Y.eql rfl rfl) rfl ?_
    refine J.quiet (Y.move rfl) rfl ?_
    refine J.guardD (by exact rfl) (by exact rfl) (fun hp22 => ?_) (fun hp22 => ?_)
    · replace h := ifP hp22 h
      refine J.guardY rfl (Y.move rfl) rfl ?_
      refine J.guardY rfl (Y.eql rfl rfl) rfl ?_
      refine J.quiet (Y.pickT rfl rfl) rfl ?_
      refine J.quiet (Y.move rfl) rfl ?_
      refine J.guardD (by exact rfl) (by exact rfl) (fun hp23 => ?_) (fun hp23 => ?_)
      · replace h := ifP hp23 h
        refine J.guardY rfl (Y.move rfl) rfl ?_
        refine J.guardY rfl (Y.bld2 (r := Value.agg #[Value.int .i64 (1 : Int), Value.int .i64 (1 : Int)]) rfl rfl (by intro w; simp [Instr.build, Instr.fill, cells_intV, cells_boolV, cells_sliceV, cells_ptrV, cells_strV, cells_funcV, cells_agg])) rfl ?_
        refine J.guardY rfl (Y.bld2 (r := Value.agg #[Value.int .i64 (1 : Int), Value.int .i64 (0 : Int)]) rfl rfl (by intro w; simp [Instr.build, Instr.fill, cells_intV, cells_boolV, cells_sliceV, cells_ptrV, cells_strV, cells_funcV, cells_agg])) rfl ?_
        refine J.guardY rfl (Y.bld2 (r := Value.agg #[Value.int .i64 (1 : Int), Value.int .i64 (1 : Int)]) rfl rfl (by intro w; simp [Instr.build, Instr.fill, cells_intV, cells_boolV, cells_sliceV, cells_ptrV, cells_strV, cells_funcV, cells_agg])) rfl ?_
        refine J.loudG rfl (Loud.buildS (e := EI64I64p) ([(((1 : Int), (1 : Int))), (((1 : Int), (0 : Int))), (((1 : Int), (1 : Int)))]) [(0, Value.agg #[Value.int .i64 (1 : Int), Value.int .i64 (1 : Int)]), (1, Value.agg #[Value.int .i64 (1 : Int), Value.int .i64 (0 : Int)]), (2, Value.agg #[Value.int .i64 (1 : Int), Value.int .i64 (1 : Int)])] rfl rfl rfl rfl (fill_3_2 (Value.int .i64 (1 : Int)) (Value.int .i64 (1 : Int)) (Value.int .i64 (1 : Int)) (Value.int .i64 (0 : Int)) (Value.int .i64 (1 : Int)) (Value.int .i64 (1 : Int))) rfl rfl rfl) rfl fun u24 => ?_
        replace h := bnd h; obtain ⟨r25, hr26, h⟩ := h
        refine J.loudG rfl (Loud.callL body21 (t_law39_same fuel x14 u24 r25 hr26) rfl (LentAll.cons (Lent.ar (Lent.res 3 rfl) FI64I64p) (LentAll.cons (Lent.ar (Lent.res 0 rfl) FI64I64p) (LentAll.nil))) (fun _ _ => rfl)) rfl fun x27 => ?_
        refine J.quiet (Y.pickT rfl rfl) rfl ?_
        refine J.quiet (Y.move rfl) rfl ?_
        refine J.guard (by exact rfl) (by exact rfl) (fun hp28 => ?_) (fun hp28 => ?_)
        · replace h := ifP hp28 h
          refine J.guardY rfl (Y.move rfl) rfl ?_
          refine J.guardY rfl (Y.bld2 (r := Value.agg #[Value.int .i64 (0 : Int), Value.int .i64 (0 : Int)]) rfl rfl (by intro w; simp [Instr.build, Instr.fill, cells_intV, cells_boolV, cells_sliceV, cells_ptrV, cells_strV, cells_funcV, cells_agg])) rfl ?_
          refine J.guardY rfl (Y.bld2 (r := Value.agg #[Value.int .i64 (1 : Int), Value.int .i64 (0 : Int)]) rfl rfl (by intro w; simp [Instr.build, Instr.fill, cells_intV, cells_boolV, cells_sliceV, cells_ptrV, cells_strV, cells_funcV, cells_agg])) rfl ?_
          refine J.guardY rfl (Y.bld2 (r := Value.agg #[Value.int .i64 (0 : Int), Value.int .i64 (0 : Int)]) rfl rfl (by intro w; simp [Instr.build, Instr.fill, cells_intV, cells_boolV, cells_sliceV, cells_ptrV, cells_strV, cells_funcV, cells_agg])) rfl ?_
          refine J.loudG rfl (Loud.buildS (e := EI64I64p) ([(((0 : Int), (0 : Int))), (((1 : Int), (0 : Int))), (((0 : Int), (0 : Int)))]) [(0, Value.agg #[Value.int .i64 (0 : Int), Value.int .i64 (0 : Int)]), (1, Value.agg #[Value.int .i64 (1 : Int), Value.int .i64 (0 : Int)]), (2, Value.agg #[Value.int .i64 (0 : Int), Value.int .i64 (0 : Int)])] rfl rfl rfl rfl (fill_3_2 (Value.int .i64 (0 : Int)) (Value.int .i64 (0 : Int)) (Value.int .i64 (1 : Int)) (Value.int .i64 (0 : Int)) (Value.int .i64 (0 : Int)) (Value.int .i64 (0 : Int))) rfl rfl rfl) rfl fun u29 => ?_
          replace h := bnd h; obtain ⟨r30, hr31, h⟩ := h
          refine J.loudG rfl (Loud.callL body21 (t_law39_same fuel x18 u29 r30 hr31) rfl (LentAll.cons (Lent.ar (Lent.res 2 rfl) FI64I64p) (LentAll.cons (Lent.ar (Lent.res 0 rfl) FI64I64p) (LentAll.nil))) (fun _ _ => rfl)) rfl fun x32 => ?_
          refine J.quiet (Y.pickT rfl rfl) rfl ?_
          refine J.quiet (Y.assign rfl) rfl ?_
          refine J.done ?_
          refine J.thenN ?_
          exact J.meetI (r30) (()) h (by repeat (first | exact SubF.nil | refine SubF.cons rfl ?_)) (SubM.nil) (LentAll.refl _ _)
        · replace h := ifBN hp28 h
          refine J.guardN rfl rfl rfl ?_
          refine J.guardN rfl rfl rfl ?_
          refine J.guardN rfl rfl rfl ?_
          refine J.guardN rfl rfl rfl ?_
          refine J.guardN rfl rfl rfl ?_
          refine J.guardN rfl rfl rfl ?_
          refine J.quiet (Y.pickF rfl rfl) rfl ?_
          refine J.quiet (Y.assign rfl) rfl ?_
          refine J.done ?_
          refine J.thenN ?_
          exact J.meetI (false) (()) h (by repeat (first | exact SubF.nil | refine SubF.cons rfl ?_)) (SubM.nil) (LentAll.refl _ _)
      · replace h := ifN hp23 h
        refine J.guardN rfl rfl rfl ?_
        refine J.guardN rfl rfl rfl ?_
        refine J.guardN rfl rfl rfl ?_
        refine J.guardN rfl rfl rfl ?_
        refine J.guardN rfl rfl rfl ?_
        refine J.guardN rfl rfl rfl ?_
        refine J.quiet (Y.pickF rfl rfl) rfl ?_
        refine J.quiet (Y.move rfl) rfl ?_
        refine J.guardN rfl rfl rfl ?_
        refine J.guardN rfl rfl rfl ?_
        refine J.guardN rfl rfl rfl ?_
        refine J.guardN rfl rfl rfl ?_
        refine J.guardN rfl rfl rfl ?_
        refine J.guardN rfl rfl rfl ?_
        refine J.quiet (Y.pickF rfl rfl) rfl ?_
        refine J.quiet (Y.assign rfl) rfl ?_
        refine J.done ?_
        refine J.thenN ?_
        exact J.meetI (false) (()) h (by repeat (first | exact SubF.nil | refine SubF.cons rfl ?_)) (SubM.nil) (LentAll.refl _ _)
    · replace h := ifN hp22 h
      refine J.guardN rfl rfl rfl ?_
      refine J.guardN rfl rfl rfl ?_
      refine J.quiet (Y.pickF rfl rfl) rfl ?_
      refine J.quiet (Y.move rfl) rfl ?_
      refine J.guardN rfl rfl rfl ?_
      refine J.guardN rfl rfl rfl ?_
      refine J.guardN rfl rfl rfl ?_
      refine J.guardN rfl rfl rfl ?_
      refine J.guardN rfl rfl rfl ?_
      refine J.guardN rfl rfl rfl ?_
      refine J.quiet (Y.pickF rfl rfl) rfl ?_
      refine J.quiet (Y.move rfl) rfl ?_
      refine J.guardN rfl rfl rfl ?_
      refine J.guardN rfl rfl rfl ?_
      refine J.guardN rfl rfl rfl ?_
      refine J.guardN rfl rfl rfl ?_
      refine J.guardN rfl rfl rfl ?_
      refine J.guardN rfl rfl rfl ?_
      refine J.quiet (Y.pickF rfl rfl) rfl ?_
      refine J.quiet (Y.assign rfl) rfl ?_
      refine J.done ?_
      refine J.thenN ?_
      exact J.meetI (false) (()) h (by repeat (first | exact SubF.nil | refine SubF.cons rfl ?_)) (SubM.nil) (LentAll.refl _ _)
  · clear h
    intro a20 b21 h
    unfold law39_known_k1 at h
    refine J.ret ?_
    obtain rfl := Option.some.inj h
    exact J.retG1 (()) rfl rfl (RV.tmp rfl) (SubM.refl _) LentAll.nil

end Go.Proofs.Ytmajgimhmfeliaa
end
section
set_option linter.unusedVariables false
set_option linter.unusedSimpArgs false
namespace Go.Proofs.Ytmajgimhmfeliaa
open Go.Sx
theorem known_eq : m_law39_known 1000 = some true := by kernel_rfl

end Go.Proofs.Ytmajgimhmfeliaa
end
section
set_option linter.unusedVariables false
set_option linter.unusedSimpArgs false
namespace Go.Proofs.Ytmajgimhmfeliaa
open Go.Sx
set_option linter.unusedVariables false
set_option linter.unusedSimpArgs false
def _world_Net__more_k1 (p1 : List (Int) × (List (List (Int × Int)))) (a6 : (List (List (Int × Int)))) : Option ((List (Int) × (List (List (Int × Int))))) :=
  some ((p1.1, a6))
def _world_Net__more_k2 (fuel : Nat) (p0 : Int × List (Int) × List (Int) × List (Int) × Bool × Bool) (p1 : List (Int) × (List (List (Int × Int)))) (a14 : Int × (List (List (Int × Int)))) (ag13 : (Int × (List (List (Int × Int)))) → Option ((List (Int) × (List (List (Int × Int)))))) (a18 : Bool) : Option ((List (Int) × (List (List (Int × Int))))) :=
  if a18 = true then (ck (0 ≤ a14.1 ∧ a14.1 < (List.length p0.2.1 : Int)) (Option.bind (m_world_Within fuel (at' p0.2.1 a14.1) (List.length p1.2 : Int)) fun r22 => (ck (0 ≤ (wI .i64 (a14.1 + (1 : Int))) ∧ (wI .i64 (a14.1 + (1 : Int))) < (List.length p0.2.1 : Int)) (Option.bind (m_world_Within fuel (at' p0.2.1 (wI .i64 (a14.1 + (1 : Int)))) (List.length p1.2 : Int)) fun r26 => (Option.bind (m_world_at fuel p0.2.2.1 a14.1) fun r29 => (Option.bind (m_world_Within fuel r29 (15 : Int)) fun r32 => (Option.bind (m__world_Net__link fuel ((p0.1, p0.2.1, p0.2.2.1, p0.2.2.2.1, p0.2.2.2.2.1, p0.2.2.2.2.2)) ((p1.1, a14.2)) r22 r26 (wI .i64 ((1 : Int) + r32))) fun r35 => (ag13 ((wI .i64 (a14.1 + (2 : Int))), r35))))))))) else (_world_Net__more_k1 p1 (a14.2))
def _world_Net__more_s1 (fuel : Nat) (p0 : Int × List (Int) × List (Int) × List (Int) × Bool × Bool) (p1 : List (Int) × (List (List (Int × Int)))) (a14 : Int × (List (List (Int × Int)))) (ag13 : (Int × (List (List (Int × Int)))) → Option ((List (Int) × (List (List (Int × Int)))))) : Option ((List (Int) × (List (List (Int × Int))))) :=
  if (wI .i64 (a14.1 + (1 : Int))) < (List.length p0.2.1 : Int) then (_world_Net__more_k2 fuel p0 p1 a14 ag13 (decide (a14.1 < (60 : Int)))) else (_world_Net__more_k2 fuel p0 p1 a14 ag13 (false))
def m__world_Net__more (fuel : Nat) (p0 : Int × List (Int) × List (Int) × List (Int) × Bool × Bool) (p1 : List (Int) × (List (List (Int × Int)))) : Option ((List (Int) × (List (List (Int × Int))))) :=
  iter (_world_Net__more_s1 fuel p0 p1) fuel ((List.length p1.2 : Int), p1.2)

theorem body28 : HasBody Try.prog 28 := Try.call28

set_option maxHeartbeats 4000000 in
set_option maxRecDepth 20000 in
theorem t__world_Net__more (fuel : Nat) {p0 : Int × List (Int) × List (Int) × List (Int) × Bool × Bool} {p1 : List (Int) × (List (List (Int × Int)))} (v0 : Value)  (v1 : Value)  (v2 : Value)  (v3 : Value)  (v4 : Value)  (w5 : List Value) (r : (List (Int) × (List (List (Int × Int))))) (h : m__world_Net__more fuel p0 p1 = some r) :
    MeetsM Try.prog 28 #[Value.agg #[Value.int .i64 (p0.1), v0, v1, v2, Value.bool (p0.2.2.2.2.1), Value.bool (p0.2.2.2.2.2)], Value.agg #[v3, v4]] [Ar EI64 v3 p1.1, Ar Enc.raw v4 w5, Rws EI64I64p w5 p1.2] [Sl RI64 v0 p0.2.1, Sl RI64 v1 p0.2.2.1, Sl RI64 v2 p0.2.2.2.1] (fun x : Value × Value × List Value => Value.agg #[x.1, x.2.1]) (fun x l => Ar EI64 x.1 r.1 :: Ar Enc.raw x.2.1 x.2.2 :: Rws EI64I64p x.2.2 r.2 :: l) := by
  refine MeetsM.of (vs := [Value.agg #[Value.int .i64 (p0.1), v0, v1, v2, Value.bool (p0.2.2.2.2.1), Value.bool (p0.2.2.2.2.2)], Value.agg #[v3, v4]]) Try.func28 rfl Try.ntmps28 rfl fun c => ?_
  unfold m__world_Net__more at h
  refine J.seq ?_
  refine J.region ?_
  refine J.loud (Loud.box (cs := [Value.int .i64 (p0.1), v0, v1, v2, Value.bool (p0.2.2.2.2.1), Value.bool (p0.2.2.2.2.2)]) rfl rfl) rfl fun b1 => ?_
  refine J.loud (Loud.box (cs := [v3, v4]) rfl rfl) rfl fun b2 => ?_
  refine J.loud (Loud.alloc (cs := [Value.slice none 0 0, Value.slice none 0 0]) rfl rfl) rfl fun b3 => ?_
  refine J.done ?_
  refine J.thenN ?_
  refine J.seq ?_
  refine J.region ?_
  refine J.quiet (Y.fieldB rfl rfl rfl rfl rfl) rfl ?_
  refine J.quiet (Y.loadB 1 rfl rfl rfl rfl rfl) rfl ?_
  refine J.quiet (Y.lenN rfl (Lent.rows (i := 4) (j := 5) rfl rfl FI64I64p) rfl) rfl ?_
  refine J.quiet (Y.assign rfl) rfl ?_
  refine J.done ?_
  refine J.thenN ?_
  refine J.seq ?_
  refine J.midI (A := (List (List (Int × Int)))) (B := List Value) (fun a6 => _world_Net__more_k1 p1 a6 = some r) (fun a6 b7 => [(3, Value.pointer (some ⟨b2, 0, none⟩)), (4, Value.pointer (some ⟨b3, 0, none⟩))]) (fun a6 b7 => [Blk b3 [Value.slice none 0 0, Value.slice none 0 0] 29, Blk b2 [v3, v4] 29, Ar EI64 v3 p1.1, Ar Enc.raw v4 b7, Rws EI64I64p b7 a6]) (fun a6 b7 => [Sl RI64 v0 p0.2.1, Sl RI64 v1 p0.2.2.1, Sl RI64 v2 p0.2.2.2.1]) ?_ ?_
  · refine J.seq ?_
    refine J.region ?_
    refine J.quiet (Y.move rfl) rfl ?_
    refine J.quiet (Y.assign rfl) rfl ?_
    refine J.done ?_
    refine J.thenN ?_
    refine J.block ?_
    refine J.loopI (A := Int × (List (List (Int × Int)))) (B := List Value) (_world_Net__more_s1 fuel p0 p1) (fun a14 b15 => [(2, Value.pointer (some ⟨b1, 0, none⟩)), (3, Value.pointer (some ⟨b2, 0, none⟩)), (4, Value.pointer (some ⟨b3, 0, none⟩)), (5, Value.int .i64 (List.length p1.2 : Int)), (6, Value.int .i64 (a14.1))]) (fun a14 b15 => [Blk b3 [Value.slice none 0 0, Value.slice none 0 0] 29, Blk b2 [v3, v4] 29, Blk b1 [Value.int .i64 (p0.1), v0, v1, v2, Value.bool (p0.2.2.2.2.1), Value.bool (p0.2.2.2.2.2)] 24, Ar EI64 v3 p1.1, Ar Enc.raw v4 b15, Rws EI64I64p b15 a14.2]) (fun a14 b15 => [Sl RI64 v0 p0.2.1, Sl RI64 v1 p0.2.2.1, Sl RI64 v2 p0.2.2.2.1]) ((List.length p1.2 : Int), p1.2) (w5) h (by repeat (first | exact SubF.nil | refine SubF.cons rfl ?_)) (SubM.refl _) (LentAll.refl _ _) ?_
    clear h
    intro k16 a14 b15 h
    unfold _world_Net__more_s1 at h
    refine J.seq ?_
    refine J.seq ?_
    refine J.midI (A := Bool) (B := Unit) (fun a18 => _world_Net__more_k2 fuel p0 p1 a14 (iter (_world_Net__more_s1 fuel p0 p1) k16) a18 = some r) (fun a18 b19 => [(2, Value.pointer (some ⟨b1, 0, none⟩)), (3, Value.pointer (some ⟨b2, 0, none⟩)), (4, Value.pointer (some ⟨b3, 0, none⟩)), (5, Value.int .i64 (List.length p1.2 : Int)), (6, Value.int .i64 (a14.1)), (20, Value.bool (a18))]) (fun a18 b19 => [Blk b3 [Value.slice none 0 0, Value.slice none 0 0] 29, Blk b2 [v3, v4] 29, Blk b1 [Value.int .i64 (p0.1), v0, v1, v2, Value.bool (p0.2.2.2.2.1), Value.bool (p0.2.2.2.2.2)] 24, Ar EI64 v3 p1.1, Ar Enc.raw v4 b15, Rws EI64I64p b15 a14.2]) (fun a18 b19 => [Sl RI64 v0 p0.2.1, Sl RI64 v1 p0.2.2.1, Sl RI64 v2 p0.2.2.2.1]) ?_ ?_
    · refine J.region ?_
      refine J.quiet (Y.move rfl) rfl ?_
      refine J.quiet (Y.addW rfl rfl) rfl ?_
      refine J.quiet (Y.fieldB rfl rfl rfl rfl rfl) rfl ?_
      refine J.quiet (Y.loadB 2 rfl rfl rfl rfl rfl) rfl ?_
      refine J.quiet (Y.lenS rfl (Lent.fact 0 rfl) rfl) rfl ?_
      refine J.quiet (Y.lss rfl rfl) rfl ?_
      refine J.quiet (Y.move rfl) rfl ?_
      refine J.guardD (by exact rfl) (by exact rfl) (fun hp38 => ?_) (fun hp38 => ?_)
      · replace h := ifP hp38 h
        refine J.guardY rfl (Y.move rfl) rfl ?_
        refine J.guardY rfl (Y.lss rfl rfl) rfl ?_
        refine J.quiet (Y.pickT rfl rfl) rfl ?_
        refine J.done ?_
        refine J.thenN ?_
        exact J.meetI (decide (a14.1 < (60 : Int))) (()) h (by repeat (first | exact SubF.nil | refine SubF.cons rfl ?_)) (SubM.refl _) (LentAll.refl _ _)
      · replace h := ifN hp38 h
        refine J.guardN rfl rfl rfl ?_
        refine J.guardN rfl rfl rfl ?_
        refine J.quiet (Y.pickF rfl rfl) rfl ?_
        refine J.done ?_
        refine J.thenN ?_
        exact J.meetI (false) (()) h (by repeat (first | exact SubF.nil | refine SubF.cons rfl ?_)) (SubM.refl _) (LentAll.refl _ _)
    · clear h
      intro a18 b19 h
      unfold _world_Net__more_k2 at h
      refine J.cond (by exact rfl) (fun hp20 => ?_) (fun hp20 => ?_)
      · replace h := ifP hp20 h
        refine J.skip ?_
        refine J.thenN ?_
        refine J.seq ?_
        refine J.block ?_
        refine JR.start [0, 0, 0, 4, 0, 28, 60, 0, 252, 0, 512, 0, 2048, 7680, 15872, 0, 65532, 0, 131072, 0, 1048572, 2097148, 4194300, 8388607] 23 mixedOrders (by decide +kernel) ?_
        refine JR.open (by exact rfl) ?_
        refine JR.qt rfl (SubM.cons 2 rfl (SubM.nil)) (SubL.nil) (Y.loadBAll 0 rfl rfl rfl rfl) HistOk.z ?_
        refine JR.qt rfl (SubM.cons 1 rfl (SubM.nil)) (SubL.nil) (Y.loadBAll 0 rfl rfl rfl rfl) HistOk.z ?_
        refine JR.qt rfl (SubM.nil) (SubL.nil) (Y.fieldB rfl rfl rfl rfl rfl) HistOk.z ?_
        refine JR.qt rfl (SubM.cons 2 rfl (SubM.nil)) (SubL.nil) (Y.loadB 0 rfl rfl rfl rfl rfl) HistOk.z ?_
        refine JR.qt rfl (SubM.nil) (SubL.nil) (Y.move rfl) HistOk.z ?_
        replace h := ck_some h; obtain ⟨hc21, h⟩ := h
        refine JR.qt rfl (SubM.nil) (SubL.cons (List.mem_of_getElem? (i := 0) rfl) (SubL.nil)) (Y.indexS rfl rfl (Lent.fact 0 rfl) rfl rfl hc21) HistOk.z ?_
        refine JR.qt rfl (SubM.nil) (SubL.cons (List.mem_of_getElem? (i := 0) rfl) (SubL.nil)) (Y.loadS0 rfl (Lent.fact 0 rfl) rfl rfl rfl RI64c0 hc21) HistOk.z ?_
        refine JR.qt rfl (SubM.nil) (SubL.nil) (Y.move rfl) HistOk.z ?_
        replace h := bnd h; obtain ⟨r22, hr23, h⟩ := h
        refine JR.loud rfl rfl rfl (Loud.callL body14 (t_world_Within fuel  r22 hr23) rfl (LentAll.nil) (fun _ _ => rfl)) rfl (fun x24 => (BsOk.b rfl (BsOk.b rfl (BsOk.b rfl (BsOk.b rfl (BsOk.b rfl (BsOk.b rfl (BsOk.h (SubM.cons 1 rfl (SubM.nil)) (SubL.nil) (BsOk.h (SubM.cons 2 rfl (SubM.nil)) (SubL.nil) BsOk.z))))))))) fun x24 => ?_
        refine JR.qt rfl (SubM.nil) (SubL.nil) (Y.fieldB rfl rfl rfl rfl rfl) (HistOk.h (SubM.nil) (SubL.nil) HistOk.z) ?_
        refine JR.qt rfl (SubM.cons 2 rfl (SubM.nil)) (SubL.nil) (Y.loadB 0 rfl rfl rfl rfl rfl) (HistOk.h (SubM.cons 2 rfl (SubM.nil)) (SubL.nil) HistOk.z) ?_
        refine JR.qt rfl (SubM.nil) (SubL.nil) (Y.move rfl) (HistOk.h (SubM.nil) (SubL.nil) HistOk.z) ?_
        refine JR.qt rfl (SubM.nil) (SubL.nil) (Y.addW rfl rfl) (HistOk.h (SubM.nil) (SubL.nil) HistOk.z) ?_
        replace h := ck_some h; obtain ⟨hc25, h⟩ := h
        refine JR.qt rfl (SubM.nil) (SubL.cons (List.mem_of_getElem? (i := 0) rfl) (SubL.nil)) (Y.indexS rfl rfl (Lent.fact 0 rfl) rfl rfl hc25) (HistOk.h (SubM.nil) (SubL.cons (List.mem_of_getElem? (i := 0) rfl) (SubL.nil)) HistOk.z) ?_
        refine JR.qt rfl (SubM.nil) (SubL.cons (List.mem_of_getElem? (i := 0) rfl) (SubL.nil)) (Y.loadS0 rfl (Lent.fact 0 rfl) rfl rfl rfl RI64c0 hc25) (HistOk.h (SubM.nil) (SubL.cons (List.mem_of_getElem? (i := 0) rfl) (SubL.nil)) HistOk.z) ?_
        refine JR.qt rfl (SubM.nil) (SubL.nil) (Y.move rfl) (HistOk.h (SubM.nil) (SubL.nil) HistOk.z) ?_
        replace h := bnd h; obtain ⟨r26, hr27, h⟩ := h
        refine JR.loud rfl rfl rfl (Loud.callL body14 (t_world_Within fuel  r26 hr27) rfl (LentAll.nil) (fun _ _ => rfl)) rfl (fun x28 => (BsOk.b rfl (BsOk.b rfl (BsOk.b rfl (BsOk.b rfl (BsOk.b rfl (BsOk.b rfl (BsOk.b rfl (BsOk.b rfl (BsOk.b rfl (BsOk.b rfl (BsOk.b rfl (BsOk.b rfl (BsOk.b rfl (BsOk.h (SubM.cons 1 rfl (SubM.nil)) (SubL.nil) (BsOk.h (SubM.cons 2 rfl (SubM.nil)) (SubL.nil) BsOk.z)))))))))))))))) fun x28 => ?_
        refine JR.qt rfl (SubM.nil) (SubL.nil) (Y.fieldB rfl rfl rfl rfl rfl) (HistOk.h (SubM.nil) (SubL.nil) (HistOk.h (SubM.nil) (SubL.nil) HistOk.z)) ?_
        refine JR.qt rfl (SubM.cons 2 rfl (SubM.nil)) (SubL.nil) (Y.loadB 0 rfl rfl rfl rfl rfl) (HistOk.h (SubM.cons 2 rfl (SubM.nil)) (SubL.nil) (HistOk.h (SubM.cons 2 rfl (SubM.nil)) (SubL.nil) HistOk.z)) ?_
        refine JR.qt rfl (SubM.nil) (SubL.nil) (Y.move rfl) (HistOk.h (SubM.nil) (SubL.nil) (HistOk.h (SubM.nil) (SubL.nil) HistOk.z)) ?_
        replace h := bnd h; obtain ⟨r29, hr30, h⟩ := h
        refine JR.loud rfl rfl rfl (Loud.callL body52 (t_world_at fuel v1 r29 hr30) rfl (LentAll.cons (Lent.fact 1 rfl) (LentAll.nil)) (fun _ _ => rfl)) rfl (fun x31 => (BsOk.b rfl (BsOk.b rfl (BsOk.b rfl (BsOk.b rfl (BsOk.b rfl (BsOk.b rfl (BsOk.b rfl (BsOk.b rfl (BsOk.b rfl (BsOk.b rfl (BsOk.b rfl (BsOk.b rfl (BsOk.b rfl (BsOk.b rfl (BsOk.b rfl (BsOk.b rfl (BsOk.h (SubM.cons 1 rfl (SubM.nil)) (SubL.nil) (BsOk.h (SubM.cons 2 rfl (SubM.nil)) (SubL.nil) BsOk.z))))))))))))))))))) fun x31 => ?_
        replace h := bnd h; obtain ⟨r32, hr33, h⟩ := h
        refine JR.loud rfl rfl rfl (Loud.callL body14 (t_world_Within fuel  r32 hr33) rfl (LentAll.nil) (fun _ _ => rfl)) rfl (fun x34 => (BsOk.b rfl (BsOk.b rfl (BsOk.b rfl (BsOk.b rfl (BsOk.b rfl (BsOk.b rfl (BsOk.b rfl (BsOk.b rfl (BsOk.b rfl (BsOk.b rfl (BsOk.b rfl (BsOk.b rfl (BsOk.b rfl (BsOk.b rfl (BsOk.b rfl (BsOk.b rfl (BsOk.h (SubM.cons 1 rfl (SubM.nil)) (SubL.nil) (BsOk.h (SubM.cons 2 rfl (SubM.nil)) (SubL.nil) BsOk.z))))))))))))))))))) fun x34 => ?_
        refine JR.qt rfl (SubM.nil) (SubL.nil) (Y.addW rfl rfl) (HistOk.b rfl (HistOk.b rfl (HistOk.b rfl (HistOk.b rfl HistOk.z)))) ?_
        refine JR.tailD 23 rfl rfl ?_
        replace h := bnd h; obtain ⟨r35, hr36, h⟩ := h
        refine J.loud (Loud.callM (Min := [Ar Enc.raw v4 b15, Rws EI64I64p b15 a14.2]) (Mr := [Blk b3 [Value.slice none 0 0, Value.slice none 0 0] 29, Blk b2 [v3, v4] 29, Blk b1 [Value.int .i64 (p0.1), v0, v1, v2, Value.bool (p0.2.2.2.2.1), Value.bool (p0.2.2.2.2.2)] 24, Ar EI64 v3 p1.1]) body51 (t__world_Net__link fuel v0 v1 v2 v3 v4 b15 r35 hr36) rfl (SubM.cons 4 rfl (SubM.cons 4 rfl (SubM.cons 0 rfl (SubM.cons 0 rfl (SubM.cons 0 rfl (SubM.cons 0 rfl (SubM.nil))))))) (LentAll.cons (Lent.fact 0 rfl) (LentAll.cons (Lent.fact 1 rfl) (LentAll.cons (Lent.fact 2 rfl) (LentAll.cons (Lent.ar (Lent.res 3 rfl) FI64) (LentAll.nil))))) (fun _ _ => rfl)) rfl fun x37 => ?_
        refine J.done ?_
        refine J.inN ?_
        refine J.thenN ?_
        refine J.region ?_
        refine J.quiet (Y.move rfl) rfl ?_
        refine J.quiet (Y.addW rfl rfl) rfl ?_
        refine J.quiet (Y.assign rfl) rfl ?_
        refine J.done ?_
        refine J.thenN ?_
        exact J.againI ((wI .i64 (a14.1 + (2 : Int))), r35) (x37) h (by repeat (first | exact SubF.nil | refine SubF.cons rfl ?_)) (SubM.cons 2 rfl (SubM.cons 2 rfl (SubM.cons 2 rfl (SubM.cons 2 rfl (SubM.cons 0 rfl (SubM.cons 0 rfl (SubM.nil))))))) (LentAll.refl _ _)
      · replace h := ifBN hp20 h
        refine J.exit ?_
        refine J.thenX ?_
        refine J.thenX ?_
        refine J.inX ?_
        refine J.thenN ?_
        exact J.meetI (a14.2) (b15) h (by repeat (first | exact SubF.nil | refine SubF.cons rfl ?_)) (SubM.cons 0 rfl (SubM.cons 0 rfl (SubM.cons 1 rfl (SubM.cons 1 rfl (SubM.cons 1 rfl (SubM.nil)))))) (LentAll.refl _ _)
  · clear h
    intro a6 b7 h
    unfold _world_Net__more_k1 at h
    refine J.seq ?_
    refine J.region ?_
    refine J.quiet (Y.loadBAll 1 rfl rfl rfl rfl) rfl ?_
    refine J.know (Know.one ((Lent.ar (Lent.res 2 rfl) FI64))) fun ho8 => ?_
    refine J.know (Know.one (Lent.sl (Lent.rows (i := 3) (j := 4) rfl rfl FI64I64p))) fun ho9 => ?_
    refine J.storeAll 0 (vs := [v3, v4]) rfl rfl (all1 ho8 (all1 ho9 rfl)) rfl rfl rfl ?_
    refine J.done ?_
    refine J.thenN ?_
    refine J.ret ?_
    obtain rfl := Option.some.inj h
    exact J.retG1 (v3, v4, b7) rfl rfl (RV.cell 0 rfl rfl rfl rfl) (SubM.cons 2 rfl (SubM.cons 2 rfl (SubM.cons 2 rfl (SubM.nil)))) LentAll.nil

end Go.Proofs.Ytmajgimhmfeliaa
end
section
set_option linter.unusedVariables false
set_option linter.unusedSimpArgs false
namespace Go.Proofs.Ytmajgimhmfeliaa
open Go.Sx
set_option linter.unusedVariables false
set_option linter.unusedSimpArgs false
def m__world_Net__Connected (fuel : Nat) (p0 : Int × List (Int) × List (Int) × List (Int) × Bool × Bool) (p1 : Int) : Option ((List (Int) × (List (List (Int × Int))))) :=
  Option.bind (m__world_Net__Tree fuel ((p0.1, p0.2.1, p0.2.2.1, p0.2.2.2.1, p0.2.2.2.2.1, p0.2.2.2.2.2)) p1) fun r3 => (Option.bind (m__world_Net__more fuel ((p0.1, p0.2.1, p0.2.2.1, p0.2.2.2.1, p0.2.2.2.2.1, p0.2.2.2.2.2)) ((r3.1, r3.2))) fun r6 => (some ((r6.1, r6.2))))

theorem body10 : HasBody Try.prog 10 := Try.call10

set_option maxHeartbeats 4000000 in
set_option maxRecDepth 20000 in
theorem t__world_Net__Connected (fuel : Nat) {p0 : Int × List (Int) × List (Int) × List (Int) × Bool × Bool} {p1 : Int} (v0 : Value)  (v1 : Value)  (v2 : Value) (r : (List (Int) × (List (List (Int × Int))))) (h : m__world_Net__Connected fuel p0 p1 = some r) :
    Meets Try.prog 10 #[Value.agg #[Value.int .i64 (p0.1), v0, v1, v2, Value.bool (p0.2.2.2.2.1), Value.bool (p0.2.2.2.2.2)], Value.int .i64 (p1)] [Sl RI64 v0 p0.2.1, Sl RI64 v1 p0.2.2.1, Sl RI64 v2 p0.2.2.2.1] (fun x : Value × Value × List Value => Value.agg #[x.1, x.2.1]) (fun x l => Ar EI64 x.1 r.1 :: Ar Enc.raw x.2.1 x.2.2 :: Rws EI64I64p x.2.2 r.2 :: l) (fun _ l => l) := by
  refine Meets.of (vs := [Value.agg #[Value.int .i64 (p0.1), v0, v1, v2, Value.bool (p0.2.2.2.2.1), Value.bool (p0.2.2.2.2.2)], Value.int .i64 (p1)]) Try.func10 rfl Try.ntmps10 rfl fun c => ?_
  unfold m__world_Net__Connected at h
  refine J.seq ?_
  refine J.region ?_
  refine J.loud (Loud.box (cs := [Value.int .i64 (p0.1), v0, v1, v2, Value.bool (p0.2.2.2.2.1), Value.bool (p0.2.2.2.2.2)]) rfl rfl) rfl fun b1 => ?_
  refine J.loud (Loud.alloc (cs := [Value.slice none 0 0, Value.slice none 0 0]) rfl rfl) rfl fun b2 => ?_
  refine J.done ?_
  refine J.thenN ?_
  refine J.seq ?_
  refine JR.start [0, 0, 0, 6, 15, 31] 4 mixedOrders (by decide +kernel) ?_
  refine JR.open (by exact rfl) ?_
  refine JR.qt rfl (SubM.cons 1 rfl (SubM.nil)) (SubL.nil) (Y.loadBAll 0 rfl rfl rfl rfl) HistOk.z ?_
  refine JR.qt rfl (SubM.cons 1 rfl (SubM.nil)) (SubL.nil) (Y.loadBAll 0 rfl rfl rfl rfl) HistOk.z ?_
  refine JR.qt rfl (SubM.nil) (SubL.nil) (Y.move rfl) HistOk.z ?_
  replace h := bnd h; obtain ⟨r3, hr4, h⟩ := h
  refine JR.loud rfl rfl rfl (Loud.callL body27 (t__world_Net__Tree fuel v0 v1 v2 r3 hr4) rfl (LentAll.cons (Lent.fact 0 rfl) (LentAll.cons (Lent.fact 1 rfl) (LentAll.cons (Lent.fact 2 rfl) (LentAll.nil)))) (fun _ _ => rfl)) rfl (fun x5 => (BsOk.b rfl (BsOk.b rfl (BsOk.h (SubM.cons 4 rfl (SubM.nil)) (SubL.nil) BsOk.z)))) fun x5 => ?_
  refine JR.tailD 4 rfl rfl ?_
  replace h := bnd h; obtain ⟨r6, hr7, h⟩ := h
  refine J.loud (Loud.callM (Min := [Ar EI64 x5.1 r3.1, Ar Enc.raw x5.2.1 x5.2.2, Rws EI64I64p x5.2.2 r3.2]) (Mr := [Blk b2 [Value.slice none 0 0, Value.slice none 0 0] 29, Blk b1 [Value.int .i64 (p0.1), v0, v1, v2, Value.bool (p0.2.2.2.2.1), Value.bool (p0.2.2.2.2.2)] 24]) body28 (t__world_Net__more fuel v0 v1 v2 x5.1 x5.2.1 x5.2.2 r6 hr7) rfl (SubM.refl _) (LentAll.cons (Lent.fact 0 rfl) (LentAll.cons (Lent.fact 1 rfl) (LentAll.cons (Lent.fact 2 rfl) (LentAll.nil)))) (fun _ _ => rfl)) rfl fun x8 => ?_
  refine J.know (Know.one ((Lent.ar (Lent.res 0 rfl) FI64))) fun ho9 => ?_
  refine J.know (Know.one (Lent.sl (Lent.rows (i := 1) (j := 2) rfl rfl FI64I64p))) fun ho10 => ?_
  refine J.storeAll 3 (vs := [x8.1, x8.2.1]) rfl rfl (all1 ho9 (all1 ho10 rfl)) rfl rfl rfl ?_
  refine J.done ?_
  refine J.thenN ?_
  refine J.ret ?_
  obtain rfl := Option.some.inj h
  exact J.retG1 (x8.1, x8.2.1, x8.2.2) rfl rfl (RV.cell 3 rfl rfl rfl rfl) (SubM.cons 0 rfl (SubM.cons 0 rfl (SubM.cons 0 rfl (SubM.nil)))) LentAll.nil

end Go.Proofs.Ytmajgimhmfeliaa
end
section
set_option linter.unusedVariables false
set_option linter.unusedSimpArgs false
namespace Go.Proofs.Ytmajgimhmfeliaa
open Go.Sx
abbrev NETX := Int × List (Int) × List (Int) × List (Int) × Bool × Bool

theorem within_eq (v m : Int) (h1 : 1 ≤ m) (h2 : m ≤ 4611686018427387904) : m_world_Within 1000 v m = some (v % m) := by
  unfold m_world_Within world_Within_k1
  rw [if_neg (by omega), ckT (by omega)]
  have hm := Int.tmod_eq_emod (a := v) (b := m)
  have h0 := Int.emod_nonneg v (show m ≠ 0 by omega)
  have h3 := Int.emod_lt_of_pos v (show 0 < m by omega)
  by_cases hc : 0 ≤ v ∨ m ∣ v
  · rw [if_pos hc] at hm
    have hm' : v.tmod m = v % m := by simpa using hm
    rw [hm', if_neg (by omega)]
  · rw [if_neg hc] at hm
    have : (m.natAbs : Int) = m := by omega
    rw [hm, if_pos (by omega), wr (by omega) (by omega)]
    congr 1; omega

theorem at_eq (l : List Int) (i : Int) (h : 0 ≤ i) : m_world_at 1000 l i = some (at' l i) := by
  unfold m_world_at
  by_cases hi : i < (l.length : Int)
  · rw [if_pos hi, ckT ⟨h, hi⟩]
  · rw [if_neg hi]
    unfold at'
    rw [List.getD_eq_getElem?_getD, List.getElem?_eq_none (by omega)]; rfl

/-! ## lists -/
theorem nodup_le {α : Type} [DecidableEq α] : ∀ (l1 l2 : List α), l1.Nodup → (∀ x ∈ l1, x ∈ l2) → l1.length ≤ l2.length
  | [], _, _, _ => Nat.zero_le _
  | a :: t, l2, hn, hs => by
    have hn' := List.nodup_cons.1 hn
    have ha := hs a (List.mem_cons_self ..)
    have := nodup_le t (l2.erase a) hn'.2 fun x hx => by
      have hne : x ≠ a := fun he => hn'.1 (he ▸ hx)
      exact (List.mem_erase_of_ne hne).2 (hs x (List.mem_cons_of_mem _ hx))
    rw [List.length_erase_of_mem ha] at this
    have hpos : 0 < l2.length := List.length_pos_of_mem ha
    simp only [List.length_cons]
    omega

theorem tries_le (id0 : Int) (ids : List Int) (t : Nat) (ht : t ≤ 200) (h : ∀ s, s < t → (id0 + (s : Int)) % 256 ∈ ids) : t ≤ ids.length := by
  have := nodup_le ((List.range t).map fun s : Nat => (id0 + (s : Int)) % 256) ids (by
    rw [List.nodup_iff_pairwise_ne, List.pairwise_map]
    refine List.Pairwise.imp_of_mem ?_ List.pairwise_lt_range
    intro a b ha hb hab
    rw [List.mem_range] at ha hb
    omega) (fun x hx => by
    obtain ⟨s, hs, rfl⟩ := List.mem_map.1 hx
    exact h s (List.mem_range.1 hs))
  simpa using this

/-! ## nodes -/
structure IdsOk (ids : List Int) : Prop where
  rng : ∀ y ∈ ids, 0 ≤ y ∧ y ≤ 255
  nd : ids.Nodup

theorem IdsOk.snoc {ids : List Int} {y : Int} (h : IdsOk ids) (hy : 0 ≤ y ∧ y ≤ 255) (hn : y ∉ ids) : IdsOk (ids ++ [y]) := by
  refine ⟨fun z hz => ?_, ?_⟩
  · rcases List.mem_append.1 hz with hz | hz
    · exact h.rng z hz
    · rw [List.mem_singleton.1 hz]; exact hy
  · rw [List.nodup_append]
    refine ⟨h.nd, by simp, ?_⟩
    intro a ha b hb
    rw [List.mem_singleton.1 hb]
    exact fun he => hn (he ▸ ha)

theorem mem_of_at {α : Type} [Inhabited α] {l : List α} {i : Nat} (h : i < l.length) : at' l (i : Int) ∈ l := by
  rw [at'_nat, List.getD_eq_getElem?_getD, List.getElem?_eq_getElem h]
  exact List.getElem_mem h
theorem at_of_mem {α : Type} [Inhabited α] {l : List α} {x : α} (h : x ∈ l) : ∃ i, i < l.length ∧ at' l ((i : Nat) : Int) = x := by
  obtain ⟨i, hi, he⟩ := List.getElem_of_mem h
  refine ⟨i, hi, ?_⟩
  rw [at'_nat, List.getD_eq_getElem?_getD, List.getElem?_eq_getElem hi]
  exact he

theorem fresh_ok {Q : List Int × List (List (Int × Int)) → Prop} {ids : List Int} (hl : ids.length ≤ 24) (id0 : Int) (ag : Int × List Int → Option (List Int × List (List (Int × Int))))
    (hag : ∀ y, 0 ≤ y → y ≤ 255 → y ∉ ids → OK Q (ag ((ids.length : Int) + 1, ids ++ [y]))) : OK Q (iter (_world_Net__nodes_s2 ((ids.length : Int), ids) ag) 1000 (id0 % 256, 0)) := by
  refine iter_ok (fun s : Int × Int => ∃ (t u : Nat), s.1 = (id0 + (t : Int)) % 256 ∧ s.2 = u ∧ u ≤ ids.length ∧ t ≤ ids.length ∧ (∀ k, k < t → (id0 + (k : Int)) % 256 ∈ ids) ∧ ∀ j, j < u → at' ids (j : Int) ≠ s.1)
    (fun s => (ids.length - ((s.1 - id0) % 256).toNat) * 30 + (ids.length - s.2.toNat)) ?_ 1000 _ ⟨0, 0, by simp, rfl, by omega, by omega, fun k hk => by omega, fun j hj => by omega⟩ ?_
  · rintro ⟨i, j⟩ ag' ⟨t, u, h1, h2, h3, h4, h5, h6⟩ hrec
    dsimp only at h1 h2 h6
    subst h2
    unfold _world_Net__nodes_s2 _world_Net__nodes_k2 _world_Net__nodes_k3
    dsimp only
    by_cases hu : (u : Int) < (ids.length : Int)
    · rw [if_pos hu, ckT (by omega)]
      by_cases he : at' ids (u : Int) = i
      · rw [if_pos he, ckT (by decide)]
        have hin : (id0 + (t : Int)) % 256 ∈ ids := by rw [← h1, ← he]; exact mem_of_at (by omega)
        have hall : ∀ k, k < t + 1 → (id0 + (k : Int)) % 256 ∈ ids := fun k hk => by
          rcases Nat.lt_succ_iff_lt_or_eq.1 hk with h | h
          · exact h5 k h
          · subst h; exact hin
        have ht := tries_le id0 ids (t + 1) (by omega) hall
        have hi : 0 ≤ i ∧ i ≤ 255 := by omega
        rw [wr (by omega) (by omega), Int.tmod_eq_emod_of_nonneg (by omega), wr (by omega) (by omega)]
        refine hrec _ ⟨t + 1, 0, ?_, by simp, by omega, ht, hall, fun j hj => by omega⟩ ?_
        · dsimp only; omega
        · dsimp only
          have e1 : ((i + 1) % 256 - id0) % 256 = (t : Int) + 1 := by omega
          have e2 : (i - id0) % 256 = (t : Int) := by omega
          rw [e1, e2]; omega
      · rw [if_neg he, wr (by omega) (by omega)]
        refine hrec _ ⟨t, u + 1, h1, by dsimp only; omega, by omega, h4, h5, fun j hj => ?_⟩ ?_
        · rcases Nat.lt_succ_iff_lt_or_eq.1 hj with h | h
          · exact h6 j h
          · subst h; exact he
        · dsimp only; omega
    · rw [if_neg hu]
      rw [ckT (by simp; omega), wr (by omega) (by omega)]
      refine hag i (by omega) (by omega) fun hm => ?_
      obtain ⟨k, hk, hke⟩ := at_of_mem hm
      exact h6 k (by omega) hke
  · dsimp only
    have e : (id0 % 256 - id0) % 256 = 0 := by omega
    rw [e]; omega

theorem nodes_ok (x : NETX) (most : Nat) (h1 : 1 ≤ most) (h24 : most ≤ 24) : OK (fun g : GR => IdsOk g.1 ∧ g.2 = List.replicate g.1.length [] ∧ 1 ≤ g.1.length ∧ g.1.length ≤ most) (m__world_Net__nodes 1000 x (most : Int)) := by
  unfold m__world_Net__nodes
  rw [bindS (within_eq _ _ (by omega) (by omega))]
  generalize hr : (wI .i64 (x.1 - 1)) % (most : Int) = r
  have hr0 : 0 ≤ r := by rw [← hr]; exact Int.emod_nonneg _ (by omega)
  have hr1 : r < most := by rw [← hr]; exact Int.emod_lt_of_pos _ (by omega)
  have hw : wI .i64 (1 + r) = 1 + r := wr (by omega) (by omega)
  rw [hw, ckT (by omega)]
  refine iter_ok (fun s : Int × List Int => s.1 = (s.2.length : Int) ∧ (s.2.length : Int) ≤ 1 + r ∧ IdsOk s.2) (fun s => (1 + r - s.1).toNat) ?_ 1000 _ ⟨rfl, by simp; omega, ⟨fun y hy => by simp at hy, List.nodup_nil⟩⟩ (by dsimp only; omega)
  rintro ⟨v, ids⟩ ag ⟨ha, hb, hc⟩ hrec
  dsimp only at ha hb hc
  subst ha
  unfold _world_Net__nodes_s1 _world_Net__nodes_k1
  dsimp only
  rw [hw]
  by_cases hv : (ids.length : Int) < 1 + r
  · rw [if_pos hv, bindS (at_eq _ _ (by omega)), bindS (within_eq _ _ (by decide) (by decide))]
    exact fresh_ok (by omega) _ ag fun y y0 y1 y2 => hrec _ ⟨by simp, by simp; omega, hc.snoc ⟨y0, y1⟩ y2⟩ (by dsimp only; omega)
  · rw [if_neg hv]
    refine ⟨_, rfl, hc, ?_, by dsimp only; omega, by dsimp only; omega⟩
    dsimp only
    congr 1; omega

/-! ## links -/
structure VM (ids : List Int) (P : List (List (Int × Int))) : Prop where
  n1 : 1 ≤ P.length
  n24 : P.length ≤ 24
  len : ids.length = P.length
  ok : IdsOk ids
  nd : ∀ v : Nat, v < P.length → ((at' P (v : Int)).map Prod.fst).Nodup
  lk : ∀ v : Nat, v < P.length → ∀ x ∈ at' P (v : Int), (0 ≤ x.1 ∧ x.1 ≤ (P.length : Int) - 1) ∧ x.1 ≠ (v : Int) ∧ (1 ≤ x.2 ∧ x.2 ≤ 15) ∧ ((v : Int), x.2) ∈ at' P x.1

theorem nodup_at {α : Type} [Inhabited α] {l : List α} (h : l.Nodup) {i j : Nat} (hi : i < l.length) (hj : j < l.length) (hij : i < j) : at' l (i : Int) ≠ at' l (j : Int) := by
  rw [at'_nat, at'_nat, List.getD_eq_getElem?_getD, List.getD_eq_getElem?_getD, List.getElem?_eq_getElem hi, List.getElem?_eq_getElem hj]
  exact List.pairwise_iff_getElem.1 (List.nodup_iff_pairwise_ne.1 h) i j hi hj hij

theorem VM.vg {ids : List Int} {P : List (List (Int × Int))} (h : VM ids P) : VG (ids, P) := by
  have hlen := h.len
  have links : ∀ v, v < P.length → LinksOk (row (ids, P) v) v P.length := by
    intro v hv i hi
    have hm : lnk (row (ids, P) v) i ∈ at' P (v : Int) := mem_of_at hi
    obtain ⟨a1, a2, a3, _⟩ := h.lk v hv _ hm
    refine ⟨a1, a2, a3, fun k hk => ?_⟩
    have hk2 : k < (row (ids, P) v).length := by omega
    have := List.pairwise_iff_getElem.1 (List.nodup_iff_pairwise_ne.1 (h.nd v hv)) k i (by simpa using hk2) (by simpa using hi) hk
    rw [List.getElem_map, List.getElem_map] at this
    have e : ∀ j (hj : j < (row (ids, P) v).length), lnk (row (ids, P) v) j = (at' P (v : Int))[j]'hj := fun j hj => by
      unfold lnk
      rw [at'_nat, List.getD_eq_getElem?_getD, List.getElem?_eq_getElem hj]; rfl
    rw [e k hk2, e i hi]
    exact this
  refine ⟨h.n1, h.n24, h.len, fun v hv => ⟨?_, deg_lt hv (links v hv), links v hv, fun k hk => ?_⟩, fun v hv i hi => ?_⟩
  · exact h.ok.rng _ (mem_of_at (by dsimp only at hv ⊢; omega))
  · exact nodup_at h.ok.nd (by dsimp only at hv ⊢; omega) (by dsimp only at hv ⊢; omega) hk
  · have hm : lnk (row (ids, P) v) i ∈ at' P (v : Int) := mem_of_at hi
    obtain ⟨_, _, _, a4⟩ := h.lk v hv _ hm
    obtain ⟨j, hj, he⟩ := at_of_mem a4
    exact ⟨j, hj, by unfold lnk; rw [he], by unfold lnk; rw [he]⟩

theorem VM.light {ids : List Int} {P : List (List (Int × Int))} (h : VM ids P) : light (ids, P) := by
  have hv := h.vg
  have h24 := h.n24
  refine ⟨by have := h.len; dsimp only; omega, by dsimp only; omega, fun v hv' => ?_⟩
  have := (hv.node v hv').deg
  dsimp only at this
  omega

theorem VM.start {ids : List Int} (h : IdsOk ids) (h1 : 1 ≤ ids.length) (h24 : ids.length ≤ 24) : VM ids (List.replicate ids.length []) := by
  have e : ∀ v : Nat, at' (List.replicate ids.length ([] : List (Int × Int))) (v : Int) = [] := fun v => by
    rw [at'_nat, List.getD_eq_getElem?_getD, List.getElem?_replicate]
    split <;> rfl
  refine ⟨by simpa using h1, by simpa using h24, by simp, h, fun v _ => by rw [e]; exact List.nodup_nil, fun v _ x hx => ?_⟩
  rw [e] at hx
  cases hx

/-- node v is linked to u -/
def NextTo (P : List (List (Int × Int))) (v u : Nat) : Prop := ∃ x ∈ at' P (v : Int), x.1 = (u : Int)

theorem linked_eq (ids : List Int) (P : List (List (Int × Int))) (a b : Nat) (ha : a < P.length) (hl : (at' P (a : Int)).length ≤ 900) : (NextTo P a b → m_world_linked 1000 (ids, P) a b = some true) ∧ (¬ NextTo P a b → m_world_linked 1000 (ids, P) a b = some false) := by
  have step : ∀ (r : Bool), (r = true → NextTo P a b) → (r = false → ¬ NextTo P a b) → m_world_linked 1000 (ids, P) a b = some r := by
    intro r ht hf
    unfold m_world_linked
    refine iter_eq (fun i : Int => ∃ k : Nat, i = k ∧ k ≤ (at' P (a : Int)).length ∧ ∀ j, j < k → (at' (at' P (a : Int)) ((j : Nat) : Int)).1 ≠ (b : Int)) (fun i => (at' P (a : Int)).length - i.toNat) ?_ 1000 0 ⟨0, rfl, by omega, fun j hj => by omega⟩ (by omega)
    rintro i ag ⟨k, rfl, hk, hno⟩ hrec
    unfold world_linked_s1 world_linked_k1
    dsimp only
    rw [ckT (by omega)]
    by_cases hi : (k : Int) < ((at' P (a : Int)).length : Int)
    · rw [if_pos hi, ckT (by omega), ckT (by omega)]
      by_cases he : (at' (at' P (a : Int)) (k : Int)).1 = (b : Int)
      · rw [if_pos he]
        cases r with
        | true => rfl
        | false => exact absurd ⟨_, mem_of_at (by omega), he⟩ (hf rfl)
      · rw [if_neg he, wr (by omega) (by omega)]
        refine hrec _ ⟨k + 1, by omega, by omega, fun j hj => ?_⟩ (by omega)
        rcases Nat.lt_succ_iff_lt_or_eq.1 hj with h | h
        · exact hno j h
        · subst h; exact he
    · rw [if_neg hi]
      cases r with
      | false => rfl
      | true =>
        obtain ⟨x, hx, he⟩ := ht rfl
        obtain ⟨j, hj, hje⟩ := at_of_mem hx
        exact absurd (by rw [hje]; exact he) (hno j (by omega))
  exact ⟨fun h => step true (fun _ => h) (fun hc => by cases hc), fun h => step false (fun hc => by cases hc) (fun _ => h)⟩

theorem at_set2 (P : List (List (Int × Int))) (a b : Nat) (x y : List (Int × Int)) (ha : a < P.length) (hb : b < P.length) (v : Nat) : at' ((P.set a x).set b y) (v : Int) = if v = b then y else if v = a then x else at' P (v : Int) := by
  rw [at'_nat, at'_nat, List.getD_eq_getElem?_getD, List.getD_eq_getElem?_getD, List.getElem?_set, List.getElem?_set]
  by_cases h : v = b
  · subst h; rw [if_pos rfl, if_pos rfl, if_pos (by simpa using hb)]; rfl
  · rw [if_neg (fun hc => h hc.symm), if_neg h]
    by_cases h2 : v = a
    · subst h2; rw [if_pos rfl, if_pos rfl, if_pos ha]; rfl
    · rw [if_neg (fun hc => h2 hc.symm), if_neg h2]

theorem VM.add {ids : List Int} {P : List (List (Int × Int))} (h : VM ids P) {a b : Nat} {w : Int} (ha : a < P.length) (hb : b < P.length) (hab : a ≠ b) (hn : ¬ NextTo P a b) (hw : 1 ≤ w ∧ w ≤ 15)
    {x y : List (Int × Int)} (hx : x.Perm (((b : Int), w) :: at' P (a : Int))) (hy : y.Perm (((a : Int), w) :: at' P (b : Int))) :
    VM ids ((P.set a x).set b y) ∧ (∀ v u, NextTo P v u → NextTo ((P.set a x).set b y) v u) ∧ NextTo ((P.set a x).set b y) a b := by
  have hn2 : ¬ NextTo P b a := by
    rintro ⟨z, hz, he⟩
    obtain ⟨_, _, _, hb4⟩ := h.lk b hb z hz
    rw [he] at hb4
    exact hn ⟨_, hb4, rfl⟩
  have hr := at_set2 P a b x y ha hb
  have hL : ((P.set a x).set b y).length = P.length := by simp
  have mem : ∀ (v : Nat) (z : Int × Int), z ∈ at' ((P.set a x).set b y) (v : Int) ↔ z ∈ at' P (v : Int) ∨ (v = b ∧ z = ((a : Int), w)) ∨ (v = a ∧ z = ((b : Int), w)) := by
    intro v z
    rw [hr v]
    by_cases h1 : v = b
    · subst h1
      rw [if_pos rfl, hy.mem_iff, List.mem_cons]
      constructor
      · rintro (h2 | h2)
        · exact .inr (.inl ⟨rfl, h2⟩)
        · exact .inl h2
      · rintro (h2 | ⟨_, h2⟩ | ⟨h3, _⟩)
        · exact .inr h2
        · exact .inl h2
        · exact absurd h3.symm hab
    · rw [if_neg h1]
      by_cases h2 : v = a
      · subst h2
        rw [if_pos rfl, hx.mem_iff, List.mem_cons]
        constructor
        · rintro (h3 | h3)
          · exact .inr (.inr ⟨rfl, h3⟩)
          · exact .inl h3
        · rintro (h3 | ⟨h4, _⟩ | ⟨_, h3⟩)
          · exact .inr h3
          · exact absurd h4 h1
          · exact .inl h3
      · rw [if_neg h2]
        exact ⟨.inl, fun h3 => h3.elim id fun h4 => h4.elim (fun h5 => absurd h5.1 h1) fun h5 => absurd h5.1 h2⟩
  refine ⟨⟨by rw [hL]; exact h.n1, by rw [hL]; exact h.n24, by rw [hL]; exact h.len, h.ok, fun v hv => ?_, fun v hv z hz => ?_⟩, fun v u hvu => ?_, ?_⟩
  · rw [hL] at hv
    rw [hr v]
    by_cases h1 : v = b
    · subst h1
      rw [if_pos rfl, (hy.map Prod.fst).nodup_iff, List.map_cons, List.nodup_cons]
      exact ⟨fun hc => by obtain ⟨z, hz, he⟩ := List.mem_map.1 hc; exact hn2 ⟨z, hz, he⟩, h.nd v hv⟩
    · rw [if_neg h1]
      by_cases h2 : v = a
      · subst h2
        rw [if_pos rfl, (hx.map Prod.fst).nodup_iff, List.map_cons, List.nodup_cons]
        exact ⟨fun hc => by obtain ⟨z, hz, he⟩ := List.mem_map.1 hc; exact hn ⟨z, hz, he⟩, h.nd v hv⟩
      · rw [if_neg h2]; exact h.nd v hv
  · rw [hL] at hv ⊢
    rcases (mem v z).1 hz with h1 | ⟨rfl, rfl⟩ | ⟨rfl, rfl⟩
    · obtain ⟨b1, b2, b3, b4⟩ := h.lk v hv z h1
      refine ⟨b1, b2, b3, ?_⟩
      obtain ⟨u, hu⟩ : ∃ u : Nat, z.1 = u := ⟨z.1.toNat, by omega⟩
      rw [hu] at b4 ⊢
      exact (mem u _).2 (.inl b4)
    · exact ⟨by dsimp only; omega, by dsimp only; omega, hw, (mem a _).2 (.inr (.inr ⟨rfl, rfl⟩))⟩
    · exact ⟨by dsimp only; omega, by dsimp only; omega, hw, (mem b _).2 (.inr (.inl ⟨rfl, rfl⟩))⟩
  · obtain ⟨z, hz, he⟩ := hvu
    exact ⟨z, (mem v z).2 (.inl hz), he⟩
  · exact ⟨_, (mem a _).2 (.inr (.inr ⟨rfl, rfl⟩)), rfl⟩

theorem link_ok (x : NETX) {ids : List Int} {P : List (List (Int × Int))} (h : VM ids P) {a b : Nat} {w : Int} (ha : a < P.length) (hb : b < P.length) (hw : 1 ≤ w ∧ w ≤ 15) :
    ∃ P', m__world_Net__link 1000 x (ids, P) a b w = some P' ∧ VM ids P' ∧ P'.length = P.length ∧ (∀ v u, NextTo P v u → NextTo P' v u) ∧ (a ≠ b → NextTo P' a b) := by
  have h24 := h.n24
  have dg : ∀ v : Nat, v < P.length → (at' P (v : Int)).length < 24 := fun v hv => by
    have := (h.vg.node v hv).deg
    have e : (at' P (v : Int)).length = (row (ids, P) v).length := rfl
    dsimp only at this
    omega
  have da := dg a ha
  have db := dg b hb
  unfold m__world_Net__link
  by_cases hab : a = b
  · subst hab
    rw [if_pos rfl]
    exact ⟨P, rfl, h, rfl, fun _ _ h => h, fun hc => absurd rfl hc⟩
  rw [if_neg (by omega)]
  by_cases hn : NextTo P a b
  · rw [bindS ((linked_eq ids P a b ha (by omega)).1 hn)]
    exact ⟨P, rfl, h, rfl, fun _ _ h => h, fun _ => hn⟩
  rw [bindS ((linked_eq ids P a b ha (by omega)).2 hn)]
  unfold _world_Net__link_k1
  rw [if_neg (by simp)]
  dsimp only
  cases hbk : x.2.2.2.2.2 with
  | true =>
    rw [if_pos rfl]
    have e : at' (P.set (Int.toNat (a : Int)) ([((b : Int), w)] ++ at' P (a : Int))) (b : Int) = at' P (b : Int) := by
      rw [at'_nat, List.getD_eq_getElem?_getD, List.getElem?_set, if_neg (by simpa using hab), at'_nat, List.getD_eq_getElem?_getD]
    rw [e]
    rw [ckT (by omega), ckT (by simp; omega), ckT (by omega), ckT (by simp; omega), ckT (by simp; omega), ckT (by simp; omega)]
    obtain ⟨h1, h2, h3⟩ := h.add ha hb hab hn hw (List.Perm.refl _) (List.Perm.refl _)
    exact ⟨_, rfl, h1, by simp, h2, fun _ => h3⟩
  | false =>
    rw [if_neg (by simp)]
    rw [ckT (by omega), ckT (by omega), ckT (by simp; omega), ckT (by simp; omega), ckT (by simpa using hab), ckT (by simp; omega), ckT (by simp; omega)]
    obtain ⟨h1, h2, h3⟩ := h.add ha hb hab hn hw (x := at' P (a : Int) ++ [((b : Int), w)]) (y := at' P (b : Int) ++ [((a : Int), w)]) List.perm_append_comm List.perm_append_comm
    exact ⟨_, rfl, h1, by simp, h2, fun _ => h3⟩

theorem weight_ok (v : Int) : wI .i64 (1 + v % 15) = 1 + v % 15 ∧ 1 ≤ 1 + v % 15 ∧ 1 + v % 15 ≤ 15 := by
  have := Int.emod_nonneg v (show (15 : Int) ≠ 0 by decide)
  have := Int.emod_lt_of_pos v (show (0 : Int) < 15 by decide)
  exact ⟨wr (by omega) (by omega), by omega, by omega⟩

/-! ## Tree, more, Connected, Any -/
theorem tree_ok (x : NETX) (most : Nat) (h1 : 1 ≤ most) (h24 : most ≤ 24) :
    OK (fun g : GR => VM g.1 g.2 ∧ g.2.length ≤ most ∧ ∀ v : Nat, 1 ≤ v → v < g.2.length → ∃ u : Nat, u < v ∧ NextTo g.2 u v) (m__world_Net__Tree 1000 x (most : Int)) := by
  unfold m__world_Net__Tree
  obtain ⟨⟨ids, P0⟩, e0, hid, hP, hn1, hn2⟩ := nodes_ok x most h1 h24
  dsimp only at hP hid hn1 hn2
  rw [bindS e0]
  dsimp only
  subst hP
  have hst := VM.start hid hn1 (by omega)
  refine iter_ok (fun s : Int × List (List (Int × Int)) => ∃ k : Nat, s.1 = k ∧ 1 ≤ k ∧ k ≤ ids.length ∧ VM ids s.2 ∧ s.2.length = ids.length ∧ ∀ v : Nat, 1 ≤ v → v < k → ∃ u : Nat, u < v ∧ NextTo s.2 u v) (fun s => ids.length - s.1.toNat) ?_ 1000 _ ⟨1, rfl, by omega, hn1, hst, by simp, fun v hv hv2 => by omega⟩ (by dsimp only; omega)
  rintro ⟨i, P⟩ ag ⟨k, hk, hk1, hk2, hV, hL, hT⟩ hrec
  dsimp only at hk hV hL hT
  subst hk
  unfold _world_Net__Tree_s1 _world_Net__Tree_k1
  dsimp only
  by_cases hi : (k : Int) < (P.length : Int)
  · rw [if_pos hi, wr (by omega) (by omega), bindS (at_eq _ _ (by omega)), bindS (within_eq _ _ (by omega) (by omega)), bindS (at_eq _ _ (by omega)), bindS (within_eq _ _ (by decide) (by decide))]
    obtain ⟨w1, w2, w3⟩ := weight_ok (at' x.2.2.1 ((k : Int) - 1))
    rw [w1]
    generalize hu : at' x.2.1 ((k : Int) - 1) % (k : Int) = u
    have u0 : 0 ≤ u := by rw [← hu]; exact Int.emod_nonneg _ (by omega)
    have u1 : u < k := by rw [← hu]; exact Int.emod_lt_of_pos _ (by omega)
    obtain ⟨u, rfl⟩ : ∃ n : Nat, u = n := ⟨u.toNat, by omega⟩
    obtain ⟨P', e1, v1, v2, v3, v4⟩ := link_ok x hV (a := u) (b := k) (by omega) (by omega) ⟨w2, w3⟩
    rw [bindS e1, wr (by omega) (by omega)]
    refine hrec _ ⟨k + 1, by dsimp only; omega, by omega, by omega, v1, by dsimp only; omega, fun v hv hv2 => ?_⟩ (by dsimp only; omega)
    by_cases hvk : v = k
    · subst hvk; exact ⟨u, by omega, v4 (by omega)⟩
    · obtain ⟨u', hu1, hu2⟩ := hT v hv (by omega)
      exact ⟨u', hu1, v3 _ _ hu2⟩
  · rw [if_neg hi]
    exact ⟨_, rfl, hV, by dsimp only; omega, fun v hv hv2 => hT v hv (by dsimp only at hv2; omega)⟩

theorem more_ok (x : NETX) {ids : List Int} {P : List (List (Int × Int))} (h : VM ids P) : OK (fun g : GR => VM g.1 g.2 ∧ g.1 = ids ∧ g.2.length = P.length ∧ ∀ v u, NextTo P v u → NextTo g.2 v u) (m__world_Net__more 1000 x (ids, P)) := by
  unfold m__world_Net__more
  have h24 := h.n24
  have hp1 := h.n1
  refine iter_ok (fun s : Int × List (List (Int × Int)) => ∃ k : Nat, s.1 = k ∧ k ≤ 100 ∧ VM ids s.2 ∧ s.2.length = P.length ∧ ∀ v u, NextTo P v u → NextTo s.2 v u) (fun s => 200 - s.1.toNat) ?_ 1000 _ ⟨P.length, rfl, by omega, h, rfl, fun _ _ h => h⟩ (by dsimp only; omega)
  rintro ⟨i, Q⟩ ag ⟨k, hk, hk2, hV, hL, hN⟩ hrec
  dsimp only at hk hV hL hN
  subst hk
  have done : ∀ b : Bool, b = false → OK (fun g : GR => VM g.1 g.2 ∧ g.1 = ids ∧ g.2.length = P.length ∧ ∀ v u, NextTo P v u → NextTo g.2 v u) (_world_Net__more_k2 1000 x (ids, P) ((k : Int), Q) ag b) := by
    rintro b rfl
    exact ⟨_, rfl, hV, rfl, hL, hN⟩
  unfold _world_Net__more_s1
  dsimp only
  rw [wr (by omega) (by omega)]
  by_cases h1 : (k : Int) + 1 < (x.2.1.length : Int)
  rotate_left
  · rw [if_neg h1]; exact done _ rfl
  rw [if_pos h1]
  by_cases h2 : (k : Int) < 60
  rotate_left
  · exact done _ (decide_eq_false h2)
  rw [decide_eq_true h2]
  unfold _world_Net__more_k2
  dsimp only
  rw [if_pos rfl, ckT (by omega), bindS (within_eq _ _ (by omega) (by omega)), wr (by omega) (by omega), ckT (by omega), bindS (within_eq _ _ (by omega) (by omega)), bindS (at_eq _ _ (by omega)), bindS (within_eq _ _ (by decide) (by decide))]
  obtain ⟨w1, w2, w3⟩ := weight_ok (at' x.2.2.1 (k : Int))
  rw [w1]
  generalize hu : at' x.2.1 (k : Int) % (P.length : Int) = u
  have u0 : 0 ≤ u := by rw [← hu]; exact Int.emod_nonneg _ (by omega)
  have u1 : u < P.length := by rw [← hu]; exact Int.emod_lt_of_pos _ (by omega)
  obtain ⟨u, rfl⟩ : ∃ n : Nat, u = n := ⟨u.toNat, by omega⟩
  generalize ht : at' x.2.1 ((k : Int) + 1) % (P.length : Int) = t
  have t0 : 0 ≤ t := by rw [← ht]; exact Int.emod_nonneg _ (by omega)
  have t1 : t < P.length := by rw [← ht]; exact Int.emod_lt_of_pos _ (by omega)
  obtain ⟨t, rfl⟩ : ∃ n : Nat, t = n := ⟨t.toNat, by omega⟩
  obtain ⟨P', e1, v1, v2, v3, v4⟩ := link_ok x hV (a := u) (b := t) (by omega) (by omega) ⟨w2, w3⟩
  rw [bindS e1, wr (by omega) (by omega)]
  exact hrec _ ⟨k + 2, by dsimp only; omega, by omega, v1, by dsimp only; omega, fun v u hvu => v3 _ _ (hN v u hvu)⟩ (by dsimp only; omega)

theorem connected_ok (x : NETX) (most : Nat) (h1 : 1 ≤ most) (h24 : most ≤ 24) :
    OK (fun g : GR => VM g.1 g.2 ∧ g.2.length ≤ most ∧ ∀ v : Nat, 1 ≤ v → v < g.2.length → ∃ u : Nat, u < v ∧ NextTo g.2 u v) (m__world_Net__Connected 1000 x (most : Int)) := by
  unfold m__world_Net__Connected
  obtain ⟨⟨ids, P⟩, e0, hV, hL, hT⟩ := tree_ok x most h1 h24
  obtain ⟨⟨ids', P'⟩, e1, hV', hi, hL', hN⟩ := more_ok x hV
  rw [bindS e0, bindS e1]
  dsimp only at hL hT hV' hi hL' hN
  refine ⟨_, rfl, hV', by dsimp only; omega, fun v hv hv2 => ?_⟩
  obtain ⟨u, hu, hu2⟩ := hT v hv (by dsimp only at hv2; omega)
  exact ⟨u, hu, hN _ _ hu2⟩

end Go.Proofs.Ytmajgimhmfeliaa
end
