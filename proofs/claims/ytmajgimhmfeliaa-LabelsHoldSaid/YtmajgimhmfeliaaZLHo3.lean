/- Models of functions with their proofs, by program (gen/xt.py), and plain laws, in one text. Conditions: none. -/
import Derived.Test.YtmajgimhmfeliaaZLHo2
import Derived.Test.YtmajgimhmfeliaaZLHo1
import Derived.Test.YtmajgimhmfeliaaXp
import Derived.Test.YtmajgimhmfeliaaSxx
section
set_option linter.unusedVariables false
set_option linter.unusedSimpArgs false
namespace Go.Proofs.Ytmajgimhmfeliaa
open Go.Sx
set_option linter.unusedVariables false
set_option linter.unusedSimpArgs false
def _world_Net__link_k1 (p0 : Int × List (Int) × List (Int) × List (Int) × Bool × Bool) (p1 : List (Int) × (List (List (Int × Int)))) (p2 : Int) (p3 : Int) (p4 : Int) (a4 : Bool) : Option ((List (List (Int × Int)))) :=
  if a4 = true then (some (p1.2)) else (if p0.2.2.2.2.2 = true then (ck (0 ≤ p2 ∧ p2 < (List.length p1.2 : Int)) (ck ((List.length ([ (p3, p4)]) : Int) + (List.length (at' p1.2 p2) : Int) ≤ 1099511627) (ck (0 ≤ p2 ∧ p2 < (List.length p1.2 : Int)) (ck (0 ≤ p3 ∧ p3 < (List.length (List.set p1.2 (Int.toNat p2) (([ (p3, p4)]) ++ (at' p1.2 p2))) : Int)) (ck ((List.length ([ (p2, p4)]) : Int) + (List.length (at' (List.set p1.2 (Int.toNat p2) (([ (p3, p4)]) ++ (at' p1.2 p2))) p3) : Int) ≤ 1099511627) (ck (0 ≤ p3 ∧ p3 < (List.length (List.set p1.2 (Int.toNat p2) (([ (p3, p4)]) ++ (at' p1.2 p2))) : Int)) (some (List.set (List.set p1.2 (Int.toNat p2) (([ (p3, p4)]) ++ (at' p1.2 p2))) (Int.toNat p3) (([ (p2, p4)]) ++ (at' (List.set p1.2 (Int.toNat p2) (([ (p3, p4)]) ++ (at' p1.2 p2))) p3)))))))))) else (ck (0 ≤ p2 ∧ p2 < (List.length p1.2 : Int)) (ck (0 ≤ p3 ∧ p3 < (List.length p1.2 : Int)) (ck ((List.length (at' p1.2 p2) : Int) + (List.length ([ (p3, p4)]) : Int) ≤ 1099511627) (ck ((List.length (at' p1.2 p3) : Int) + (List.length ([ (p2, p4)]) : Int) ≤ 1099511627) (ck (Int.toNat p2 ≠ Int.toNat p3) (ck (0 ≤ p2 ∧ p2 < (List.length (List.set (List.set p1.2 (Int.toNat p2) ((at' p1.2 p2) ++ ([ (p3, p4)]))) (Int.toNat p3) ((at' p1.2 p3) ++ ([ (p2, p4)]))) : Int)) (ck (0 ≤ p3 ∧ p3 < (List.length (List.set (List.set p1.2 (Int.toNat p2) ((at' p1.2 p2) ++ ([ (p3, p4)]))) (Int.toNat p3) ((at' p1.2 p3) ++ ([ (p2, p4)]))) : Int)) (some (List.set (List.set p1.2 (Int.toNat p2) ((at' p1.2 p2) ++ ([ (p3, p4)]))) (Int.toNat p3) ((at' p1.2 p3) ++ ([ (p2, p4)]))))))))))))
def m__world_Net__link (fuel : Nat) (p0 : Int × List (Int) × List (Int) × List (Int) × Bool × Bool) (p1 : List (Int) × (List (List (Int × Int)))) (p2 : Int) (p3 : Int) (p4 : Int) : Option ((List (List (Int × Int)))) :=
  if p2 = p3 then (_world_Net__link_k1 p0 p1 p2 p3 p4 (true)) else (Option.bind (m_world_linked fuel ((p1.1, p1.2)) p2 p3) fun r86 => (_world_Net__link_k1 p0 p1 p2 p3 p4 (r86)))

theorem body51 : HasBody Try.prog 51 := Try.call51

set_option maxHeartbeats 4000000 in
set_option maxRecDepth 20000 in
theorem t__world_Net__link (fuel : Nat) {p0 : Int × List (Int) × List (Int) × List (Int) × Bool × Bool} {p1 : List (Int) × (List (List (Int × Int)))} {p2 : Int} {p3 : Int} {p4 : Int} (v0 : Value)  (v1 : Value)  (v2 : Value)  (v3 : Value)  (v4 : Value)  (w5 : List Value) (r : (List (List (Int × Int)))) (h : m__world_Net__link fuel p0 p1 p2 p3 p4 = some r) :
    MeetsM Try.prog 51 #[Value.agg #[Value.int .i64 (p0.1), v0, v1, v2, Value.bool (p0.2.2.2.2.1), Value.bool (p0.2.2.2.2.2)], Value.agg #[v3, v4], Value.int .i64 (p2), Value.int .i64 (p3), Value.int .i64 (p4)] [Ar Enc.raw v4 w5, Rws EI64I64p w5 p1.2] [Sl RI64 v0 p0.2.1, Sl RI64 v1 p0.2.2.1, Sl RI64 v2 p0.2.2.2.1, Sl RI64 v3 p1.1] (fun x : List Value => Value.tuple #[]) (fun x l => Ar Enc.raw v4 x :: Rws EI64I64p x r :: l) := by
  refine MeetsM.of (vs := [Value.agg #[Value.int .i64 (p0.1), v0, v1, v2, Value.bool (p0.2.2.2.2.1), Value.bool (p0.2.2.2.2.2)], Value.agg #[v3, v4], Value.int .i64 (p2), Value.int .i64 (p3), Value.int .i64 (p4)]) Try.func51 rfl Try.ntmps51 rfl fun c => ?_
  unfold m__world_Net__link at h
  refine J.seq ?_
  refine J.region ?_
  refine J.loud (Loud.box (cs := [Value.int .i64 (p0.1), v0, v1, v2, Value.bool (p0.2.2.2.2.1), Value.bool (p0.2.2.2.2.2)]) rfl rfl) rfl fun b1 => ?_
  refine J.loud (Loud.box (cs := [v3, v4]) rfl rfl) rfl fun b2 => ?_
  refine J.done ?_
  refine J.thenN ?_
  refine J.seq ?_
  refine J.seq ?_
  refine J.midI (A := Bool) (B := Unit) (fun a4 => _world_Net__link_k1 p0 p1 p2 p3 p4 a4 = some r) (fun a4 b5 => [(2, Value.int .i64 (p2)), (3, Value.int .i64 (p3)), (4, Value.int .i64 (p4)), (5, Value.pointer (some ⟨b1, 0, none⟩)), (6, Value.pointer (some ⟨b2, 0, none⟩)), (20, Value.bool (a4))]) (fun a4 b5 => [Blk b2 [v3, v4] 29, Blk b1 [Value.int .i64 (p0.1), v0, v1, v2, Value.bool (p0.2.2.2.2.1), Value.bool (p0.2.2.2.2.2)] 24, Ar Enc.raw v4 w5, Rws EI64I64p w5 p1.2]) (fun a4 b5 => [Sl RI64 v0 p0.2.1, Sl RI64 v1 p0.2.2.1, Sl RI64 v2 p0.2.2.2.1, Sl RI64 v3 p1.1]) ?_ ?_
  · refine J.region ?_
    refine J.quiet (Y.move rfl) rfl ?_
    refine J.quiet (Y.move rfl) rfl ?_
    refine J.quiet (Y.eql rfl rfl) rfl ?_
    refine J.quiet (Y.move rfl) rfl ?_
    refine J.guardD (by exact rfl) (by exact rfl) (fun hp85 => ?_) (fun hp85 => ?_)
    · replace h := ifP hp85 h
      refine J.guardN rfl rfl rfl ?_
      refine J.guardN rfl rfl rfl ?_
      refine J.guardN rfl rfl rfl ?_
      refine J.guardN rfl rfl rfl ?_
      refine J.quiet (Y.pickT rfl rfl) rfl ?_
      refine J.done ?_
      refine J.thenN ?_
      exact J.meetI (true) (()) h (by repeat (first | exact SubF.nil | refine SubF.cons rfl ?_)) (SubM.refl _) (LentAll.refl _ _)
    · replace h := ifN hp85 h
      refine J.guardY rfl (Y.loadBAll 0 rfl rfl rfl rfl) rfl ?_
      refine J.guardY rfl (Y.move rfl) rfl ?_
      refine J.guardY rfl (Y.move rfl) rfl ?_
      replace h := bnd h; obtain ⟨r86, hr87, h⟩ := h
      refine J.loudG rfl (Loud.callL body75 (t_world_linked fuel v3 v4 (List.zip w5 p1.2) r86 hr87) rfl (LentAll.cons (Lent.fact 3 rfl) (LentAll.cons (Lent.rows (i := 2) (j := 3) rfl rfl FI64I64p) (LentAll.nil))) (fun _ _ => rfl)) rfl fun x88 => ?_
      refine J.quiet (Y.pickF rfl rfl) rfl ?_
      refine J.done ?_
      refine J.thenN ?_
      exact J.meetI (r86) (()) h (by repeat (first | exact SubF.nil | refine SubF.cons rfl ?_)) (SubM.refl _) (LentAll.refl _ _)
  · clear h
    intro a4 b5 h
    unfold _world_Net__link_k1 at h
    refine J.cond (by exact rfl) (fun hp6 => ?_) (fun hp6 => ?_)
    · replace h := ifP hp6 h
      refine J.ret ?_
      refine J.thenR ?_
      obtain rfl := Option.some.inj h
      exact J.retG0 (w5) rfl rfl .ret (.inl rfl) (SubM.cons 2 rfl (SubM.cons 2 rfl (SubM.nil))) LentAll.nil
    · replace h := ifBN hp6 h
      refine J.skip ?_
      refine J.thenN ?_
      refine J.seq ?_
      refine J.region ?_
      refine J.quiet (Y.move rfl) rfl ?_
      refine J.quiet (Y.move rfl) rfl ?_
      refine J.quiet (Y.bld2 (r := Value.agg #[Value.int .i64 (p3), Value.int .i64 (p4)]) rfl rfl (by intro w; simp [Instr.build, Instr.fill, cells_intV, cells_boolV, cells_sliceV, cells_ptrV, cells_strV, cells_funcV, cells_agg])) rfl ?_
      refine J.quiet (Y.move rfl) rfl ?_
      refine J.quiet (Y.move rfl) rfl ?_
      refine J.quiet (Y.bld2 (r := Value.agg #[Value.int .i64 (p2), Value.int .i64 (p4)]) rfl rfl (by intro w; simp [Instr.build, Instr.fill, cells_intV, cells_boolV, cells_sliceV, cells_ptrV, cells_strV, cells_funcV, cells_agg])) rfl ?_
      refine J.loud (Loud.alloc (cs := [Value.int .i64 (0 : Int), Value.int .i64 (0 : Int)]) rfl rfl) rfl fun b7 => ?_
      refine J.loud (Loud.alloc (cs := [Value.int .i64 (0 : Int), Value.int .i64 (0 : Int)]) rfl rfl) rfl fun b8 => ?_
      refine J.storeAll 1 (vs := [Value.int .i64 (p3), Value.int .i64 (p4)]) rfl rfl rfl rfl rfl rfl ?_
      refine J.storeAll 0 (vs := [Value.int .i64 (p2), Value.int .i64 (p4)]) rfl rfl rfl rfl rfl rfl ?_
      refine J.done ?_
      refine J.thenN ?_
      refine J.seq ?_
      refine J.seq ?_
      refine J.region ?_
      refine J.quiet (Y.fieldB rfl rfl rfl rfl rfl) rfl ?_
      refine J.quiet (Y.loadB 3 rfl rfl rfl rfl rfl) rfl ?_
      refine J.done ?_
      refine J.thenN ?_
      refine J.cond (by exact rfl) (fun hp9 => ?_) (fun hp9 => ?_)
      · replace h := ifP hp9 h
        refine J.seq ?_
        refine JR.start [0, 1, 0, 0, 8, 0, 32, 0, 224, 480, 1016, 2047, 4095] 11 mixedOrders (by decide +kernel) ?_
        refine JR.open (by exact rfl) ?_
        refine JR.qt rfl (SubM.nil) (SubL.nil) (Y.fieldB rfl rfl rfl rfl rfl) HistOk.z ?_
        refine JR.qt rfl (SubM.cons 2 rfl (SubM.nil)) (SubL.nil) (Y.loadB 0 rfl rfl rfl rfl rfl) HistOk.z ?_
        refine JR.qt rfl (SubM.nil) (SubL.nil) (Y.move rfl) HistOk.z ?_
        refine JR.qt rfl (SubM.cons 1 rfl (SubM.nil)) (SubL.nil) (Y.loadBAll 0 rfl rfl rfl rfl) HistOk.z ?_
        refine JR.loud rfl rfl rfl (Loud.buildS (e := EI64I64p) ([((p3, p4))]) [(0, Value.agg #[Value.int .i64 (p3), Value.int .i64 (p4)])] rfl rfl rfl rfl (fill_1_2 (Value.int .i64 (p3)) (Value.int .i64 (p4))) rfl rfl rfl) rfl (fun u10 => (BsOk.b rfl (BsOk.h (SubM.nil) (SubL.nil) (BsOk.h (SubM.cons 3 rfl (SubM.nil)) (SubL.nil) (BsOk.h (SubM.nil) (SubL.nil) BsOk.z))))) fun u10 => ?_
        refine JR.qt rfl (SubM.nil) (SubL.nil) (Y.fieldB rfl rfl rfl rfl rfl) (HistOk.h (SubM.nil) (SubL.nil) HistOk.z) ?_
        refine JR.qt rfl (SubM.cons 3 rfl (SubM.nil)) (SubL.nil) (Y.loadB 0 rfl rfl rfl rfl rfl) (HistOk.h (SubM.cons 2 rfl (SubM.nil)) (SubL.nil) HistOk.z) ?_
        refine JR.qt rfl (SubM.nil) (SubL.nil) (Y.move rfl) (HistOk.h (SubM.nil) (SubL.nil) HistOk.z) ?_
        replace h := ck_some h; obtain ⟨hc11, h⟩ := h
        refine JR.know (Know.rws 6 rfl) fun hl12 => ?_
        refine JR.qt rfl (SubM.cons 5 rfl (SubM.nil)) (SubL.nil) (Y.indexA 0 rfl rfl rfl rfl rfl hc11.1 (by have q1 := hc11.2; have q2 := hl12; (try simp only [List.length_set] at q1); (try simp only [List.length_set] at q2); (try simp only [List.length_set]); omega)) (HistOk.h (SubM.cons 4 rfl (SubM.nil)) (SubL.nil) HistOk.z) ?_
        refine JR.know (Know.rws 6 rfl) fun hl13 => ?_
        refine JR.qt rfl (SubM.cons 5 rfl (SubM.nil)) (SubL.nil) (Y.loadRaw 0 rfl rfl hl13 rfl rfl hc11) (HistOk.h (SubM.cons 4 rfl (SubM.nil)) (SubL.nil) HistOk.z) ?_
        replace h := ck_some h; obtain ⟨hc15, h⟩ := h
        refine JR.loud rfl rfl rfl (Loud.appendL 0 FI64I64p rfl rfl rfl (Lent.row (j := 6) rfl FI64I64p hc11.1 hc11.2) rfl rfl rfl rfl hc15 rfl) rfl (fun u14 => (BsOk.b rfl (BsOk.b rfl (BsOk.b rfl (BsOk.b rfl (BsOk.b rfl (BsOk.b rfl (BsOk.h (SubM.nil) (SubL.nil) (BsOk.h (SubM.cons 3 rfl (SubM.nil)) (SubL.nil) (BsOk.h (SubM.nil) (SubL.nil) BsOk.z)))))))))) fun u14 => ?_
        refine JR.tailD 11 rfl rfl ?_
        replace h := ck_some h; obtain ⟨hc16, h⟩ := h
        refine J.quiet (Y.indexN rfl rfl (Lent.rows (i := 5) (j := 6) rfl rfl FI64I64p) rfl rfl hc16) rfl ?_
        refine J.know (Know.one ((Lent.ar (Lent.res 0 rfl) FI64I64p))) fun ho17 => ?_
        refine J.stp (Stp.putRow (k := p2) 6 0 rfl rfl rfl hc16) ?_
        refine J.storeRow 4 5 ⟨hc16.1, by first | exact hc16.2 | simpa using hc16.2⟩ rfl rfl rfl rfl rfl (by simp) ho17 rfl ?_
        refine J.done ?_
        refine J.thenN ?_
        refine J.seq ?_
        refine JR.start [0, 1, 0, 0, 8, 0, 32, 0, 224, 480, 1016, 2047, 4095] 11 mixedOrders (by decide +kernel) ?_
        refine JR.open (by exact rfl) ?_
        refine JR.qt rfl (SubM.nil) (SubL.nil) (Y.fieldB rfl rfl rfl rfl rfl) HistOk.z ?_
        refine JR.qt rfl (SubM.cons 2 rfl (SubM.nil)) (SubL.nil) (Y.loadB 0 rfl rfl rfl rfl rfl) HistOk.z ?_
        refine JR.qt rfl (SubM.nil) (SubL.nil) (Y.move rfl) HistOk.z ?_
        refine JR.qt rfl (SubM.cons 0 rfl (SubM.nil)) (SubL.nil) (Y.loadBAll 0 rfl rfl rfl rfl) HistOk.z ?_
        refine JR.loud rfl rfl rfl (Loud.buildS (e := EI64I64p) ([((p2, p4))]) [(0, Value.agg #[Value.int .i64 (p2), Value.int .i64 (p4)])] rfl rfl rfl rfl (fill_1_2 (Value.int .i64 (p2)) (Value.int .i64 (p4))) rfl rfl rfl) rfl (fun u18 => (BsOk.b rfl (BsOk.h (SubM.nil) (SubL.nil) (BsOk.h (SubM.cons 3 rfl (SubM.nil)) (SubL.nil) (BsOk.h (SubM.nil) (SubL.nil) BsOk.z))))) fun u18 => ?_
        refine JR.qt rfl (SubM.nil) (SubL.nil) (Y.fieldB rfl rfl rfl rfl rfl) (HistOk.h (SubM.nil) (SubL.nil) HistOk.z) ?_
        refine JR.qt rfl (SubM.cons 3 rfl (SubM.nil)) (SubL.nil) (Y.loadB 0 rfl rfl rfl rfl rfl) (HistOk.h (SubM.cons 2 rfl (SubM.nil)) (SubL.nil) HistOk.z) ?_
        refine JR.qt rfl (SubM.nil) (SubL.nil) (Y.move rfl) (HistOk.h (SubM.nil) (SubL.nil) HistOk.z) ?_
        replace h := ck_some h; obtain ⟨hc19, h⟩ := h
        refine JR.know (Know.rws 6 rfl) fun hl20 => ?_
        refine JR.qt rfl (SubM.cons 5 rfl (SubM.nil)) (SubL.nil) (Y.indexA 0 rfl rfl rfl rfl rfl hc19.1 (by have q1 := hc19.2; have q2 := hl20; (try simp only [List.length_set] at q1); (try simp only [List.length_set] at q2); (try simp only [List.length_set]); omega)) (HistOk.h (SubM.cons 4 rfl (SubM.nil)) (SubL.nil) HistOk.z) ?_
        refine JR.know (Know.rws 6 rfl) fun hl21 => ?_
        refine JR.qt rfl (SubM.cons 5 rfl (SubM.nil)) (SubL.nil) (Y.loadRaw 0 rfl rfl hl21 rfl rfl hc19) (HistOk.h (SubM.cons 4 rfl (SubM.nil)) (SubL.nil) HistOk.z) ?_
        replace h := ck_some h; obtain ⟨hc23, h⟩ := h
        refine JR.loud rfl rfl rfl (Loud.appendL 0 FI64I64p rfl rfl rfl (Lent.row (j := 6) rfl FI64I64p hc19.1 hc19.2) rfl rfl rfl rfl hc23 rfl) rfl (fun u22 => (BsOk.b rfl (BsOk.b rfl (BsOk.b rfl (BsOk.b rfl (BsOk.b rfl (BsOk.b rfl (BsOk.h (SubM.nil) (SubL.nil) (BsOk.h (SubM.cons 3 rfl (SubM.nil)) (SubL.nil) (BsOk.h (SubM.nil) (SubL.nil) BsOk.z)))))))))) fun u22 => ?_
        refine JR.tailD 11 rfl rfl ?_
        replace h := ck_some h; obtain ⟨hc24, h⟩ := h
        refine J.quiet (Y.indexN rfl rfl (Lent.rows (i := 5) (j := 6) rfl rfl FI64I64p) rfl rfl hc24) rfl ?_
        refine J.know (Know.one ((Lent.ar (Lent.res 0 rfl) FI64I64p))) fun ho25 => ?_
        refine J.stp (Stp.putRow (k := p3) 6 0 rfl rfl rfl hc24) ?_
        refine J.storeRow 4 5 ⟨hc24.1, by first | exact hc24.2 | simpa using hc24.2⟩ rfl rfl rfl rfl rfl (by simp) ho25 rfl ?_
        refine J.done ?_
        refine J.thenN ?_
        refine J.ret ?_
        refine J.thenR ?_
        obtain rfl := Option.some.inj h
        exact J.retG0 (List.set (List.set w5 (Int.toNat p2) u14) (Int.toNat p3) u22) rfl rfl .ret (.inl rfl) (SubM.cons 4 rfl (SubM.cons 4 rfl (SubM.nil))) LentAll.nil
      · replace h := ifBN hp9 h
        refine J.skip ?_
        refine J.thenN ?_
        replace h := ck_some h; obtain ⟨hc26, h⟩ := h
        replace h := ck_some h; obtain ⟨hc29, h⟩ := h
        replace h := ck_some h; obtain ⟨hc34, h⟩ := h
        replace h := ck_some h; obtain ⟨hc37, h⟩ := h
        replace h := ck_some h; obtain ⟨hc38, h⟩ := h
        replace h := ck_some h; obtain ⟨hc39, h⟩ := h
        replace h := ck_some h; obtain ⟨hc43, h⟩ := h
        refine JR.orders [0, 1, 0, 0, 8, 0, 0, 64, 0, 448, 960, 0, 2048, 8128, 0, 16384, 0, 114688, 245760, 0, 524288, 2097088, 4194247, 8388551, 16777215, 33554431] 24 [[0, 1, 2, 3, 4, 5, 6, 7, 8, 9, 10, 11, 14, 15, 16, 17, 18, 19, 12, 13, 20, 21, 22, 23, 24, 25], [0, 1, 2, 3, 4, 5, 6, 7, 8, 9, 10, 11, 14, 15, 16, 17, 18, 19, 12, 20, 13, 21, 22, 23, 24, 25], [0, 1, 2, 3, 4, 5, 6, 7, 8, 9, 10, 11, 14, 15, 16, 17, 18, 19, 20, 12, 13, 21, 22, 23, 24, 25]] mixedOrders (by decide +kernel) (by decide +kernel) ?_
        intro o ho
        simp only [List.mem_cons, List.not_mem_nil, or_false] at ho
        rcases ho with rfl | rfl | rfl
        · refine JR.qt rfl (SubM.nil) (SubL.nil) (Y.fieldB rfl rfl rfl rfl rfl) HistOk.z ?_
          refine JR.qt rfl (SubM.cons 2 rfl (SubM.nil)) (SubL.nil) (Y.loadB 0 rfl rfl rfl rfl rfl) HistOk.z ?_
          refine JR.qt rfl (SubM.nil) (SubL.nil) (Y.move rfl) HistOk.z ?_
          refine JR.qt rfl (SubM.nil) (SubL.nil) (Y.fieldB rfl rfl rfl rfl rfl) HistOk.z ?_
          refine JR.qt rfl (SubM.cons 2 rfl (SubM.nil)) (SubL.nil) (Y.loadB 0 rfl rfl rfl rfl rfl) HistOk.z ?_
          refine JR.qt rfl (SubM.nil) (SubL.nil) (Y.move rfl) HistOk.z ?_
          refine JR.qt rfl (SubM.nil) (SubL.nil) (Y.fieldB rfl rfl rfl rfl rfl) HistOk.z ?_
          refine JR.qt rfl (SubM.cons 2 rfl (SubM.nil)) (SubL.nil) (Y.loadB 0 rfl rfl rfl rfl rfl) HistOk.z ?_
          refine JR.qt rfl (SubM.nil) (SubL.nil) (Y.move rfl) HistOk.z ?_
          refine JR.know (Know.rws 5 rfl) fun hl46 => ?_
          refine JR.qt rfl (SubM.cons 4 rfl (SubM.nil)) (SubL.nil) (Y.indexA 0 rfl rfl rfl rfl rfl hc26.1 (by have q1 := hc26.2; have q2 := hl46; (try simp only [List.length_set] at q1); (try simp only [List.length_set] at q2); (try simp only [List.length_set]); omega)) HistOk.z ?_
          refine JR.know (Know.rws 5 rfl) fun hl47 => ?_
          refine JR.qt rfl (SubM.cons 4 rfl (SubM.nil)) (SubL.nil) (Y.loadRaw 0 rfl rfl hl47 rfl rfl hc26) HistOk.z ?_
          refine JR.qt rfl (SubM.cons 1 rfl (SubM.nil)) (SubL.nil) (Y.loadBAll 0 rfl rfl rfl rfl) HistOk.z ?_
          refine JR.qt rfl (SubM.nil) (SubL.nil) (Y.fieldB rfl rfl rfl rfl rfl) HistOk.z ?_
          refine JR.qt rfl (SubM.cons 2 rfl (SubM.nil)) (SubL.nil) (Y.loadB 0 rfl rfl rfl rfl rfl) HistOk.z ?_
          refine JR.qt rfl (SubM.nil) (SubL.nil) (Y.move rfl) HistOk.z ?_
          refine JR.know (Know.rws 5 rfl) fun hl48 => ?_
          refine JR.qt rfl (SubM.cons 4 rfl (SubM.nil)) (SubL.nil) (Y.indexA 0 rfl rfl rfl rfl rfl hc29.1 (by have q1 := hc29.2; have q2 := hl48; (try simp only [List.length_set] at q1); (try simp only [List.length_set] at q2); (try simp only [List.length_set]); omega)) HistOk.z ?_
          refine JR.know (Know.rws 5 rfl) fun hl49 => ?_
          refine JR.qt rfl (SubM.cons 4 rfl (SubM.nil)) (SubL.nil) (Y.loadRaw 0 rfl rfl hl49 rfl rfl hc29) HistOk.z ?_
          refine JR.qt rfl (SubM.cons 0 rfl (SubM.nil)) (SubL.nil) (Y.loadBAll 0 rfl rfl rfl rfl) HistOk.z ?_
          refine JR.loud rfl rfl rfl (Loud.buildS (e := EI64I64p) ([((p3, p4))]) [(0, Value.agg #[Value.int .i64 (p3), Value.int .i64 (p4)])] rfl rfl rfl rfl (fill_1_2 (Value.int .i64 (p3)) (Value.int .i64 (p4))) rfl rfl rfl) rfl (fun u50 => (BsOk.h (SubM.cons 1 rfl (SubM.nil)) (SubL.nil) (BsOk.h (SubM.cons 5 rfl (SubM.nil)) (SubL.nil) (BsOk.h (SubM.cons 5 rfl (SubM.nil)) (SubL.nil) (BsOk.h (SubM.nil) (SubL.nil) (BsOk.h (SubM.cons 3 rfl (SubM.nil)) (SubL.nil) (BsOk.h (SubM.nil) (SubL.nil) (BsOk.b rfl (BsOk.h (SubM.cons 5 rfl (SubM.nil)) (SubL.nil) (BsOk.h (SubM.cons 5 rfl (SubM.nil)) (SubL.nil) (BsOk.h (SubM.nil) (SubL.nil) (BsOk.h (SubM.cons 3 rfl (SubM.nil)) (SubL.nil) (BsOk.h (SubM.nil) (SubL.nil) (BsOk.h (SubM.nil) (SubL.nil) (BsOk.h (SubM.cons 3 rfl (SubM.nil)) (SubL.nil) (BsOk.h (SubM.nil) (SubL.nil) (BsOk.h (SubM.nil) (SubL.nil) (BsOk.h (SubM.cons 3 rfl (SubM.nil)) (SubL.nil) (BsOk.h (SubM.nil) (SubL.nil) BsOk.z))))))))))))))))))) fun u50 => ?_
          refine JR.loud rfl rfl rfl (Loud.appendRowL 6 FI64I64p rfl rfl rfl (Lent.ar (Lent.res 0 rfl) FI64I64p) rfl rfl rfl rfl hc26 hc34 rfl) rfl (fun u51 => (BsOk.h (SubM.cons 1 rfl (SubM.nil)) (SubL.nil) (BsOk.h (SubM.cons 5 rfl (SubM.nil)) (SubL.nil) (BsOk.h (SubM.cons 5 rfl (SubM.nil)) (SubL.nil) (BsOk.h (SubM.nil) (SubL.nil) (BsOk.h (SubM.cons 3 rfl (SubM.nil)) (SubL.nil) (BsOk.h (SubM.nil) (SubL.nil) (BsOk.b rfl (BsOk.b rfl (BsOk.b rfl (BsOk.b rfl (BsOk.b rfl (BsOk.b rfl (BsOk.h (SubM.nil) (SubL.nil) (BsOk.h (SubM.cons 3 rfl (SubM.nil)) (SubL.nil) (BsOk.h (SubM.nil) (SubL.nil) (BsOk.h (SubM.nil) (SubL.nil) (BsOk.h (SubM.cons 3 rfl (SubM.nil)) (SubL.nil) (BsOk.h (SubM.nil) (SubL.nil) BsOk.z))))))))))))))))))) fun u51 => ?_
          refine JR.loud rfl rfl rfl (Loud.buildS (e := EI64I64p) ([((p2, p4))]) [(0, Value.agg #[Value.int .i64 (p2), Value.int .i64 (p4)])] rfl rfl rfl rfl (fill_1_2 (Value.int .i64 (p2)) (Value.int .i64 (p4))) rfl rfl rfl) rfl (fun u52 => (BsOk.b rfl (BsOk.h (SubM.cons 6 rfl (SubM.nil)) (SubL.nil) (BsOk.h (SubM.cons 6 rfl (SubM.nil)) (SubL.nil) (BsOk.h (SubM.nil) (SubL.nil) (BsOk.h (SubM.cons 4 rfl (SubM.nil)) (SubL.nil) (BsOk.h (SubM.nil) (SubL.nil) (BsOk.h (SubM.cons 3 rfl (SubM.nil)) (SubL.nil) (BsOk.h (SubM.cons 6 rfl (SubM.nil)) (SubL.nil) (BsOk.h (SubM.cons 6 rfl (SubM.nil)) (SubL.nil) (BsOk.h (SubM.nil) (SubL.nil) (BsOk.h (SubM.cons 4 rfl (SubM.nil)) (SubL.nil) (BsOk.h (SubM.nil) (SubL.nil) (BsOk.h (SubM.nil) (SubL.nil) (BsOk.h (SubM.cons 4 rfl (SubM.nil)) (SubL.nil) (BsOk.h (SubM.nil) (SubL.nil) (BsOk.h (SubM.nil) (SubL.nil) (BsOk.h (SubM.cons 4 rfl (SubM.nil)) (SubL.nil) (BsOk.h (SubM.nil) (SubL.nil) BsOk.z))))))))))))))))))) fun u52 => ?_
          refine JR.loud rfl rfl rfl (Loud.appendRow2 (j := p2) 7 FI64I64p rfl rfl rfl (Lent.ar (Lent.res 0 rfl) FI64I64p) rfl rfl rfl rfl hc29 hc37 rfl hc38) rfl (fun u53 => (BsOk.b rfl (BsOk.b rfl (BsOk.b rfl (BsOk.b rfl (BsOk.b rfl (BsOk.b rfl (BsOk.b rfl (BsOk.b rfl (BsOk.b rfl (BsOk.b rfl (BsOk.b rfl (BsOk.b rfl (BsOk.h (SubM.nil) (SubL.nil) (BsOk.h (SubM.cons 4 rfl (SubM.nil)) (SubL.nil) (BsOk.h (SubM.nil) (SubL.nil) (BsOk.h (SubM.nil) (SubL.nil) (BsOk.h (SubM.cons 4 rfl (SubM.nil)) (SubL.nil) (BsOk.h (SubM.nil) (SubL.nil) BsOk.z))))))))))))))))))) fun u53 => ?_
          refine JR.know (Know.rws 7 rfl) fun hl54 => ?_
          refine JR.qt rfl (SubM.cons 6 rfl (SubM.nil)) (SubL.nil) (Y.indexA 0 rfl rfl rfl rfl rfl hc39.1 (by have q1 := hc39.2; have q2 := hl54; (try simp only [List.length_set] at q1); (try simp only [List.length_set] at q2); (try simp only [List.length_set]); omega)) (HistOk.b rfl (HistOk.b rfl (HistOk.b rfl (HistOk.b rfl HistOk.z)))) ?_
          refine JR.know (Know.oneRow2 (k := p2) (j := p3) 7 rfl (by omega) ⟨hc39.1, by first | exact hc39.2 | simpa using hc39.2⟩) fun ho55 => ?_
          refine JR.loud0 rfl rfl rfl (Loud.storeRow 6 7 ⟨hc39.1, by first | exact hc39.2 | simpa using hc39.2⟩ rfl rfl rfl rfl (by simp) ho55 rfl) (fun x56 => (BsOk.b rfl (BsOk.b rfl (BsOk.b rfl (BsOk.b rfl (BsOk.b rfl (BsOk.b rfl (BsOk.b rfl (BsOk.b rfl (BsOk.b rfl (BsOk.b rfl (BsOk.b rfl (BsOk.b rfl (BsOk.b rfl (BsOk.h (SubM.nil) (SubL.nil) (BsOk.h (SubM.cons 4 rfl (SubM.nil)) (SubL.nil) (BsOk.h (SubM.nil) (SubL.nil) (BsOk.b rfl (BsOk.b rfl (BsOk.b rfl BsOk.z)))))))))))))))))))) fun x56 => ?_
          refine JR.tailD 24 rfl rfl ?_
          refine J.know (Know.rws 7 rfl) fun hl57 => ?_
          refine J.quiet (Y.indexA 6 rfl rfl rfl rfl rfl hc43.1 (by have q1 := hc43.2; have q2 := hl57; (try simp only [List.length_set] at q1); (try simp only [List.length_set] at q2); (try simp only [List.length_set]); omega)) rfl ?_
          refine J.know (Know.oneRow 7 (k := p3) rfl ⟨hc43.1, by first | exact hc43.2 | simpa using hc43.2⟩) fun ho58 => ?_
          refine J.storeRow 6 7 ⟨hc43.1, by first | exact hc43.2 | simpa using hc43.2⟩ rfl rfl rfl rfl rfl (by simp) ho58 rfl ?_
          refine J.done ?_
          obtain rfl := Option.some.inj h
          exact J.retG0 (List.set (List.set w5 (Int.toNat p2) u51) (Int.toNat p3) u53) rfl rfl .normal (.inr rfl) (SubM.cons 6 rfl (SubM.cons 6 rfl (SubM.nil))) LentAll.nil
        · refine JR.qt rfl (SubM.nil) (SubL.nil) (Y.fieldB rfl rfl rfl rfl rfl) HistOk.z ?_
          refine JR.qt rfl (SubM.cons 2 rfl (SubM.nil)) (SubL.nil) (Y.loadB 0 rfl rfl rfl rfl rfl) HistOk.z ?_
          refine JR.qt rfl (SubM.nil) (SubL.nil) (Y.move rfl) HistOk.z ?_
          refine JR.qt rfl (SubM.nil) (SubL.nil) (Y.fieldB rfl rfl rfl rfl rfl) HistOk.z ?_
          refine JR.qt rfl (SubM.cons 2 rfl (SubM.nil)) (SubL.nil) (Y.loadB 0 rfl rfl rfl rfl rfl) HistOk.z ?_
          refine JR.qt rfl (SubM.nil) (SubL.nil) (Y.move rfl) HistOk.z ?_
          refine JR.qt rfl (SubM.nil) (SubL.nil) (Y.fieldB rfl rfl rfl rfl rfl) HistOk.z ?_
          refine JR.qt rfl (SubM.cons 2 rfl (SubM.nil)) (SubL.nil) (Y.loadB 0 rfl rfl rfl rfl rfl) HistOk.z ?_
          refine JR.qt rfl (SubM.nil) (SubL.nil) (Y.move rfl) HistOk.z ?_
          refine JR.know (Know.rws 5 rfl) fun hl59 => ?_
          refine JR.qt rfl (SubM.cons 4 rfl (SubM.nil)) (SubL.nil) (Y.indexA 0 rfl rfl rfl rfl rfl hc26.1 (by have q1 := hc26.2; have q2 := hl59; (try simp only [List.length_set] at q1); (try simp only [List.length_set] at q2); (try simp only [List.length_set]); omega)) HistOk.z ?_
          refine JR.know (Know.rws 5 rfl) fun hl60 => ?_
          refine JR.qt rfl (SubM.cons 4 rfl (SubM.nil)) (SubL.nil) (Y.loadRaw 0 rfl rfl hl60 rfl rfl hc26) HistOk.z ?_
          refine JR.qt rfl (SubM.cons 1 rfl (SubM.nil)) (SubL.nil) (Y.loadBAll 0 rfl rfl rfl rfl) HistOk.z ?_
          refine JR.qt rfl (SubM.nil) (SubL.nil) (Y.fieldB rfl rfl rfl rfl rfl) HistOk.z ?_
          refine JR.qt rfl (SubM.cons 2 rfl (SubM.nil)) (SubL.nil) (Y.loadB 0 rfl rfl rfl rfl rfl) HistOk.z ?_
          refine JR.qt rfl (SubM.nil) (SubL.nil) (Y.move rfl) HistOk.z ?_
          refine JR.know (Know.rws 5 rfl) fun hl61 => ?_
          refine JR.qt rfl (SubM.cons 4 rfl (SubM.nil)) (SubL.nil) (Y.indexA 0 rfl rfl rfl rfl rfl hc29.1 (by have q1 := hc29.2; have q2 := hl61; (try simp only [List.length_set] at q1); (try simp only [List.length_set] at q2); (try simp only [List.length_set]); omega)) HistOk.z ?_
          refine JR.know (Know.rws 5 rfl) fun hl62 => ?_
          refine JR.qt rfl (SubM.cons 4 rfl (SubM.nil)) (SubL.nil) (Y.loadRaw 0 rfl rfl hl62 rfl rfl hc29) HistOk.z ?_
          refine JR.qt rfl (SubM.cons 0 rfl (SubM.nil)) (SubL.nil) (Y.loadBAll 0 rfl rfl rfl rfl) HistOk.z ?_
          refine JR.loud rfl rfl rfl (Loud.buildS (e := EI64I64p) ([((p3, p4))]) [(0, Value.agg #[Value.int .i64 (p3), Value.int .i64 (p4)])] rfl rfl rfl rfl (fill_1_2 (Value.int .i64 (p3)) (Value.int .i64 (p4))) rfl rfl rfl) rfl (fun u63 => (BsOk.h (SubM.cons 1 rfl (SubM.nil)) (SubL.nil) (BsOk.h (SubM.cons 5 rfl (SubM.nil)) (SubL.nil) (BsOk.h (SubM.cons 5 rfl (SubM.nil)) (SubL.nil) (BsOk.h (SubM.nil) (SubL.nil) (BsOk.h (SubM.cons 3 rfl (SubM.nil)) (SubL.nil) (BsOk.h (SubM.nil) (SubL.nil) (BsOk.b rfl (BsOk.h (SubM.cons 5 rfl (SubM.nil)) (SubL.nil) (BsOk.h (SubM.cons 5 rfl (SubM.nil)) (SubL.nil) (BsOk.h (SubM.nil) (SubL.nil) (BsOk.h (SubM.cons 3 rfl (SubM.nil)) (SubL.nil) (BsOk.h (SubM.nil) (SubL.nil) (BsOk.h (SubM.nil) (SubL.nil) (BsOk.h (SubM.cons 3 rfl (SubM.nil)) (SubL.nil) (BsOk.h (SubM.nil) (SubL.nil) (BsOk.h (SubM.nil) (SubL.nil) (BsOk.h (SubM.cons 3 rfl (SubM.nil)) (SubL.nil) (BsOk.h (SubM.nil) (SubL.nil) BsOk.z))))))))))))))))))) fun u63 => ?_
          refine JR.loud rfl rfl rfl (Loud.buildS (e := EI64I64p) ([((p2, p4))]) [(0, Value.agg #[Value.int .i64 (p2), Value.int .i64 (p4)])] rfl rfl rfl rfl (fill_1_2 (Value.int .i64 (p2)) (Value.int .i64 (p4))) rfl rfl rfl) rfl (fun u64 => (BsOk.b rfl (BsOk.h (SubM.cons 6 rfl (SubM.nil)) (SubL.nil) (BsOk.h (SubM.cons 6 rfl (SubM.nil)) (SubL.nil) (BsOk.h (SubM.nil) (SubL.nil) (BsOk.h (SubM.cons 4 rfl (SubM.nil)) (SubL.nil) (BsOk.h (SubM.nil) (SubL.nil) (BsOk.h (SubM.cons 3 rfl (SubM.nil)) (SubL.nil) (BsOk.h (SubM.cons 6 rfl (SubM.nil)) (SubL.nil) (BsOk.h (SubM.cons 6 rfl (SubM.nil)) (SubL.nil) (BsOk.h (SubM.nil) (SubL.nil) (BsOk.h (SubM.cons 4 rfl (SubM.nil)) (SubL.nil) (BsOk.h (SubM.nil) (SubL.nil) (BsOk.h (SubM.nil) (SubL.nil) (BsOk.h (SubM.cons 4 rfl (SubM.nil)) (SubL.nil) (BsOk.h (SubM.nil) (SubL.nil) (BsOk.h (SubM.nil) (SubL.nil) (BsOk.h (SubM.cons 4 rfl (SubM.nil)) (SubL.nil) (BsOk.h (SubM.nil) (SubL.nil) BsOk.z))))))))))))))))))) fun u64 => ?_
          refine JR.loud rfl rfl rfl (Loud.appendRowL 7 FI64I64p rfl rfl rfl (Lent.ar (Lent.res 1 rfl) FI64I64p) rfl rfl rfl rfl hc26 hc34 rfl) rfl (fun u65 => (BsOk.h (SubM.cons 2 rfl (SubM.nil)) (SubL.nil) (BsOk.h (SubM.cons 6 rfl (SubM.nil)) (SubL.nil) (BsOk.h (SubM.cons 6 rfl (SubM.nil)) (SubL.nil) (BsOk.h (SubM.nil) (SubL.nil) (BsOk.h (SubM.cons 4 rfl (SubM.nil)) (SubL.nil) (BsOk.h (SubM.nil) (SubL.nil) (BsOk.b rfl (BsOk.b rfl (BsOk.b rfl (BsOk.b rfl (BsOk.b rfl (BsOk.b rfl (BsOk.h (SubM.nil) (SubL.nil) (BsOk.h (SubM.cons 4 rfl (SubM.nil)) (SubL.nil) (BsOk.h (SubM.nil) (SubL.nil) (BsOk.h (SubM.nil) (SubL.nil) (BsOk.h (SubM.cons 4 rfl (SubM.nil)) (SubL.nil) (BsOk.h (SubM.nil) (SubL.nil) BsOk.z))))))))))))))))))) fun u65 => ?_
          refine JR.loud rfl rfl rfl (Loud.appendRow2 (j := p2) 7 FI64I64p rfl rfl rfl (Lent.ar (Lent.res 0 rfl) FI64I64p) rfl rfl rfl rfl hc29 hc37 rfl hc38) rfl (fun u66 => (BsOk.b rfl (BsOk.b rfl (BsOk.b rfl (BsOk.b rfl (BsOk.b rfl (BsOk.b rfl (BsOk.b rfl (BsOk.b rfl (BsOk.b rfl (BsOk.b rfl (BsOk.b rfl (BsOk.b rfl (BsOk.h (SubM.nil) (SubL.nil) (BsOk.h (SubM.cons 4 rfl (SubM.nil)) (SubL.nil) (BsOk.h (SubM.nil) (SubL.nil) (BsOk.h (SubM.nil) (SubL.nil) (BsOk.h (SubM.cons 4 rfl (SubM.nil)) (SubL.nil) (BsOk.h (SubM.nil) (SubL.nil) BsOk.z))))))))))))))))))) fun u66 => ?_
          refine JR.know (Know.rws 7 rfl) fun hl67 => ?_
          refine JR.qt rfl (SubM.cons 6 rfl (SubM.nil)) (SubL.nil) (Y.indexA 0 rfl rfl rfl rfl rfl hc39.1 (by have q1 := hc39.2; have q2 := hl67; (try simp only [List.length_set] at q1); (try simp only [List.length_set] at q2); (try simp only [List.length_set]); omega)) (HistOk.b rfl (HistOk.b rfl (HistOk.b rfl (HistOk.b rfl HistOk.z)))) ?_
          refine JR.know (Know.oneRow2 (k := p2) (j := p3) 7 rfl (by omega) ⟨hc39.1, by first | exact hc39.2 | simpa using hc39.2⟩) fun ho68 => ?_
          refine JR.loud0 rfl rfl rfl (Loud.storeRow 6 7 ⟨hc39.1, by first | exact hc39.2 | simpa using hc39.2⟩ rfl rfl rfl rfl (by simp) ho68 rfl) (fun x69 => (BsOk.b rfl (BsOk.b rfl (BsOk.b rfl (BsOk.b rfl (BsOk.b rfl (BsOk.b rfl (BsOk.b rfl (BsOk.b rfl (BsOk.b rfl (BsOk.b rfl (BsOk.b rfl (BsOk.b rfl (BsOk.b rfl (BsOk.h (SubM.nil) (SubL.nil) (BsOk.h (SubM.cons 4 rfl (SubM.nil)) (SubL.nil) (BsOk.h (SubM.nil) (SubL.nil) (BsOk.b rfl (BsOk.b rfl (BsOk.b rfl BsOk.z)))))))))))))))))))) fun x69 => ?_
          refine JR.tailD 24 rfl rfl ?_
          refine J.know (Know.rws 7 rfl) fun hl70 => ?_
          refine J.quiet (Y.indexA 6 rfl rfl rfl rfl rfl hc43.1 (by have q1 := hc43.2; have q2 := hl70; (try simp only [List.length_set] at q1); (try simp only [List.length_set] at q2); (try simp only [List.length_set]); omega)) rfl ?_
          refine J.know (Know.oneRow 7 (k := p3) rfl ⟨hc43.1, by first | exact hc43.2 | simpa using hc43.2⟩) fun ho71 => ?_
          refine J.storeRow 6 7 ⟨hc43.1, by first | exact hc43.2 | simpa using hc43.2⟩ rfl rfl rfl rfl rfl (by simp) ho71 rfl ?_
          refine J.done ?_
          obtain rfl := Option.some.inj h
          exact J.retG0 (List.set (List.set w5 (Int.toNat p2) u65) (Int.toNat p3) u66) rfl rfl .normal (.inr rfl) (SubM.cons 6 rfl (SubM.cons 6 rfl (SubM.nil))) LentAll.nil
        · refine JR.qt rfl (SubM.nil) (SubL.nil) (Y.fieldB rfl rfl rfl rfl rfl) HistOk.z ?_
          refine JR.qt rfl (SubM.cons 2 rfl (SubM.nil)) (SubL.nil) (Y.loadB 0 rfl rfl rfl rfl rfl) HistOk.z ?_
          refine JR.qt rfl (SubM.nil) (SubL.nil) (Y.move rfl) HistOk.z ?_
          refine JR.qt rfl (SubM.nil) (SubL.nil) (Y.fieldB rfl rfl rfl rfl rfl) HistOk.z ?_
          refine JR.qt rfl (SubM.cons 2 rfl (SubM.nil)) (SubL.nil) (Y.loadB 0 rfl rfl rfl rfl rfl) HistOk.z ?_
          refine JR.qt rfl (SubM.nil) (SubL.nil) (Y.move rfl) HistOk.z ?_
          refine JR.qt rfl (SubM.nil) (SubL.nil) (Y.fieldB rfl rfl rfl rfl rfl) HistOk.z ?_
          refine JR.qt rfl (SubM.cons 2 rfl (SubM.nil)) (SubL.nil) (Y.loadB 0 rfl rfl rfl rfl rfl) HistOk.z ?_
          refine JR.qt rfl (SubM.nil) (SubL.nil) (Y.move rfl) HistOk.z ?_
          refine JR.know (Know.rws 5 rfl) fun hl72 => ?_
          refine JR.qt rfl (SubM.cons 4 rfl (SubM.nil)) (SubL.nil) (Y.indexA 0 rfl rfl rfl rfl rfl hc26.1 (by have q1 := hc26.2; have q2 := hl72; (try simp only [List.length_set] at q1); (try simp only [List.length_set] at q2); (try simp only [List.length_set]); omega)) HistOk.z ?_
          refine JR.know (Know.rws 5 rfl) fun hl73 => ?_
          refine JR.qt rfl (SubM.cons 4 rfl (SubM.nil)) (SubL.nil) (Y.loadRaw 0 rfl rfl hl73 rfl rfl hc26) HistOk.z ?_
          refine JR.qt rfl (SubM.cons 1 rfl (SubM.nil)) (SubL.nil) (Y.loadBAll 0 rfl rfl rfl rfl) HistOk.z ?_
          refine JR.qt rfl (SubM.nil) (SubL.nil) (Y.fieldB rfl rfl rfl rfl rfl) HistOk.z ?_
          refine JR.qt rfl (SubM.cons 2 rfl (SubM.nil)) (SubL.nil) (Y.loadB 0 rfl rfl rfl rfl rfl) HistOk.z ?_
          refine JR.qt rfl (SubM.nil) (SubL.nil) (Y.move rfl) HistOk.z ?_
          refine JR.know (Know.rws 5 rfl) fun hl74 => ?_
          refine JR.qt rfl (SubM.cons 4 rfl (SubM.nil)) (SubL.nil) (Y.indexA 0 rfl rfl rfl rfl rfl hc29.1 (by have q1 := hc29.2; have q2 := hl74; (try simp only [List.length_set] at q1); (try simp only [List.length_set] at q2); (try simp only [List.length_set]); omega)) HistOk.z ?_
          refine JR.know (Know.rws 5 rfl) fun hl75 => ?_
          refine JR.qt rfl (SubM.cons 4 rfl (SubM.nil)) (SubL.nil) (Y.loadRaw 0 rfl rfl hl75 rfl rfl hc29) HistOk.z ?_
          refine JR.qt rfl (SubM.cons 0 rfl (SubM.nil)) (SubL.nil) (Y.loadBAll 0 rfl rfl rfl rfl) HistOk.z ?_
          refine JR.loud rfl rfl rfl (Loud.buildS (e := EI64I64p) ([((p2, p4))]) [(0, Value.agg #[Value.int .i64 (p2), Value.int .i64 (p4)])] rfl rfl rfl rfl (fill_1_2 (Value.int .i64 (p2)) (Value.int .i64 (p4))) rfl rfl rfl) rfl (fun u76 => (BsOk.b rfl (BsOk.h (SubM.cons 5 rfl (SubM.nil)) (SubL.nil) (BsOk.h (SubM.cons 5 rfl (SubM.nil)) (SubL.nil) (BsOk.h (SubM.nil) (SubL.nil) (BsOk.h (SubM.cons 3 rfl (SubM.nil)) (SubL.nil) (BsOk.h (SubM.nil) (SubL.nil) (BsOk.h (SubM.cons 2 rfl (SubM.nil)) (SubL.nil) (BsOk.h (SubM.cons 5 rfl (SubM.nil)) (SubL.nil) (BsOk.h (SubM.cons 5 rfl (SubM.nil)) (SubL.nil) (BsOk.h (SubM.nil) (SubL.nil) (BsOk.h (SubM.cons 3 rfl (SubM.nil)) (SubL.nil) (BsOk.h (SubM.nil) (SubL.nil) (BsOk.h (SubM.nil) (SubL.nil) (BsOk.h (SubM.cons 3 rfl (SubM.nil)) (SubL.nil) (BsOk.h (SubM.nil) (SubL.nil) (BsOk.h (SubM.nil) (SubL.nil) (BsOk.h (SubM.cons 3 rfl (SubM.nil)) (SubL.nil) (BsOk.h (SubM.nil) (SubL.nil) BsOk.z))))))))))))))))))) fun u76 => ?_
          refine JR.loud rfl rfl rfl (Loud.buildS (e := EI64I64p) ([((p3, p4))]) [(0, Value.agg #[Value.int .i64 (p3), Value.int .i64 (p4)])] rfl rfl rfl rfl (fill_1_2 (Value.int .i64 (p3)) (Value.int .i64 (p4))) rfl rfl rfl) rfl (fun u77 => (BsOk.h (SubM.cons 2 rfl (SubM.nil)) (SubL.nil) (BsOk.h (SubM.cons 6 rfl (SubM.nil)) (SubL.nil) (BsOk.h (SubM.cons 6 rfl (SubM.nil)) (SubL.nil) (BsOk.h (SubM.nil) (SubL.nil) (BsOk.h (SubM.cons 4 rfl (SubM.nil)) (SubL.nil) (BsOk.h (SubM.nil) (SubL.nil) (BsOk.b rfl (BsOk.h (SubM.cons 6 rfl (SubM.nil)) (SubL.nil) (BsOk.h (SubM.cons 6 rfl (SubM.nil)) (SubL.nil) (BsOk.h (SubM.nil) (SubL.nil) (BsOk.h (SubM.cons 4 rfl (SubM.nil)) (SubL.nil) (BsOk.h (SubM.nil) (SubL.nil) (BsOk.h (SubM.nil) (SubL.nil) (BsOk.h (SubM.cons 4 rfl (SubM.nil)) (SubL.nil) (BsOk.h (SubM.nil) (SubL.nil) (BsOk.h (SubM.nil) (SubL.nil) (BsOk.h (SubM.cons 4 rfl (SubM.nil)) (SubL.nil) (BsOk.h (SubM.nil) (SubL.nil) BsOk.z))))))))))))))))))) fun u77 => ?_
          refine JR.loud rfl rfl rfl (Loud.appendRowL 7 FI64I64p rfl rfl rfl (Lent.ar (Lent.res 0 rfl) FI64I64p) rfl rfl rfl rfl hc26 hc34 rfl) rfl (fun u78 => (BsOk.h (SubM.cons 2 rfl (SubM.nil)) (SubL.nil) (BsOk.h (SubM.cons 6 rfl (SubM.nil)) (SubL.nil) (BsOk.h (SubM.cons 6 rfl (SubM.nil)) (SubL.nil) (BsOk.h (SubM.nil) (SubL.nil) (BsOk.h (SubM.cons 4 rfl (SubM.nil)) (SubL.nil) (BsOk.h (SubM.nil) (SubL.nil) (BsOk.b rfl (BsOk.b rfl (BsOk.b rfl (BsOk.b rfl (BsOk.b rfl (BsOk.b rfl (BsOk.h (SubM.nil) (SubL.nil) (BsOk.h (SubM.cons 4 rfl (SubM.nil)) (SubL.nil) (BsOk.h (SubM.nil) (SubL.nil) (BsOk.h (SubM.nil) (SubL.nil) (BsOk.h (SubM.cons 4 rfl (SubM.nil)) (SubL.nil) (BsOk.h (SubM.nil) (SubL.nil) BsOk.z))))))))))))))))))) fun u78 => ?_
          refine JR.loud rfl rfl rfl (Loud.appendRow2 (j := p2) 7 FI64I64p rfl rfl rfl (Lent.ar (Lent.res 1 rfl) FI64I64p) rfl rfl rfl rfl hc29 hc37 rfl hc38) rfl (fun u79 => (BsOk.b rfl (BsOk.b rfl (BsOk.b rfl (BsOk.b rfl (BsOk.b rfl (BsOk.b rfl (BsOk.b rfl (BsOk.b rfl (BsOk.b rfl (BsOk.b rfl (BsOk.b rfl (BsOk.b rfl (BsOk.h (SubM.nil) (SubL.nil) (BsOk.h (SubM.cons 4 rfl (SubM.nil)) (SubL.nil) (BsOk.h (SubM.nil) (SubL.nil) (BsOk.h (SubM.nil) (SubL.nil) (BsOk.h (SubM.cons 4 rfl (SubM.nil)) (SubL.nil) (BsOk.h (SubM.nil) (SubL.nil) BsOk.z))))))))))))))))))) fun u79 => ?_
          refine JR.know (Know.rws 7 rfl) fun hl80 => ?_
          refine JR.qt rfl (SubM.cons 6 rfl (SubM.nil)) (SubL.nil) (Y.indexA 0 rfl rfl rfl rfl rfl hc39.1 (by have q1 := hc39.2; have q2 := hl80; (try simp only [List.length_set] at q1); (try simp only [List.length_set] at q2); (try simp only [List.length_set]); omega)) (HistOk.b rfl (HistOk.b rfl (HistOk.b rfl (HistOk.b rfl HistOk.z)))) ?_
          refine JR.know (Know.oneRow2 (k := p2) (j := p3) 7 rfl (by omega) ⟨hc39.1, by first | exact hc39.2 | simpa using hc39.2⟩) fun ho81 => ?_
          refine JR.loud0 rfl rfl rfl (Loud.storeRow 6 7 ⟨hc39.1, by first | exact hc39.2 | simpa using hc39.2⟩ rfl rfl rfl rfl (by simp) ho81 rfl) (fun x82 => (BsOk.b rfl (BsOk.b rfl (BsOk.b rfl (BsOk.b rfl (BsOk.b rfl (BsOk.b rfl (BsOk.b rfl (BsOk.b rfl (BsOk.b rfl (BsOk.b rfl (BsOk.b rfl (BsOk.b rfl (BsOk.b rfl (BsOk.h (SubM.nil) (SubL.nil) (BsOk.h (SubM.cons 4 rfl (SubM.nil)) (SubL.nil) (BsOk.h (SubM.nil) (SubL.nil) (BsOk.b rfl (BsOk.b rfl (BsOk.b rfl BsOk.z)))))))))))))))))))) fun x82 => ?_
          refine JR.tailD 24 rfl rfl ?_
          refine J.know (Know.rws 7 rfl) fun hl83 => ?_
          refine J.quiet (Y.indexA 6 rfl rfl rfl rfl rfl hc43.1 (by have q1 := hc43.2; have q2 := hl83; (try simp only [List.length_set] at q1); (try simp only [List.length_set] at q2); (try simp only [List.length_set]); omega)) rfl ?_
          refine J.know (Know.oneRow 7 (k := p3) rfl ⟨hc43.1, by first | exact hc43.2 | simpa using hc43.2⟩) fun ho84 => ?_
          refine J.storeRow 6 7 ⟨hc43.1, by first | exact hc43.2 | simpa using hc43.2⟩ rfl rfl rfl rfl rfl (by simp) ho84 rfl ?_
          refine J.done ?_
          obtain rfl := Option.some.inj h
          exact J.retG0 (List.set (List.set w5 (Int.toNat p2) u78) (Int.toNat p3) u79) rfl rfl .normal (.inr rfl) (SubM.cons 6 rfl (SubM.cons 6 rfl (SubM.nil))) LentAll.nil

end Go.Proofs.Ytmajgimhmfeliaa
end
section
set_option linter.unusedVariables false
set_option linter.unusedSimpArgs false
namespace Go.Proofs.Ytmajgimhmfeliaa
open Go.Sx
set_option linter.unusedVariables false
set_option linter.unusedSimpArgs false
def _world_Net__Tree_k1 (r3 : (List (Int) × (List (List (Int × Int))))) (a11 : (List (List (Int × Int)))) : Option ((List (Int) × (List (List (Int × Int))))) :=
  some ((r3.1, a11))
def _world_Net__Tree_s1 (fuel : Nat) (p0 : Int × List (Int) × List (Int) × List (Int) × Bool × Bool) (r3 : (List (Int) × (List (List (Int × Int))))) (a19 : Int × (List (List (Int × Int)))) (ag18 : (Int × (List (List (Int × Int)))) → Option ((List (Int) × (List (List (Int × Int)))))) : Option ((List (Int) × (List (List (Int × Int))))) :=
  if a19.1 < (List.length a19.2 : Int) then (Option.bind (m_world_at fuel p0.2.1 (wI .i64 (a19.1 - (1 : Int)))) fun r23 => (Option.bind (m_world_Within fuel r23 a19.1) fun r26 => (Option.bind (m_world_at fuel p0.2.2.1 (wI .i64 (a19.1 - (1 : Int)))) fun r29 => (Option.bind (m_world_Within fuel r29 (15 : Int)) fun r32 => (Option.bind (m__world_Net__link fuel ((p0.1, p0.2.1, p0.2.2.1, p0.2.2.2.1, p0.2.2.2.2.1, p0.2.2.2.2.2)) ((r3.1, a19.2)) r26 a19.1 (wI .i64 ((1 : Int) + r32))) fun r35 => (ag18 ((wI .i64 (a19.1 + (1 : Int))), r35))))))) else (_world_Net__Tree_k1 r3 (a19.2))
def m__world_Net__Tree (fuel : Nat) (p0 : Int × List (Int) × List (Int) × List (Int) × Bool × Bool) (p1 : Int) : Option ((List (Int) × (List (List (Int × Int))))) :=
  Option.bind (m__world_Net__nodes fuel ((p0.1, p0.2.1, p0.2.2.1, p0.2.2.2.1, p0.2.2.2.2.1, p0.2.2.2.2.2)) p1) fun r3 => (iter (_world_Net__Tree_s1 fuel p0 r3) fuel ((1 : Int), r3.2))

theorem body27 : HasBody Try.prog 27 := Try.call27

set_option maxHeartbeats 4000000 in
set_option maxRecDepth 20000 in
theorem t__world_Net__Tree (fuel : Nat) {p0 : Int × List (Int) × List (Int) × List (Int) × Bool × Bool} {p1 : Int} (v0 : Value)  (v1 : Value)  (v2 : Value) (r : (List (Int) × (List (List (Int × Int))))) (h : m__world_Net__Tree fuel p0 p1 = some r) :
    Meets Try.prog 27 #[Value.agg #[Value.int .i64 (p0.1), v0, v1, v2, Value.bool (p0.2.2.2.2.1), Value.bool (p0.2.2.2.2.2)], Value.int .i64 (p1)] [Sl RI64 v0 p0.2.1, Sl RI64 v1 p0.2.2.1, Sl RI64 v2 p0.2.2.2.1] (fun x : Value × Value × List Value => Value.agg #[x.1, x.2.1]) (fun x l => Ar EI64 x.1 r.1 :: Ar Enc.raw x.2.1 x.2.2 :: Rws EI64I64p x.2.2 r.2 :: l) (fun _ l => l) := by
  refine Meets.of (vs := [Value.agg #[Value.int .i64 (p0.1), v0, v1, v2, Value.bool (p0.2.2.2.2.1), Value.bool (p0.2.2.2.2.2)], Value.int .i64 (p1)]) Try.func27 rfl Try.ntmps27 rfl fun c => ?_
  unfold m__world_Net__Tree at h
  refine J.seq ?_
  refine J.region ?_
  refine J.loud (Loud.box (cs := [Value.int .i64 (p0.1), v0, v1, v2, Value.bool (p0.2.2.2.2.1), Value.bool (p0.2.2.2.2.2)]) rfl rfl) rfl fun b1 => ?_
  refine J.loud (Loud.alloc (cs := [Value.slice none 0 0, Value.slice none 0 0]) rfl rfl) rfl fun b2 => ?_
  refine J.done ?_
  refine J.thenN ?_
  refine J.seq ?_
  refine J.region ?_
  refine J.quiet (Y.loadBAll 1 rfl rfl rfl rfl) rfl ?_
  refine J.quiet (Y.move rfl) rfl ?_
  replace h := bnd h; obtain ⟨r3, hr4, h⟩ := h
  refine J.loud (Loud.callL body44 (t__world_Net__nodes fuel v0 v1 v2 r3 hr4) rfl (LentAll.cons (Lent.fact 0 rfl) (LentAll.cons (Lent.fact 1 rfl) (LentAll.cons (Lent.fact 2 rfl) (LentAll.nil)))) (fun _ _ => rfl)) rfl fun x5 => ?_
  refine J.loud (Loud.alloc (cs := [Value.slice none 0 0, Value.slice none 0 0]) rfl rfl) rfl fun b6 => ?_
  refine J.know (Know.one ((Lent.ar (Lent.res 1 rfl) FI64))) fun ho7 => ?_
  refine J.know (Know.one (Lent.sl (Lent.rows (i := 2) (j := 3) rfl rfl FI64I64p))) fun ho8 => ?_
  refine J.storeAll 0 (vs := [x5.1, x5.2.1]) rfl rfl (all1 ho7 (all1 ho8 rfl)) rfl rfl rfl ?_
  refine J.done ?_
  refine J.thenN ?_
  refine J.seq ?_
  refine J.midI (A := (List (List (Int × Int)))) (B := List Value) (fun a11 => _world_Net__Tree_k1 r3 a11 = some r) (fun a11 b12 => [(4, Value.pointer (some ⟨b2, 0, none⟩)), (5, Value.pointer (some ⟨b6, 0, none⟩))]) (fun a11 b12 => [Blk b6 [x5.1, x5.2.1] 29, Ar EI64 x5.1 r3.1, Ar Enc.raw x5.2.1 b12, Rws EI64I64p b12 a11, Blk b2 [Value.slice none 0 0, Value.slice none 0 0] 29]) (fun a11 b12 => [Sl RI64 v0 p0.2.1, Sl RI64 v1 p0.2.2.1, Sl RI64 v2 p0.2.2.2.1]) ?_ ?_
  · refine J.seq ?_
    refine J.region ?_
    refine J.quiet (Y.assign rfl) rfl ?_
    refine J.done ?_
    refine J.thenN ?_
    refine J.block ?_
    refine J.loopI (A := Int × (List (List (Int × Int)))) (B := List Value) (_world_Net__Tree_s1 fuel p0 r3) (fun a19 b20 => [(2, Value.pointer (some ⟨b1, 0, none⟩)), (4, Value.pointer (some ⟨b2, 0, none⟩)), (5, Value.pointer (some ⟨b6, 0, none⟩)), (6, Value.int .i64 (a19.1))]) (fun a19 b20 => [Blk b6 [x5.1, x5.2.1] 29, Ar EI64 x5.1 r3.1, Ar Enc.raw x5.2.1 b20, Rws EI64I64p b20 a19.2, Blk b2 [Value.slice none 0 0, Value.slice none 0 0] 29, Blk b1 [Value.int .i64 (p0.1), v0, v1, v2, Value.bool (p0.2.2.2.2.1), Value.bool (p0.2.2.2.2.2)] 24]) (fun a19 b20 => [Sl RI64 v0 p0.2.1, Sl RI64 v1 p0.2.2.1, Sl RI64 v2 p0.2.2.2.1]) ((1 : Int), r3.2) (x5.2.2) h (by repeat (first | exact SubF.nil | refine SubF.cons rfl ?_)) (SubM.refl _) (LentAll.refl _ _) ?_
    clear h
    intro k21 a19 b20 h
    unfold _world_Net__Tree_s1 at h
    refine J.seq ?_
    refine J.seq ?_
    refine J.region ?_
    refine J.quiet (Y.move rfl) rfl ?_
    refine J.quiet (Y.fieldB rfl rfl rfl rfl rfl) rfl ?_
    refine J.quiet (Y.loadB 0 rfl rfl rfl rfl rfl) rfl ?_
    refine J.quiet (Y.lenN rfl (Lent.rows (i := 2) (j := 3) rfl rfl FI64I64p) rfl) rfl ?_
    refine J.quiet (Y.lss rfl rfl) rfl ?_
    refine J.done ?_
    refine J.thenN ?_
    refine J.condD (by exact rfl) (fun hp22 => ?_) (fun hp22 => ?_)
    · replace h := ifP hp22 h
      refine J.skip ?_
      refine J.thenN ?_
      refine J.seq ?_
      refine J.block ?_
      refine JR.start [0, 0, 0, 4, 0, 16, 60, 0, 252, 0, 0, 1024, 0, 4096, 15868, 32252, 65020, 131071] 17 mixedOrders (by decide +kernel) ?_
      refine JR.open (by exact rfl) ?_
      refine JR.qt rfl (SubM.cons 5 rfl (SubM.nil)) (SubL.nil) (Y.loadBAll 0 rfl rfl rfl rfl) HistOk.z ?_
      refine JR.qt rfl (SubM.cons 0 rfl (SubM.nil)) (SubL.nil) (Y.loadBAll 0 rfl rfl rfl rfl) HistOk.z ?_
      refine JR.qt rfl (SubM.nil) (SubL.nil) (Y.fieldB rfl rfl rfl rfl rfl) HistOk.z ?_
      refine JR.qt rfl (SubM.cons 5 rfl (SubM.nil)) (SubL.nil) (Y.loadB 0 rfl rfl rfl rfl rfl) HistOk.z ?_
      refine JR.qt rfl (SubM.nil) (SubL.nil) (Y.move rfl) HistOk.z ?_
      refine JR.qt rfl (SubM.nil) (SubL.nil) (Y.subW rfl rfl) HistOk.z ?_
      replace h := bnd h; obtain ⟨r23, hr24, h⟩ := h
      refine JR.loud rfl rfl rfl (Loud.callL body52 (t_world_at fuel v0 r23 hr24) rfl (LentAll.cons (Lent.fact 0 rfl) (LentAll.nil)) (fun _ _ => rfl)) rfl (fun x25 => (BsOk.b rfl (BsOk.b rfl (BsOk.b rfl (BsOk.b rfl (BsOk.h (SubM.cons 0 rfl (SubM.nil)) (SubL.nil) (BsOk.h (SubM.cons 5 rfl (SubM.nil)) (SubL.nil) BsOk.z))))))) fun x25 => ?_
      refine JR.qt rfl (SubM.nil) (SubL.nil) (Y.move rfl) (HistOk.h (SubM.nil) (SubL.nil) HistOk.z) ?_
      replace h := bnd h; obtain ⟨r26, hr27, h⟩ := h
      refine JR.loud rfl rfl rfl (Loud.callL body14 (t_world_Within fuel  r26 hr27) rfl (LentAll.nil) (fun _ _ => rfl)) rfl (fun x28 => (BsOk.b rfl (BsOk.b rfl (BsOk.b rfl (BsOk.b rfl (BsOk.b rfl (BsOk.h (SubM.cons 0 rfl (SubM.nil)) (SubL.nil) (BsOk.h (SubM.cons 5 rfl (SubM.nil)) (SubL.nil) BsOk.z)))))))) fun x28 => ?_
      refine JR.qt rfl (SubM.nil) (SubL.nil) (Y.move rfl) (HistOk.h (SubM.nil) (SubL.nil) (HistOk.h (SubM.nil) (SubL.nil) HistOk.z)) ?_
      refine JR.qt rfl (SubM.nil) (SubL.nil) (Y.fieldB rfl rfl rfl rfl rfl) (HistOk.h (SubM.nil) (SubL.nil) (HistOk.h (SubM.nil) (SubL.nil) HistOk.z)) ?_
      refine JR.qt rfl (SubM.cons 5 rfl (SubM.nil)) (SubL.nil) (Y.loadB 0 rfl rfl rfl rfl rfl) (HistOk.h (SubM.cons 5 rfl (SubM.nil)) (SubL.nil) (HistOk.h (SubM.cons 5 rfl (SubM.nil)) (SubL.nil) HistOk.z)) ?_
      refine JR.qt rfl (SubM.nil) (SubL.nil) (Y.move rfl) (HistOk.h (SubM.nil) (SubL.nil) (HistOk.h (SubM.nil) (SubL.nil) HistOk.z)) ?_
      refine JR.qt rfl (SubM.nil) (SubL.nil) (Y.subW rfl rfl) (HistOk.h (SubM.nil) (SubL.nil) (HistOk.h (SubM.nil) (SubL.nil) HistOk.z)) ?_
      replace h := bnd h; obtain ⟨r29, hr30, h⟩ := h
      refine JR.loud rfl rfl rfl (Loud.callL body52 (t_world_at fuel v1 r29 hr30) rfl (LentAll.cons (Lent.fact 1 rfl) (LentAll.nil)) (fun _ _ => rfl)) rfl (fun x31 => (BsOk.b rfl (BsOk.b rfl (BsOk.b rfl (BsOk.b rfl (BsOk.h (SubM.nil) (SubL.nil) (BsOk.b rfl (BsOk.b rfl (BsOk.b rfl (BsOk.b rfl (BsOk.b rfl (BsOk.h (SubM.cons 0 rfl (SubM.nil)) (SubL.nil) (BsOk.h (SubM.cons 5 rfl (SubM.nil)) (SubL.nil) BsOk.z))))))))))))) fun x31 => ?_
      replace h := bnd h; obtain ⟨r32, hr33, h⟩ := h
      refine JR.loud rfl rfl rfl (Loud.callL body14 (t_world_Within fuel  r32 hr33) rfl (LentAll.nil) (fun _ _ => rfl)) rfl (fun x34 => (BsOk.b rfl (BsOk.b rfl (BsOk.b rfl (BsOk.b rfl (BsOk.h (SubM.nil) (SubL.nil) (BsOk.b rfl (BsOk.b rfl (BsOk.b rfl (BsOk.b rfl (BsOk.b rfl (BsOk.h (SubM.cons 0 rfl (SubM.nil)) (SubL.nil) (BsOk.h (SubM.cons 5 rfl (SubM.nil)) (SubL.nil) BsOk.z))))))))))))) fun x34 => ?_
      refine JR.qt rfl (SubM.nil) (SubL.nil) (Y.addW rfl rfl) (HistOk.b rfl (HistOk.b rfl (HistOk.b rfl (HistOk.b rfl HistOk.z)))) ?_
      refine JR.tailD 17 rfl rfl ?_
      replace h := bnd h; obtain ⟨r35, hr36, h⟩ := h
      refine J.loud (Loud.callM (Min := [Ar Enc.raw x5.2.1 b20, Rws EI64I64p b20 a19.2]) (Mr := [Blk b6 [x5.1, x5.2.1] 29, Ar EI64 x5.1 r3.1, Blk b2 [Value.slice none 0 0, Value.slice none 0 0] 29, Blk b1 [Value.int .i64 (p0.1), v0, v1, v2, Value.bool (p0.2.2.2.2.1), Value.bool (p0.2.2.2.2.2)] 24]) body51 (t__world_Net__link fuel v0 v1 v2 x5.1 x5.2.1 b20 r35 hr36) rfl (SubM.cons 2 rfl (SubM.cons 2 rfl (SubM.cons 0 rfl (SubM.cons 0 rfl (SubM.cons 0 rfl (SubM.cons 0 rfl (SubM.nil))))))) (LentAll.cons (Lent.fact 0 rfl) (LentAll.cons (Lent.fact 1 rfl) (LentAll.cons (Lent.fact 2 rfl) (LentAll.cons (Lent.ar (Lent.res 1 rfl) FI64) (LentAll.nil))))) (fun _ _ => rfl)) rfl fun x37 => ?_
      refine J.done ?_
      refine J.inN ?_
      refine J.thenN ?_
      refine J.region ?_
      refine J.quiet (Y.move rfl) rfl ?_
      refine J.quiet (Y.addW rfl rfl) rfl ?_
      refine J.quiet (Y.assign rfl) rfl ?_
      refine J.done ?_
      refine J.thenN ?_
      exact J.againI ((wI .i64 (a19.1 + (1 : Int))), r35) (x37) h (by repeat (first | exact SubF.nil | refine SubF.cons rfl ?_)) (SubM.cons 2 rfl (SubM.cons 2 rfl (SubM.cons 0 rfl (SubM.cons 0 rfl (SubM.cons 0 rfl (SubM.cons 0 rfl (SubM.nil))))))) (LentAll.refl _ _)
    · replace h := ifN hp22 h
      refine J.exit ?_
      refine J.thenX ?_
      refine J.thenX ?_
      refine J.inX ?_
      refine J.thenN ?_
      exact J.meetI (a19.2) (b20) h (by repeat (first | exact SubF.nil | refine SubF.cons rfl ?_)) (SubM.cons 0 rfl (SubM.cons 0 rfl (SubM.cons 0 rfl (SubM.cons 0 rfl (SubM.cons 0 rfl (SubM.nil)))))) (LentAll.refl _ _)
  · clear h
    intro a11 b12 h
    unfold _world_Net__Tree_k1 at h
    refine J.seq ?_
    refine J.region ?_
    refine J.quiet (Y.loadBAll 0 rfl rfl rfl rfl) rfl ?_
    refine J.know (Know.one ((Lent.ar (Lent.res 1 rfl) FI64))) fun ho13 => ?_
    refine J.know (Know.one (Lent.sl (Lent.rows (i := 2) (j := 3) rfl rfl FI64I64p))) fun ho14 => ?_
    refine J.storeAll 4 (vs := [x5.1, x5.2.1]) rfl rfl (all1 ho13 (all1 ho14 rfl)) rfl rfl rfl ?_
    refine J.done ?_
    refine J.thenN ?_
    refine J.ret ?_
    obtain rfl := Option.some.inj h
    exact J.retG1 (x5.1, x5.2.1, b12) rfl rfl (RV.cell 4 rfl rfl rfl rfl) (SubM.cons 1 rfl (SubM.cons 1 rfl (SubM.cons 1 rfl (SubM.nil)))) LentAll.nil

end Go.Proofs.Ytmajgimhmfeliaa
end
section
set_option linter.unusedVariables false
set_option linter.unusedSimpArgs false
namespace Go.Proofs.Ytmajgimhmfeliaa
open Go.Sx
set_option linter.unusedVariables false
set_option linter.unusedSimpArgs false
def law39_known_k1  (a20 : Bool) : Option (Bool) :=
  some (a20)
def m_law39_known (fuel : Nat)  : Option (Bool) :=
  Option.bind (m__world_Net__Tree fuel (((3 : Int), ([ (0 : Int), (1 : Int)]), ([] : List Int), ([ (0 : Int), (1 : Int), (2 : Int)]), false, false)) (3 : Int)) fun r5 => (Option.bind (m_labels_Prove fuel (1 : Int) ((r5.1, r5.2)) ([ (0 : Int), (-1 : Int), (0 : Int)])) fun r12 => (Option.bind (m_labels_Prove fuel (4 : Int) ((r5.1, r5.2)) ([ (0 : Int), (0 : Int), (-1 : Int)])) fun r16 => (if r12.2 = (0 : Int) then (if r16.2 = (0 : Int) then (Option.bind (m_law39_same fuel r12.1 ([ ((1 : Int), (1 : Int)), ((1 : Int), (0 : Int)), ((1 : Int), (1 : Int))])) fun r25 => (if r25 = true then (Option.bind (m_law39_same fuel r16.1 ([ ((0 : Int), (0 : Int)), ((1 : Int), (0 : Int)), ((0 : Int), (0 : Int))])) fun r30 => (law39_known_k1  (r30))) else (law39_known_k1  (false)))) else (law39_known_k1  (false))) else (law39_known_k1  (false)))))

theorem body13 : HasBody Try.prog 13 := Try.call13

set_option maxHeartbeats 4000000 in
set_option maxRecDepth 20000 in
theorem t_law39_known (fuel : Nat)  (r : Bool) (h : m_law39_known fuel  = some r) :
    Meets Try.prog 13 #[] [] (fun x : Unit => Value.bool (r)) (fun x l => l) (fun _ l => l) := by
  refine Meets.of (vs := []) Try.func13 rfl Try.ntmps13 rfl fun c => ?_
  unfold m_law39_known at h
  refine J.seq ?_
  refine J.region ?_
  refine J.quiet (Y.assign rfl) rfl ?_
  refine J.done ?_
  refine J.thenN ?_
  refine J.seq ?_
  refine J.region ?_
  refine J.loud (Loud.buildS (e := EI64) ([(0 : Int), (1 : Int)]) [(0, Value.int .i64 (0 : Int)), (1, Value.int .i64 (1 : Int))] rfl rfl rfl rfl (fill_2_1 (Value.int .i64 (0 : Int)) (Value.int .i64 (1 : Int)) rfl rfl) rfl rfl rfl) rfl fun u1 => ?_
  refine J.loud (Loud.buildS (e := EI64) ([(0 : Int), (1 : Int), (2 : Int)]) [(0, Value.int .i64 (0 : Int)), (1, Value.int .i64 (1 : Int)), (2, Value.int .i64 (2 : Int))] rfl rfl rfl rfl (fill_3_1 (Value.int .i64 (0 : Int)) (Value.int .i64 (1 : Int)) (Value.int .i64 (2 : Int)) rfl rfl rfl) rfl rfl rfl) rfl fun u2 => ?_
  refine J.know (Know.one ((Lent.ar (Lent.res 1 rfl) FI64))) fun ho3 => ?_
  refine J.know (Know.one ((Lent.ar (Lent.res 0 rfl) FI64))) fun ho4 => ?_
  refine J.quiet (Y.bld3 (r := Value.agg #[Value.int .i64 (3 : Int), u1, Value.slice none 0 0, u2, Value.bool (false), Value.bool (false)]) rfl rfl rfl (by intro w; simp [Instr.build, Instr.fill, cells_intV, cells_boolV, cells_sliceV, cells_ptrV, cells_strV, cells_funcV, cells_agg, one_cells ho3, one_cells ho4])) rfl ?_
  replace h := bnd h; obtain ⟨r5, hr6, h⟩ := h
  refine J.loud (Loud.callL body27 (t__world_Net__Tree fuel u1 (Value.slice none 0 0) u2 r5 hr6) rfl (LentAll.cons (Lent.ar (Lent.res 1 rfl) FI64) (LentAll.cons Lent.nil (LentAll.cons (Lent.ar (Lent.res 0 rfl) FI64) (LentAll.nil)))) (fun _ _ => rfl)) rfl fun x7 => ?_
  refine J.loud (Loud.alloc (cs := [Value.slice none 0 0, Value.slice none 0 0]) rfl rfl) rfl fun b8 => ?_
  refine J.know (Know.one ((Lent.ar (Lent.res 1 rfl) FI64))) fun ho9 => ?_
  refine J.know (Know.one (Lent.sl (Lent.rows (i := 2) (j := 3) rfl rfl FI64I64p))) fun ho10 => ?_
  refine J.storeAll 0 (vs := [x7.1, x7.2.1]) rfl rfl (all1 ho9 (all1 ho10 rfl)) rfl rfl rfl ?_
  refine J.done ?_
  refine J.thenN ?_
  refine J.seq ?_
  refine J.region ?_
  refine J.quiet (Y.loadBAll 0 rfl rfl rfl rfl) rfl ?_
  refine J.loud (Loud.buildS (e := EI64) ([(0 : Int), (-1 : Int), (0 : Int)]) [(0, Value.int .i64 (0 : Int)), (1, Value.int .i64 (-1 : Int)), (2, Value.int .i64 (0 : Int))] rfl rfl rfl rfl (fill_3_1 (Value.int .i64 (0 : Int)) (Value.int .i64 (-1 : Int)) (Value.int .i64 (0 : Int)) rfl rfl rfl) rfl rfl rfl) rfl fun u11 => ?_
  replace h := bnd h; obtain ⟨r12, hr13, h⟩ := h
  refine J.loud (Loud.callL body12 (t_labels_Prove fuel x7.1 x7.2.1 (List.zip x7.2.2 r5.2) u11 r12 hr13) rfl (LentAll.cons (Lent.ar (Lent.res 2 rfl) FI64) (LentAll.cons (Lent.rows (i := 3) (j := 4) rfl rfl FI64I64p) (LentAll.cons (Lent.ar (Lent.res 0 rfl) FI64) (LentAll.nil)))) (fun _ _ => rfl)) rfl fun x14 => ?_
  refine J.quiet (Y.move rfl) rfl ?_
  refine J.quiet (Y.extract rfl rfl) rfl ?_
  refine J.quiet (Y.extract rfl rfl) rfl ?_
  refine J.quiet (Y.assign rfl) rfl ?_
  refine J.quiet (Y.assign rfl) rfl ?_
  refine J.done ?_
  refine J.thenN ?_
  refine J.seq ?_
  refine J.region ?_
  refine J.quiet (Y.loadBAll 2 rfl rfl rfl rfl) rfl ?_
  refine J.loud (Loud.buildS (e := EI64) ([(0 : Int), (0 : Int), (-1 : Int)]) [(0, Value.int .i64 (0 : Int)), (1, Value.int .i64 (0 : Int)), (2, Value.int .i64 (-1 : Int))] rfl rfl rfl rfl (fill_3_1 (Value.int .i64 (0 : Int)) (Value.int .i64 (0 : Int)) (Value.int .i64 (-1 : Int)) rfl rfl rfl) rfl rfl rfl) rfl fun u15 => ?_
  replace h := bnd h; obtain ⟨r16, hr17, h⟩ := h
  refine J.loud (Loud.callL body12 (t_labels_Prove fuel x7.1 x7.2.1 (List.zip x7.2.2 r5.2) u15 r16 hr17) rfl (LentAll.cons (Lent.ar (Lent.res 4 rfl) FI64) (LentAll.cons (Lent.rows (i := 5) (j := 6) rfl rfl FI64I64p) (LentAll.cons (Lent.ar (Lent.res 0 rfl) FI64) (LentAll.nil)))) (fun _ _ => rfl)) rfl fun x18 => ?_
  refine J.quiet (Y.move rfl) rfl ?_
  refine J.quiet (Y.extract rfl rfl) rfl ?_
  refine J.quiet (Y.extract rfl rfl) rfl ?_
  refine J.quiet (Y.assign rfl) rfl ?_
  refine J.quiet (Y.assign rfl) rfl ?_
  refine J.done ?_
  refine J.thenN ?_
  refine J.seq ?_
  refine J.midI (A := Bool) (B := Unit) (fun a20 => law39_known_k1  a20 = some r) (fun a20 b21 => [(0, Value.bool (a20))]) (fun a20 b21 => []) (fun a20 b21 => []) ?_ ?_
  · refine J.region ?_
    refine J.quiet (Y.move rfl) rfl ?_
    refine J.quiet (Y.eql rfl rfl) rfl ?_
    refine J.quiet (Y.move rfl) rfl ?_
    refine J.guardD (by exact rfl) (by exact rfl) (fun hp22 => ?_) (fun hp22 => ?_)
    · replace h := ifP hp22 h
      refine J.guardY rfl (Y.move rfl) rfl ?_
      refine J.guardY rfl (Y.eql rfl rfl) rfl ?_
      refine J.quiet (Y.pickT rfl rfl) rfl ?_
      refine J.quiet (Y.move rfl) rfl ?_
      refine J.guardD (by exact rfl) (by exact rfl) (fun hp23 => ?_) (fun hp23 => ?_)
      · replace h := ifP hp23 h
        refine J.guardY rfl (Y.move rfl) rfl ?_
        refine J.guardY rfl (Y.bld2 (r := Value.agg #[Value.int .i64 (1 : Int), Value.int .i64 (1 : Int)]) rfl rfl (by intro w; simp [Instr.build, Instr.fill, cells_intV, cells_boolV, cells_sliceV, cells_ptrV, cells_strV, cells_funcV, cells_agg])) rfl ?_
        refine J.guardY rfl (Y.bld2 (r := Value.agg #[Value.int .i64 (1 : Int), Value.int .i64 (0 : Int)]) rfl rfl (by intro w; simp [Instr.build, Instr.fill, cells_intV, cells_boolV, cells_sliceV, cells_ptrV, cells_strV, cells_funcV, cells_agg])) rfl ?_
        refine J.guardY rfl (Y.bld2 (r := Value.agg #[Value.int .i64 (1 : Int), Value.int .i64 (1 : Int)]) rfl rfl (by intro w; simp [Instr.build, Instr.fill, cells_intV, cells_boolV, cells_sliceV, cells_ptrV, cells_strV, cells_funcV, cells_agg])) rfl ?_
        refine J.loudG rfl (Loud.buildS (e := EI64I64p) ([(((1 : Int), (1 : Int))), (((1 : Int), (0 : Int))), (((1 : Int), (1 : Int)))]) [(0, Value.agg #[Value.int .i64 (1 : Int), Value.int .i64 (1 : Int)]), (1, Value.agg #[Value.int .i64 (1 : Int), Value.int .i64 (0 : Int)]), (2, Value.agg #[Value.int .i64 (1 : Int), Value.int .i64 (1 : Int)])] rfl rfl rfl rfl (fill_3_2 (Value.int .i64 (1 : Int)) (Value.int .i64 (1 : Int)) (Value.int .i64 (1 : Int)) (Value.int .i64 (0 : Int)) (Value.int .i64 (1 : Int)) (Value.int .i64 (1 : Int))) rfl rfl rfl) rfl fun u24 => ?_
        replace h := bnd h; obtain ⟨r25, hr26, h⟩ := h
        refine J.loudG rfl (Loud.callL body21 (t_law39_same fuel x14 u24 r25 hr26) rfl (LentAll.cons (Lent.ar (Lent.res 3 rfl) FI64I64p) (LentAll.cons (Lent.ar (Lent.res 0 rfl) FI64I64p) (LentAll.nil))) (fun _ _ => rfl)) rfl fun x27 => ?_
        refine J.quiet (Y.pickT rfl rfl) rfl ?_
        refine J.quiet (Y.move rfl) rfl ?_
        refine J.guard (by exact rfl) (by exact rfl) (fun hp28 => ?_) (fun hp28 => ?_)
        · replace h := ifP hp28 h
          refine J.guardY rfl (Y.move rfl) rfl ?_
          refine J.guardY rfl (Y.bld2 (r := Value.agg #[Value.int .i64 (0 : Int), Value.int .i64 (0 : Int)]) rfl rfl (by intro w; simp [Instr.build, Instr.fill, cells_intV, cells_boolV, cells_sliceV, cells_ptrV, cells_strV, cells_funcV, cells_agg])) rfl ?_
          refine J.guardY rfl (Y.bld2 (r := Value.agg #[Value.int .i64 (1 : Int), Value.int .i64 (0 : Int)]) rfl rfl (by intro w; simp [Instr.build, Instr.fill, cells_intV, cells_boolV, cells_sliceV, cells_ptrV, cells_strV, cells_funcV, cells_agg])) rfl ?_
          refine J.guardY rfl (Y.bld2 (r := Value.agg #[Value.int .i64 (0 : Int), Value.int .i64 (0 : Int)]) rfl rfl (by intro w; simp [Instr.build, Instr.fill, cells_intV, cells_boolV, cells_sliceV, cells_ptrV, cells_strV, cells_funcV, cells_agg])) rfl ?_
          refine J.loudG rfl (Loud.buildS (e := EI64I64p) ([(((0 : Int), (0 : Int))), (((1 : Int), (0 : Int))), (((0 : Int), (0 : Int)))]) [(0, Value.agg #[Value.int .i64 (0 : Int), Value.int .i64 (0 : Int)]), (1, Value.agg #[Value.int .i64 (1 : Int), Value.int .i64 (0 : Int)]), (2, Value.agg #[Value.int .i64 (0 : Int), Value.int .i64 (0 : Int)])] rfl rfl rfl rfl (fill_3_2 (Value.int .i64 (0 : Int)) (Value.int .i64 (0 : Int)) (Value.int .i64 (1 : Int)) (Value.int .i64 (0 : Int)) (Value.int .i64 (0 : Int)) (Value.int .i64 (0 : Int))) rfl rfl rfl) rfl fun u29 => ?_
          replace h := bnd h; obtain ⟨r30, hr31, h⟩ := h
          refine J.loudG rfl (Loud.callL body21 (t_law39_same fuel x18 u29 r30 hr31) rfl (LentAll.cons (Lent.ar (Lent.res 2 rfl) FI64I64p) (LentAll.cons (Lent.ar (Lent.res 0 rfl) FI64I64p) (LentAll.nil))) (fun _ _ => rfl)) rfl fun x32 => ?_
          refine J.quiet (Y.pickT rfl rfl) rfl ?_
          refine J.quiet (Y.assign rfl) rfl ?_
          refine J.done ?_
          refine J.thenN ?_
          exact J.meetI (r30) (()) h (by repeat (first | exact SubF.nil | refine SubF.cons rfl ?_)) (SubM.nil) (LentAll.refl _ _)
        · replace h := ifBN hp28 h
          refine J.guardN rfl rfl rfl ?_
          refine J.guardN rfl rfl rfl ?_
          refine J.guardN rfl rfl rfl ?_
          refine J.guardN rfl rfl rfl ?_
          refine J.guardN rfl rfl rfl ?_
          refine J.guardN rfl rfl rfl ?_
          refine J.quiet (Y.pickF rfl rfl) rfl ?_
          refine J.quiet (Y.assign rfl) rfl ?_
          refine J.done ?_
          refine J.thenN ?_
          exact J.meetI (false) (()) h (by repeat (first | exact SubF.nil | refine SubF.cons rfl ?_)) (SubM.nil) (LentAll.refl _ _)
      · replace h := ifN hp23 h
        refine J.guardN rfl rfl rfl ?_
        refine J.guardN rfl rfl rfl ?_
        refine J.guardN rfl rfl rfl ?_
        refine J.guardN rfl rfl rfl ?_
        refine J.guardN rfl rfl rfl ?_
        refine J.guardN rfl rfl rfl ?_
        refine J.quiet (Y.pickF rfl rfl) rfl ?_
        refine J.quiet (Y.move rfl) rfl ?_
        refine J.guardN rfl rfl rfl ?_
        refine J.guardN rfl rfl rfl ?_
        refine J.guardN rfl rfl rfl ?_
        refine J.guardN rfl rfl rfl ?_
        refine J.guardN rfl rfl rfl ?_
        refine J.guardN rfl rfl rfl ?_
        refine J.quiet (Y.pickF rfl rfl) rfl ?_
        refine J.quiet (Y.assign rfl) rfl ?_
        refine J.done ?_
        refine J.thenN ?_
        exact J.meetI (false) (()) h (by repeat (first | exact SubF.nil | refine SubF.cons rfl ?_)) (SubM.nil) (LentAll.refl _ _)
    · replace h := ifN hp22 h
      refine J.guardN rfl rfl rfl ?_
      refine J.guardN rfl rfl rfl ?_
      refine J.quiet (Y.pickF rfl rfl) rfl ?_
      refine J.quiet (Y.move rfl) rfl ?_
      refine J.guardN rfl rfl rfl ?_
      refine J.guardN rfl rfl rfl ?_
      refine J.guardN rfl rfl rfl ?_
      refine J.guardN rfl rfl rfl ?_
      refine J.guardN rfl rfl rfl ?_
      refine J.guardN rfl rfl rfl ?_
      refine J.quiet (Y.pickF rfl rfl) rfl ?_
      refine J.quiet (Y.move rfl) rfl ?_
      refine J.guardN rfl rfl rfl ?_
      refine J.guardN rfl rfl rfl ?_
      refine J.guardN rfl rfl rfl ?_
      refine J.guardN rfl rfl rfl ?_
      refine J.guardN rfl rfl rfl ?_
      refine J.guardN rfl rfl rfl ?_
      refine J.quiet (Y.pickF rfl rfl) rfl ?_
      refine J.quiet (Y.assign rfl) rfl ?_
      refine J.done ?_
      refine J.thenN ?_
      exact J.meetI (false) (()) h (by repeat (first | exact SubF.nil | refine SubF.cons rfl ?_)) (SubM.nil) (LentAll.refl _ _)
  · clear h
    intro a20 b21 h
    unfold law39_known_k1 at h
    refine J.ret ?_
    obtain rfl := Option.some.inj h
    exact J.retG1 (()) rfl rfl (RV.tmp rfl) (SubM.refl _) LentAll.nil

end Go.Proofs.Ytmajgimhmfeliaa
end
section
set_option linter.unusedVariables false
set_option linter.unusedSimpArgs false
namespace Go.Proofs.Ytmajgimhmfeliaa
open Go.Sx
theorem known_eq : m_law39_known 1000 = some true := by kernel_rfl

end Go.Proofs.Ytmajgimhmfeliaa
end
section
set_option linter.unusedVariables false
set_option linter.unusedSimpArgs false
namespace Go.Proofs.Ytmajgimhmfeliaa
open Go.Sx
/-! ## lists -/
/-! ## nodes -/
structure IdsOk (ids : List Int) : Prop where
  rng : ∀ y ∈ ids, 0 ≤ y ∧ y ≤ 255
  nd : ids.Nodup

theorem mem_of_at {α : Type} [Inhabited α] {l : List α} {i : Nat} (h : i < l.length) : at' l (i : Int) ∈ l := by
  rw [at'_nat, List.getD_eq_getElem?_getD, List.getElem?_eq_getElem h]
  exact List.getElem_mem h
theorem at_of_mem {α : Type} [Inhabited α] {l : List α} {x : α} (h : x ∈ l) : ∃ i, i < l.length ∧ at' l ((i : Nat) : Int) = x := by
  obtain ⟨i, hi, he⟩ := List.getElem_of_mem h
  refine ⟨i, hi, ?_⟩
  rw [at'_nat, List.getD_eq_getElem?_getD, List.getElem?_eq_getElem hi]
  exact he

/-! ## links -/
structure VM (ids : List Int) (P : List (List (Int × Int))) : Prop where
  n1 : 1 ≤ P.length
  n24 : P.length ≤ 24
  len : ids.length = P.length
  ok : IdsOk ids
  nd : ∀ v : Nat, v < P.length → ((at' P (v : Int)).map Prod.fst).Nodup
  lk : ∀ v : Nat, v < P.length → ∀ x ∈ at' P (v : Int), (0 ≤ x.1 ∧ x.1 ≤ (P.length : Int) - 1) ∧ x.1 ≠ (v : Int) ∧ (1 ≤ x.2 ∧ x.2 ≤ 15) ∧ ((v : Int), x.2) ∈ at' P x.1

theorem nodup_at {α : Type} [Inhabited α] {l : List α} (h : l.Nodup) {i j : Nat} (hi : i < l.length) (hj : j < l.length) (hij : i < j) : at' l (i : Int) ≠ at' l (j : Int) := by
  rw [at'_nat, at'_nat, List.getD_eq_getElem?_getD, List.getD_eq_getElem?_getD, List.getElem?_eq_getElem hi, List.getElem?_eq_getElem hj]
  exact List.pairwise_iff_getElem.1 (List.nodup_iff_pairwise_ne.1 h) i j hi hj hij

theorem VM.vg {ids : List Int} {P : List (List (Int × Int))} (h : VM ids P) : VG (ids, P) := by
  have hlen := h.len
  have links : ∀ v, v < P.length → LinksOk (row (ids, P) v) v P.length := by
    intro v hv i hi
    have hm : lnk (row (ids, P) v) i ∈ at' P (v : Int) := mem_of_at hi
    obtain ⟨a1, a2, a3, _⟩ := h.lk v hv _ hm
    refine ⟨a1, a2, a3, fun k hk => ?_⟩
    have hk2 : k < (row (ids, P) v).length := by omega
    have := List.pairwise_iff_getElem.1 (List.nodup_iff_pairwise_ne.1 (h.nd v hv)) k i (by simpa using hk2) (by simpa using hi) hk
    rw [List.getElem_map, List.getElem_map] at this
    have e : ∀ j (hj : j < (row (ids, P) v).length), lnk (row (ids, P) v) j = (at' P (v : Int))[j]'hj := fun j hj => by
      unfold lnk
      rw [at'_nat, List.getD_eq_getElem?_getD, List.getElem?_eq_getElem hj]; rfl
    rw [e k hk2, e i hi]
    exact this
  refine ⟨h.n1, h.n24, h.len, fun v hv => ⟨?_, deg_lt hv (links v hv), links v hv, fun k hk => ?_⟩, fun v hv i hi => ?_⟩
  · exact h.ok.rng _ (mem_of_at (by dsimp only at hv ⊢; omega))
  · exact nodup_at h.ok.nd (by dsimp only at hv ⊢; omega) (by dsimp only at hv ⊢; omega) hk
  · have hm : lnk (row (ids, P) v) i ∈ at' P (v : Int) := mem_of_at hi
    obtain ⟨_, _, _, a4⟩ := h.lk v hv _ hm
    obtain ⟨j, hj, he⟩ := at_of_mem a4
    exact ⟨j, hj, by unfold lnk; rw [he], by unfold lnk; rw [he]⟩

theorem VM.light {ids : List Int} {P : List (List (Int × Int))} (h : VM ids P) : light (ids, P) := by
  have hv := h.vg
  have h24 := h.n24
  refine ⟨by have := h.len; dsimp only; omega, by dsimp only; omega, fun v hv' => ?_⟩
  have := (hv.node v hv').deg
  dsimp only at this
  omega

theorem VM.start {ids : List Int} (h : IdsOk ids) (h1 : 1 ≤ ids.length) (h24 : ids.length ≤ 24) : VM ids (List.replicate ids.length []) := by
  have e : ∀ v : Nat, at' (List.replicate ids.length ([] : List (Int × Int))) (v : Int) = [] := fun v => by
    rw [at'_nat, List.getD_eq_getElem?_getD, List.getElem?_replicate]
    split <;> rfl
  refine ⟨by simpa using h1, by simpa using h24, by simp, h, fun v _ => by rw [e]; exact List.nodup_nil, fun v _ x hx => ?_⟩
  rw [e] at hx
  cases hx

/-! ## Tree, more, Connected, Any -/
end Go.Proofs.Ytmajgimhmfeliaa
end
section
set_option linter.unusedVariables false
set_option linter.unusedSimpArgs false
set_option linter.unusedVariables false
set_option linter.unusedSimpArgs false
namespace Go.Proofs.Ytmajgimhmfeliaa
open Go.Sx
/-- what shape answers -/
structure Shaped (g : GR) (y0 : Int) (r : Int × List Int × List (Int × Int)) : Prop where
  kindEq : r.1 = 1 + y0 % 4
  kind : 1 ≤ r.1 ∧ r.1 ≤ 4
  st : r.2.1.length = g.2.length
  lb : r.2.2.length = g.2.length
  fit : ∀ v : Nat, v < g.2.length → FitAt r.1 g v (at' r.2.1 (v : Int))
  bd : ∀ v : Nat, v < g.2.length → (at' r.2.2 (v : Int)).2 ≤ 1000000

end Go.Proofs.Ytmajgimhmfeliaa
end
section
set_option linter.unusedVariables false
set_option linter.unusedSimpArgs false
set_option linter.unusedVariables false
set_option linter.unusedSimpArgs false
namespace Go.Proofs.Ytmajgimhmfeliaa
open Go.Sx
/-! ## values of nodes -/
section
variable {g : GR} {ps vals vals' : List Int} {v : Nat} {S : Nat → Prop}
/-- nothing about a node is left to do -/
structure Clo (g : GR) (ps vals : List Int) (v : Nat) : Prop where
  two : at' vals (v : Int) = 0 ∨ at' vals (v : Int) = 1
  no : at' ps (v : Int) < 0 → at' vals (v : Int) = 0
  pt : 0 ≤ at' ps (v : Int) → at' vals (at' ps (v : Int)) = 1 - at' vals (v : Int)
  nb : at' vals (v : Int) = 0 → ∀ x ∈ at' g.2 (v : Int), at' vals x.1 = 1

structure Prt (g : GR) (ps : List Int) : Prop where
  len : ps.length = g.2.length
  rng : ∀ v : Nat, v < g.2.length → at' ps (v : Int) ≤ (g.2.length : Int) - 1

structure Inv (g : GR) (ps : List Int) (S : Nat → Prop) (vals : List Int) : Prop where
  len : vals.length = g.2.length
  val : ∀ v : Nat, v < g.2.length → at' vals (v : Int) = -1 ∨ at' vals (v : Int) = 0 ∨ at' vals (v : Int) = 1
  clo : ∀ v : Nat, v < g.2.length → ¬ S v → at' vals (v : Int) ≠ -1 → Clo g ps vals v

def Ext2 (g : GR) (vals vals' : List Int) : Prop := ∀ v : Nat, v < g.2.length → at' vals (v : Int) ≠ -1 → at' vals' (v : Int) = at' vals (v : Int)

theorem Ext2.refl : Ext2 g vals vals := fun _ _ _ => rfl
theorem Ext2.trans {v3 : List Int} (h1 : Ext2 g vals vals') (h2 : Ext2 g vals' v3) : Ext2 g vals v3 := fun v hv hne => by
  rw [h2 v hv (by rw [h1 v hv hne]; exact hne), h1 v hv hne]

theorem Clo.ext (hV : VM g.1 g.2) (hp : Prt g ps) (hv : v < g.2.length) (h : Clo g ps vals v) (he : Ext2 g vals vals') : Clo g ps vals' v := by
  have h2 := h.two
  have e : at' vals' (v : Int) = at' vals (v : Int) := he v hv (by omega)
  refine ⟨by rw [e]; exact h2, fun hc => by rw [e]; exact h.no hc, fun hc => ?_, fun hc x hx => ?_⟩
  · obtain ⟨u, hu⟩ : ∃ u : Nat, at' ps (v : Int) = u := ⟨(at' ps (v : Int)).toNat, by omega⟩
    have := h.pt hc
    have hr := hp.rng v hv
    rw [hu] at this hr ⊢
    rw [e, he u (by omega) (by omega)]; exact this
  · rw [e] at hc
    have h1 := h.nb hc x hx
    have hr := (hV.lk v hv x hx).1
    obtain ⟨u, hu⟩ : ∃ u : Nat, x.1 = u := ⟨x.1.toNat, by omega⟩
    rw [hu] at h1 hr ⊢
    rw [he u (by omega) (by omega)]; exact h1

theorem at_set1 (l : List Int) (i : Nat) (x : Int) (hi : i < l.length) (v : Nat) : at' (l.set i x) (v : Int) = if v = i then x else at' l (v : Int) := by
  rw [at'_nat, at'_nat, List.getD_eq_getElem?_getD, List.getD_eq_getElem?_getD, List.getElem?_set]
  by_cases h : v = i
  · subst h; rw [if_pos rfl, if_pos rfl, if_pos hi]; rfl
  · rw [if_neg (fun hc => h hc.symm), if_neg h]

/-- the number of nodes of which nothing is known -/
def un (vals : List Int) : Nat := vals.count (-1)

theorem un_set {x : Int} (hv : v < vals.length) (h : at' vals (v : Int) = -1) (hx : x ≠ -1) : un (vals.set v x) + 1 = un vals := by
  have hg : vals[v] = -1 := by
    rw [at'_nat, List.getD_eq_getElem?_getD, List.getElem?_eq_getElem hv] at h
    exact h
  unfold un
  rw [List.count_set hv, hg]
  have h1 : 0 < vals.count (-1) := List.count_pos_iff.2 (hg ▸ List.getElem_mem hv)
  have e1 : ((-1 : Int) == -1) = true := rfl
  have e2 : (x == (-1 : Int)) = false := by simpa using hx
  rw [e1, e2]
  simp
  omega

abbrev Ans := Bool × List Int

/-- what spread and set promise -/
def Spr (g : GR) (ps : List Int) (S : Nat → Prop) (vals : List Int) (v : Nat) (val : Int) (r : Ans) : Prop :=
  r.1 = true → Inv g ps S r.2 ∧ Ext2 g vals r.2 ∧ at' r.2 (v : Int) = val ∧ un r.2 ≤ un vals

theorem spread_ok (hV : VM g.1 g.2) (hp : Prt g ps) : ∀ (f : Nat) (S : Nat → Prop) (vals : List Int) (v : Nat) (val : Int), Inv g ps S vals → v < g.2.length → (val = 0 ∨ val = 1) → un vals + 40 < f →
    OK (Spr g ps S vals v val) (m___labels_coverer__spread f (g, ps, vals) v val) := by
  intro f
  have h24 := hV.n24
  induction f with
  | zero => intro S vals v val _ _ _ hf; omega
  | succ f ih =>
    intro S vals v val hI hv hval hf
    have hlen := hI.len
    have hpl := hp.len
    have hpr := hp.rng v hv
    show OK _ (__labels_coverer__spread_b (m___labels_coverer__spread f) f (g, ps, vals) v val)
    unfold __labels_coverer__spread_b
    dsimp only
    rw [ckT (by omega)]
    by_cases hun : at' vals (v : Int) ≠ -1
    · rw [if_pos hun, ckT (by omega)]
      refine ⟨_, rfl, fun hr => ?_⟩
      exact ⟨hI, Ext2.refl, of_decide_eq_true hr, Nat.le_refl _⟩
    have hun' : at' vals (v : Int) = -1 := by omega
    rw [if_neg hun, ckT (by omega)]
    -- with the node's value set
    have hI1 : Inv g ps (fun u => S u ∨ u = v) (vals.set v val) := by
      have hx : Ext2 g vals (vals.set v val) := fun u hu hne => by
        rw [at_set1 _ _ _ (by omega), if_neg (fun hc : u = v => hne (by rw [hc]; exact hun'))]
      refine ⟨by simpa using hlen, fun u hu => ?_, fun u hu hS hne => ?_⟩
      · rw [at_set1 _ _ _ (by omega)]
        by_cases hc : u = v
        · rw [if_pos hc]; omega
        · rw [if_neg hc]; exact hI.val u hu
      · have huv : u ≠ v := fun hc => hS (.inr hc)
        rw [at_set1 _ _ _ (by omega), if_neg huv] at hne
        exact (hI.clo u hu (fun hc => hS (.inl hc)) hne).ext hV hp hu hx
    have hx1 : Ext2 g vals (vals.set v val) := fun u hu hne => by
      rw [at_set1 _ _ _ (by omega), if_neg (fun hc : u = v => hne (by rw [hc]; exact hun'))]
    have hv1 : at' (vals.set v val) (v : Int) = val := by rw [at_set1 _ _ _ (by omega), if_pos rfl]
    have hu1 := un_set (vals := vals) (v := v) (x := val) (by omega) hun' (by omega)
    -- behind the partner
    have k2 : ∀ (b : Bool) (vs : List Int), (b = false → Inv g ps (fun u => S u ∨ u = v) vs ∧ Ext2 g (vals.set v val) vs ∧ un vs ≤ un (vals.set v val) ∧ (at' ps (v : Int) < 0 → val = 0) ∧ (0 ≤ at' ps (v : Int) → at' vs (at' ps (v : Int)) = 1 - val)) →
        OK (Spr g ps S vals v val) (__labels_coverer__spread_k2 f (g, ps, vals) v val (m___labels_coverer__spread f) (b, vs)) := by
      intro b vs hb
      unfold __labels_coverer__spread_k2
      dsimp only
      cases b with
      | true => rw [if_pos rfl]; exact ⟨_, rfl, fun hc => by cases hc⟩
      | false =>
        obtain ⟨b1, b2, b3, b4, b5⟩ := hb rfl
        rw [if_neg (by simp)]
        -- the end, from any later values
        have fin : ∀ ws : List Int, Inv g ps (fun u => S u ∨ u = v) ws → Ext2 g vs ws → un ws ≤ un vs → (val = 0 → ∀ x ∈ at' g.2 (v : Int), at' ws x.1 = 1) → Spr g ps S vals v val (true, ws) := by
          intro ws w1 w2 w3 w4 _
          have hx2 : Ext2 g (vals.set v val) ws := b2.trans w2
          have hwv : at' ws (v : Int) = val := by rw [hx2 v hv (by rw [hv1]; omega), hv1]
          refine ⟨⟨w1.len, w1.val, fun u hu hS hne => ?_⟩, hx1.trans hx2, hwv, by dsimp only; omega⟩
          by_cases huv : u = v
          · subst huv
            refine ⟨by rw [hwv]; exact hval, fun hc => by rw [hwv]; exact b4 hc, fun hc => ?_, fun hc => w4 (by rw [hwv] at hc; exact hc)⟩
            have h5 := b5 hc
            obtain ⟨q, hq⟩ : ∃ q : Nat, at' ps (u : Int) = q := ⟨(at' ps (u : Int)).toNat, by omega⟩
            rw [hq] at h5 hpr ⊢
            rw [hwv, w2 q (by omega) (by omega), h5]
          · exact w1.clo u hu (fun hc => hc.elim hS huv) hne
        by_cases h1 : val = 1
        · rw [if_pos h1]
          exact ⟨_, rfl, fin vs b1 Ext2.refl (Nat.le_refl _) (fun hc => by omega)⟩
        · rw [if_neg h1, ckT (by omega)]
          have hd := (hV.vg.node v hv).deg
          have e : (at' g.2 (v : Int)).length = (row (g.1, g.2) v).length := rfl
          dsimp only at hd
          refine iter_ok (fun s : Int × List Int => ∃ k : Nat, s.1 = k ∧ k ≤ (at' g.2 (v : Int)).length ∧ Inv g ps (fun u => S u ∨ u = v) s.2 ∧ Ext2 g vs s.2 ∧ un s.2 ≤ un vs ∧ ∀ j : Nat, j < k → at' s.2 (at' (at' g.2 (v : Int)) (j : Int)).1 = 1) (fun s => (at' g.2 (v : Int)).length - s.1.toNat) ?_ f _ ⟨0, rfl, by omega, b1, Ext2.refl, Nat.le_refl _, fun j hj => by omega⟩ (by dsimp only; omega)
          rintro ⟨i, ws⟩ ag ⟨k, hk, hk2, w1, w2, w3, w4⟩ hrec
          dsimp only at hk w1 w2 w3 w4
          subst hk
          unfold __labels_coverer__spread_s1 __labels_coverer__spread_k3
          dsimp only
          by_cases hkd : (k : Int) < ((at' g.2 (v : Int)).length : Int)
          · rw [if_pos hkd, ckT (by omega)]
            have hm : at' (at' g.2 (v : Int)) (k : Int) ∈ at' g.2 (v : Int) := mem_of_at (by omega)
            have hr := (hV.lk v hv _ hm).1
            obtain ⟨q, hq⟩ : ∃ q : Nat, (at' (at' g.2 (v : Int)) (k : Int)).1 = q := ⟨(at' (at' g.2 (v : Int)) (k : Int)).1.toNat, by omega⟩
            rw [hq] at hr ⊢
            obtain ⟨⟨r, xs⟩, er, hs⟩ := ih (fun u => S u ∨ u = v) ws q 1 w1 (by omega) (.inr rfl) (by omega)
            rw [bindS er]
            dsimp only
            cases r with
            | false => exact ⟨_, rfl, fun hc => by cases hc⟩
            | true =>
              obtain ⟨s1, s2, s3, s4⟩ := hs rfl
              dsimp only at s1 s2 s3 s4
              rw [if_neg (by simp), wr (by omega) (by omega)]
              refine hrec _ ⟨k + 1, by dsimp only; omega, by omega, s1, w2.trans s2, by dsimp only; omega, fun j hj => ?_⟩ (by dsimp only; omega)
              dsimp only
              by_cases hjk : j = k
              · subst hjk; rw [hq]; exact s3
              · have h4 := w4 j (by omega)
                have hm2 : at' (at' g.2 (v : Int)) (j : Int) ∈ at' g.2 (v : Int) := mem_of_at (by omega)
                have hr2 := (hV.lk v hv _ hm2).1
                obtain ⟨q2, hq2⟩ : ∃ q : Nat, (at' (at' g.2 (v : Int)) (j : Int)).1 = q := ⟨(at' (at' g.2 (v : Int)) (j : Int)).1.toNat, by omega⟩
                rw [hq2] at h4 hr2 ⊢
                rw [s2 q2 (by omega) (by omega)]; exact h4
          · rw [if_neg hkd]
            refine ⟨_, rfl, fin ws w1 w2 w3 fun _ x hx => ?_⟩
            obtain ⟨j, hj, he⟩ := at_of_mem hx
            rw [← he]; exact w4 j (by omega)
    have k1 : ∀ b : Bool, (b = false → at' ps (v : Int) < 0 → val = 0) → OK (Spr g ps S vals v val) (__labels_coverer__spread_k1 f (g, ps, vals) v val (m___labels_coverer__spread f) b) := by
      intro b hb
      unfold __labels_coverer__spread_k1
      dsimp only
      cases b with
      | true => rw [if_pos rfl]; exact ⟨_, rfl, fun hc => by cases hc⟩
      | false =>
        rw [if_neg (by simp), ckT (by omega)]
        have e0 : Int.toNat (v : Int) = v := by omega
        rw [e0]
        by_cases hpt : 0 ≤ at' ps (v : Int)
        · rw [if_pos hpt, wr (by omega) (by omega)]
          obtain ⟨q, hq⟩ : ∃ q : Nat, at' ps (v : Int) = q := ⟨(at' ps (v : Int)).toNat, by omega⟩
          rw [hq] at hpr
          obtain ⟨⟨r, xs⟩, er, hs⟩ := ih (fun u => S u ∨ u = v) (vals.set v val) q (1 - val) hI1 (by omega) (by omega) (by omega)
          rw [hq, bindS er]
          dsimp only
          refine k2 _ _ fun hr => ?_
          obtain ⟨s1, s2, s3, s4⟩ := hs (by simpa using hr)
          exact ⟨s1, s2, s4, fun hc => by omega, fun _ => by rw [hq]; exact s3⟩
        · rw [if_neg hpt]
          exact k2 _ _ fun _ => ⟨hI1, Ext2.refl, Nat.le_refl _, hb rfl, fun hc => absurd hc hpt⟩
    by_cases hpt : at' ps (v : Int) < 0
    · rw [if_pos hpt]
      refine k1 _ fun hc _ => ?_
      have : ¬ val = 1 := of_decide_eq_false hc
      omega
    · rw [if_neg hpt]; exact k1 _ fun _ hc => absurd hc hpt

end
end Go.Proofs.Ytmajgimhmfeliaa
end
section
set_option linter.unusedVariables false
set_option linter.unusedSimpArgs false
set_option linter.unusedVariables false
set_option linter.unusedSimpArgs false
namespace Go.Proofs.Ytmajgimhmfeliaa
open Go.Sx
section
variable {g : GR} {st : List Int}
/-- the partner of a node, or -1 -/
def ptn (g : GR) (st : List Int) (v : Nat) : Int := if 0 ≤ at' st (v : Int) then (at' (at' g.2 (v : Int)) (at' st (v : Int))).1 else -1

structure CoverOK (g : GR) (st : List Int) (l : List (Int × Int)) : Prop where
  len : l.length = g.2.length
  two : ∀ v : Nat, v < g.2.length → (at' l (v : Int)).1 = 0 ∨ (at' l (v : Int)).1 = 1
  zero : ∀ v : Nat, v < g.2.length → (at' l (v : Int)).2 = 0
  no : ∀ v : Nat, v < g.2.length → ptn g st v < 0 → (at' l (v : Int)).1 = 0
  pt : ∀ v : Nat, v < g.2.length → 0 ≤ ptn g st v → ptn g st (ptn g st v).toNat = v ∧ (at' l (ptn g st v)).1 = 1 - (at' l (v : Int)).1
  nb : ∀ v : Nat, v < g.2.length → (at' l (v : Int)).1 = 0 → ∀ x ∈ at' g.2 (v : Int), (at' l x.1).1 = 1

theorem ptn_rng (hV : VM g.1 g.2) {v : Nat} (hv : v < g.2.length) (hf : FitAt 4 g v (at' st (v : Int))) : -1 ≤ ptn g st v ∧ ptn g st v ≤ (g.2.length : Int) - 1 := by
  rw [FitAt, if_pos (.inr rfl)] at hf
  have e : (at' g.2 (v : Int)).length = (row g v).length := rfl
  have := hV.n1
  unfold ptn
  by_cases h : 0 ≤ at' st (v : Int)
  · rw [if_pos h]
    obtain ⟨k, hk⟩ : ∃ k : Nat, at' st (v : Int) = k := ⟨(at' st (v : Int)).toNat, by omega⟩
    rw [hk] at hf ⊢
    have hm : at' (at' g.2 (v : Int)) (k : Int) ∈ at' g.2 (v : Int) := mem_of_at (by omega)
    have := (hV.lk v hv _ hm).1
    omega
  · rw [if_neg h]; omega

theorem at_replicate {α : Type} [Inhabited α] (n : Nat) (x : α) {v : Nat} (h : v < n) : at' (List.replicate n x) (v : Int) = x := by
  rw [at'_nat, List.getD_eq_getElem?_getD, List.getElem?_replicate, if_pos h]; rfl

theorem at_setP {α : Type} [Inhabited α] (l : List α) (i : Nat) (x : α) (hi : i < l.length) (v : Nat) : at' (l.set i x) (v : Int) = if v = i then x else at' l (v : Int) := by
  rw [at'_nat, at'_nat, List.getD_eq_getElem?_getD, List.getD_eq_getElem?_getD, List.getElem?_set]
  by_cases h : v = i
  · subst h; rw [if_pos rfl, if_pos rfl, if_pos hi]; rfl
  · rw [if_neg (fun hc => h hc.symm), if_neg h]

abbrev AnsC := List (Int × Int) × Bool
end
end Go.Proofs.Ytmajgimhmfeliaa
end
section
set_option linter.unusedVariables false
set_option linter.unusedSimpArgs false
namespace Go.Proofs.Ytmajgimhmfeliaa
open Go.Sx
set_option linter.unusedVariables false
structure Fit (kind : Int) (g : GR) (st : List Int) : Prop where
  k14 : 1 ≤ kind ∧ kind ≤ 4
  len : st.length = g.2.length
  fit : ∀ v : Nat, v < g.2.length → FitAt kind g v (at' st (v : Int))

end Go.Proofs.Ytmajgimhmfeliaa
end
section
set_option linter.unusedVariables false
set_option linter.unusedSimpArgs false
namespace Go.Proofs.Ytmajgimhmfeliaa
open Go.Sx
set_option linter.unusedVariables false
theorem least {p : Nat → Prop} (h : ∃ k, p k) : ∃ k, p k ∧ ∀ j, j < k → ¬ p j := by
  obtain ⟨k, hk⟩ := h
  induction k using Nat.strongRecOn with
  | _ k ih =>
    by_cases h : ∃ j, j < k ∧ p j
    · obtain ⟨j, hj, hp⟩ := h
      exact ih j hj hp
    · exact ⟨k, hk, fun j hj hp => h ⟨j, hj, hp⟩⟩

/-! ## the only node with a number -/
def OnlyAt (st : List Int) (x : Int) (a : Nat) : Prop := a < st.length ∧ at' st (a : Int) = x ∧ ∀ b : Nat, b < st.length → at' st (b : Int) = x → b = a
def OnlyP (st : List Int) (x r : Int) : Prop := (r = -1 ∧ ¬ ∃ a, OnlyAt st x a) ∨ ∃ a : Nat, r = (a : Int) ∧ OnlyAt st x a

theorem OnlyP.det {st : List Int} {x r s : Int} (h : OnlyP st x r) (h2 : OnlyP st x s) : r = s := by
  rcases h with ⟨h, hn⟩ | ⟨a, h, ha⟩ <;> rcases h2 with ⟨h2, hn2⟩ | ⟨b, h2, hb⟩
  · omega
  · exact absurd ⟨b, hb⟩ hn
  · exact absurd ⟨a, ha⟩ hn2
  · rw [h, h2, ha.2.2 b hb.1 hb.2.1]

theorem only_ok (st : List Int) (x : Int) (hl : st.length ≤ 100) : OK (OnlyP st x) (m_labels_only 1000 st x) := by
  unfold m_labels_only
  refine iter_ok (fun s : Int × Int × Int => ∃ k f : Nat, s.2.2 = k ∧ s.2.1 = f ∧ k ≤ st.length ∧ f ≤ k ∧ ((f = 0 ∧ s.1 = -1 ∧ ∀ b : Nat, b < k → at' st (b : Int) ≠ x) ∨ (f = 1 ∧ ∃ a : Nat, s.1 = a ∧ a < k ∧ at' st (a : Int) = x ∧ ∀ b : Nat, b < k → at' st (b : Int) = x → b = a) ∨ (2 ≤ f ∧ ∃ a b : Nat, a < b ∧ b < k ∧ at' st (a : Int) = x ∧ at' st (b : Int) = x))) (fun s => st.length - s.2.2.toNat) ?_ 1000 _ ⟨0, 0, rfl, rfl, by omega, by omega, .inl ⟨rfl, rfl, fun b hb => by omega⟩⟩ (by dsimp only; omega)
  rintro ⟨r, f', k'⟩ ag ⟨k, f, hk, hf, hkl, hfk, hc⟩ hrec
  dsimp only at hk hf hc
  subst hk hf
  unfold labels_only_s1 labels_only_k2 labels_only_k1
  dsimp only
  by_cases hkn : (k : Int) < (st.length : Int)
  · rw [if_pos hkn, ckT (by omega), wr (by omega) (by omega), wr (by omega) (by omega)]
    by_cases hx : at' st (k : Int) = x
    · rw [if_pos hx]
      refine hrec _ ⟨k + 1, f + 1, by simp, by simp, by omega, by omega, ?_⟩ (by dsimp only; omega)
      dsimp only
      rcases hc with ⟨h0, h1, h2⟩ | ⟨h0, a, h1, h2, h3, h4⟩ | ⟨h0, a, b, h1, h2, h3, h4⟩
      · refine .inr (.inl ⟨by omega, k, rfl, by omega, hx, fun b hb he => ?_⟩)
        by_cases e : b = k
        · exact e
        · exact absurd he (h2 b (by omega))
      · exact .inr (.inr ⟨by omega, a, k, h2, by omega, h3, hx⟩)
      · exact .inr (.inr ⟨by omega, a, b, h1, by omega, h3, h4⟩)
    · rw [if_neg hx]
      refine hrec _ ⟨k + 1, f, by simp, rfl, by omega, by omega, ?_⟩ (by dsimp only; omega)
      dsimp only
      rcases hc with ⟨h0, h1, h2⟩ | ⟨h0, a, h1, h2, h3, h4⟩ | ⟨h0, a, b, h1, h2, h3, h4⟩
      · refine .inl ⟨h0, h1, fun b hb => ?_⟩
        by_cases e : b = k
        · subst e; exact hx
        · exact h2 b (by omega)
      · refine .inr (.inl ⟨h0, a, h1, by omega, h3, fun b hb he => ?_⟩)
        by_cases e : b = k
        · subst e; exact absurd he hx
        · exact h4 b (by omega) he
      · exact .inr (.inr ⟨h0, a, b, h1, by omega, h3, h4⟩)
  · rw [if_neg hkn]
    have hkk : k = st.length := by omega
    subst hkk
    rcases hc with ⟨h0, h1, h2⟩ | ⟨h0, a, h1, h2, h3, h4⟩ | ⟨h0, a, b, h1, h2, h3, h4⟩
    · rw [if_pos (by omega)]
      exact ⟨_, rfl, .inl ⟨rfl, fun ⟨a, h3, h4, _⟩ => h2 a h3 h4⟩⟩
    · rw [if_neg (by omega)]
      exact ⟨_, rfl, .inr ⟨a, h1, h2, h3, h4⟩⟩
    · rw [if_pos (by omega)]
      exact ⟨_, rfl, .inl ⟨rfl, fun ⟨q, h5, h6, h7⟩ => by
        have := h7 a (by omega) h3
        have := h7 b h2 h4
        omega⟩⟩

/-! ## along the ports -/
def go (g : GR) (st : List Int) : Nat → Nat → Nat
  | 0, v => v
  | k + 1, v => go g st k (ptn g st v).toNat

theorem go_add (g : GR) (st : List Int) : ∀ a b v, go g st (a + b) v = go g st b (go g st a v)
  | 0, b, v => by simp [go]
  | a + 1, b, v => by
    have e : a + 1 + b = (a + b) + 1 := by omega
    rw [e]
    show go g st (a + b) _ = _
    rw [go_add g st a b]
    rfl

theorem go_succ (g : GR) (st : List Int) (k v : Nat) : go g st (k + 1) v = (ptn g st (go g st k v)).toNat := by
  rw [go_add g st k 1]
  rfl

structure TreeR (g : GR) (st : List Int) (r : Nat) : Prop where
  root : OnlyAt st (-1) r
  all : ∀ v, v < g.2.length → ∃ k, go g st k v = r
def TreeP (g : GR) (st : List Int) : Prop := ∃ r, TreeR g st r

/-- k is the number of steps from v to r -/
def Steps (g : GR) (st : List Int) (r v k : Nat) : Prop := go g st k v = r ∧ ∀ j, j < k → go g st j v ≠ r
def TreeL (g : GR) (st : List Int) (r : Nat) (l : List (Int × Int)) : Prop := l.length = g.2.length ∧ ∀ v : Nat, v < g.2.length → ∃ k : Nat, at' l (v : Int) = (at' g.1 (r : Int), (k : Int)) ∧ Steps g st r v k

section
variable {g : GR} {st : List Int}
theorem ptn_rng1 (hV : VG g) {v : Nat} (hv : v < g.2.length) (hf : FitAt 1 g v (at' st (v : Int))) : -1 ≤ ptn g st v ∧ ptn g st v ≤ (g.2.length : Int) - 1 ∧ (0 ≤ ptn g st v ↔ 0 ≤ at' st (v : Int)) := by
  rw [FitAt, if_pos (.inl rfl)] at hf
  have e : (at' g.2 (v : Int)).length = (row g v).length := rfl
  have := hV.n1
  unfold ptn
  by_cases h : 0 ≤ at' st (v : Int)
  · rw [if_pos h]
    obtain ⟨k, hk⟩ : ∃ k : Nat, at' st (v : Int) = k := ⟨(at' st (v : Int)).toNat, by omega⟩
    rw [hk] at hf ⊢
    have hl := (hV.node v hv).links k (by omega)
    have h1 := hl.1
    have q2 : (at' (at' g.2 (v : Int)) (k : Int)).1 = (lnk (row g v) k).1 := rfl
    omega
  · rw [if_neg h]; omega

theorem go_rng (hV : VG g) (hF : ∀ v : Nat, v < g.2.length → FitAt 1 g v (at' st (v : Int))) : ∀ k v, v < g.2.length → go g st k v < g.2.length
  | 0, v, hv => hv
  | k + 1, v, hv => go_rng hV hF k _ (by have := ptn_rng1 hV hv (hF v hv); have := hV.n1; omega)

theorem steps_lt (hV : VG g) (hF : ∀ v : Nat, v < g.2.length → FitAt 1 g v (at' st (v : Int))) {r v k : Nat} (hv : v < g.2.length) (h : Steps g st r v k) : k < g.2.length := by
  refine pigeon g.2.length (fun i => go g st i v) (k + 1) (fun i _ => go_rng hV hF i v hv) ?_
  intro i j hij hj he
  have e1 : k = j + (k - j) := by omega
  have h1 : go g st (i + (k - j)) v = r := by
    rw [go_add, he, ← go_add, ← e1]; exact h.1
  exact h.2 _ (by omega) h1

theorem Steps.det {r v k j : Nat} (h : Steps g st r v k) (h2 : Steps g st r v j) : k = j := by
  rcases Nat.lt_trichotomy k j with h3 | h3 | h3
  · exact absurd h.1 (h2.2 k h3)
  · exact h3
  · exact absurd h2.1 (h.2 j h3)

theorem tree_ok' (hV : VG g) (hF : Fit 1 g st) : OK (fun q : List (Int × Int) × Bool => (q.2 = true ∧ ∃ r, TreeR g st r ∧ TreeL g st r q.1) ∨ (q = ([], false) ∧ ¬ TreeP g st)) (m_labels_tree 1000 g st) := by
  have h24 := hV.n24
  have h1 := hV.n1
  have hlen := hV.len
  have hst := hF.len
  unfold m_labels_tree
  obtain ⟨r0, er, hr⟩ := only_ok st (-1) (by omega)
  rw [bindS er]
  rcases hr with ⟨hr, hn⟩ | ⟨r, rfl, hr⟩
  · rw [if_pos (by omega)]
    exact ⟨_, rfl, .inr ⟨rfl, fun ⟨r, h, _⟩ => hn ⟨r, h⟩⟩⟩
  have hrl := hr.1
  rw [if_neg (by omega), ckT (by omega)]
  have e0 : Int.toNat (st.length : Int) = g.2.length := by omega
  rw [e0]
  refine iter_ok (fun s : Int × List (Int × Int) => ∃ k : Nat, s.1 = k ∧ k ≤ g.2.length ∧ s.2.length = g.2.length ∧ ∀ v : Nat, v < k → ∃ q : Nat, at' s.2 (v : Int) = (at' g.1 (r : Int), (q : Int)) ∧ Steps g st r v q) (fun s => g.2.length - s.1.toNat) ?_ 1000 _ ⟨0, rfl, by omega, by simp, fun v hv => by omega⟩ (by dsimp only; omega)
  rintro ⟨i, l⟩ ag ⟨v, hi, hvn, hl, hall⟩ hrec
  dsimp only at hi hl hall
  subst hi
  unfold labels_tree_s1
  dsimp only
  by_cases hvs : (v : Int) < (st.length : Int)
  · rw [if_pos hvs]
    have hv : v < g.2.length := by omega
    refine iter_ok (fun s : Int × Int => ∃ k : Nat, s = ((k : Int), ((go g st k v : Nat) : Int)) ∧ k < g.2.length ∧ ∀ j, j < k → go g st j v ≠ r) (fun s => g.2.length - s.1.toNat) ?_ 1000 _ ⟨0, rfl, by omega, fun j hj => by omega⟩ (by dsimp only; omega)
    rintro s ag2 ⟨k, rfl, hk, hj⟩ hrec2
    have hgr := go_rng hV hF.fit k v hv
    have hp := ptn_rng1 hV hgr (hF.fit _ hgr)
    have hft := hF.fit _ hgr
    rw [FitAt, if_pos (.inl rfl)] at hft
    unfold labels_tree_s2
    dsimp only
    by_cases hne : ((go g st k v : Nat) : Int) ≠ (r : Int)
    · rw [if_pos hne, wr (by omega) (by omega)]
      by_cases hend : (st.length : Int) ≤ (k : Int) + 1
      · rw [if_pos hend]
        refine ⟨_, rfl, .inr ⟨rfl, fun ⟨r', h'⟩ => ?_⟩⟩
        have hrr := h'.root.2.2 r hr.1 hr.2.1
        subst hrr
        obtain ⟨q, hq⟩ := least (h'.all v hv)
        have hq2 : Steps g st r v q := hq
        have hlt := steps_lt hV hF.fit hv hq2
        by_cases hqk : q ≤ k
        · by_cases hqe : q = k
          · subst hqe
            exact hne (by rw [hq.1])
          · exact hj q (by omega) hq.1
        · omega
      · rw [if_neg hend, ckT (by omega), ckT (by omega)]
        -- the node is no root
        have hnr : 0 ≤ at' st ((go g st k v : Nat) : Int) := by
          rcases Int.lt_or_le (at' st ((go g st k v : Nat) : Int)) 0 with h0 | h0
          · have he := hr.2.2 (go g st k v) (by omega) (by omega)
            exact absurd (congrArg Int.ofNat he) hne
          · exact h0
        have e : (at' g.2 ((go g st k v : Nat) : Int)).length = (row g (go g st k v)).length := rfl
        rw [ckT (by omega)]
        have hpe : (at' (at' g.2 ((go g st k v : Nat) : Int)) (at' st ((go g st k v : Nat) : Int))).1 = ptn g st (go g st k v) := by
          unfold ptn; rw [if_pos hnr]
        rw [hpe]
        refine hrec2 _ ⟨k + 1, ?_, by omega, fun j hj2 => ?_⟩ (by dsimp only; omega)
        · rw [go_succ]
          have := hp.2.2.2 hnr
          congr 1
          omega
        · by_cases hje : j = k
          · subst hje; exact fun he => hne (by rw [he])
          · exact hj j (by omega)
    · rw [if_neg hne]
      have hge : go g st k v = r := by omega
      unfold labels_tree_k2
      dsimp only
      rw [ckT (by omega), ckT (by omega), wr (by omega) (by omega)]
      have e1 : Int.toNat (v : Int) = v := by omega
      rw [e1]
      refine hrec _ ⟨v + 1, by simp, by omega, by simpa using hl, fun u hu => ?_⟩ (by dsimp only; omega)
      dsimp only
      rw [at_setP _ _ _ (by omega)]
      by_cases huv : u = v
      · subst huv
        rw [if_pos rfl]
        exact ⟨k, rfl, hge, hj⟩
      · rw [if_neg huv]
        exact hall u (by omega)
  · rw [if_neg hvs]
    have hvv : v = g.2.length := by omega
    subst hvv
    refine ⟨_, rfl, .inl ⟨rfl, r, ⟨hr, fun u hu => ?_⟩, hl, fun u hu => hall u hu⟩⟩
    obtain ⟨q, _, hq, _⟩ := hall u hu
    exact ⟨q, hq⟩
end
end Go.Proofs.Ytmajgimhmfeliaa
end
section
set_option linter.unusedVariables false
set_option linter.unusedSimpArgs false
namespace Go.Proofs.Ytmajgimhmfeliaa
open Go.Sx
set_option linter.unusedVariables false
section
variable {g : GR} {st : List Int}
def LeadL (g : GR) (a : Nat) (l : List (Int × Int)) : Prop := l.length = g.2.length ∧ ∃ d, Dist g a d ∧ ∀ v : Nat, v < g.2.length → at' l (v : Int) = (at' g.1 (a : Int), D d v)

theorem leader_ok (hV : VG g) (hF : Fit 2 g st) : OK (fun q : List (Int × Int) × Bool => (q.2 = true ∧ ∃ a, OnlyAt st 1 a ∧ LeadL g a q.1) ∨ (q = ([], false) ∧ ¬ ∃ a, OnlyAt st 1 a)) (m_labels_leader 1000 g st) := by
  have h24 := hV.n24
  have h1 := hV.n1
  have hlen := hV.len
  have hst := hF.len
  unfold m_labels_leader
  obtain ⟨r0, er, hr⟩ := only_ok st 1 (by omega)
  rw [bindS er]
  rcases hr with ⟨hr, hn⟩ | ⟨r, rfl, hr⟩
  · rw [if_pos (by omega)]
    exact ⟨_, rfl, .inr ⟨rfl, hn⟩⟩
  have hrl := hr.1
  rw [if_neg (by omega), ckT (by omega)]
  have e0 : Int.toNat (st.length : Int) = g.2.length := by omega
  rw [e0]
  obtain ⟨d, ed, hD⟩ := distances_ok hV (s := r) (by omega)
  have hdl := hD.len
  rw [bindS ed]
  refine iter_ok (fun s : Int × List (Int × Int) => ∃ k : Nat, s.1 = k ∧ k ≤ g.2.length ∧ s.2.length = g.2.length ∧ ∀ v : Nat, v < k → at' s.2 (v : Int) = (at' g.1 (r : Int), D d v)) (fun s => g.2.length - s.1.toNat) ?_ 1000 _ ⟨0, rfl, by omega, by simp, fun v hv => by omega⟩ (by dsimp only; omega)
  rintro ⟨i, l⟩ ag ⟨v, hi, hvn, hl, hall⟩ hrec
  dsimp only at hi hl hall
  subst hi
  unfold labels_leader_s1
  dsimp only
  by_cases hvs : (v : Int) < (d.length : Int)
  · rw [if_pos hvs, ckT (by omega), ckT (by omega), ckT (by omega), wr (by omega) (by omega)]
    have e1 : Int.toNat (v : Int) = v := by omega
    rw [e1]
    refine hrec _ ⟨v + 1, by simp, by omega, by simpa using hl, fun u hu => ?_⟩ (by dsimp only; omega)
    dsimp only
    rw [at_setP _ _ _ (by omega)]
    by_cases huv : u = v
    · subst huv; rw [if_pos rfl]
    · rw [if_neg huv]; exact hall u (by omega)
  · rw [if_neg hvs]
    have hvv : v = g.2.length := by omega
    subst hvv
    exact ⟨_, rfl, .inl ⟨rfl, r, hr, hl, d, hD, hall⟩⟩

/-- the ends of each link are on different sides -/
def Sides (g : GR) (d : List Int) : Prop := ∀ v, v < g.2.length → ∀ i, i < (row g v).length → D d v % 2 ≠ at' d (lnk (row g v) i).1 % 2
def SideL (g : GR) (d : List Int) (l : List (Int × Int)) : Prop := l.length = g.2.length ∧ ∀ v : Nat, v < g.2.length → at' l (v : Int) = (D d v % 2, 0)

theorem conn_pos (hV : VG g) (hC : Conn g) {s : Nat} (hs : s < g.2.length) {d : List Int} (hD : Dist g s d) : ∀ v, v < g.2.length → 0 ≤ D d v := fun v hv => (conn_iff hV hs hD).2 hC v (by rw [hD.len]; exact hv)

theorem bipartite_ok (hV : VG g) (hC : Conn g) (hF : Fit 3 g st) : OK (fun q : List (Int × Int) × Bool => ∃ d, Dist g 0 d ∧ ((q.2 = true ∧ Sides g d ∧ SideL g d q.1) ∨ (q = ([], false) ∧ ¬ Sides g d))) (m_labels_bipartite 1000 g st) := by
  have h24 := hV.n24
  have h1 := hV.n1
  have hlen := hV.len
  have hst := hF.len
  unfold m_labels_bipartite
  rw [ckT (by omega)]
  have e0 : Int.toNat (st.length : Int) = g.2.length := by omega
  rw [e0]
  obtain ⟨d, ed, hD⟩ := distances_ok hV (s := 0) (by omega)
  have hdl := hD.len
  have hpos := conn_pos hV hC (by omega) hD
  rw [bindS (show m_graph_Distances 1000 (g.1, g.2) 0 = some d from ed)]
  refine iter_ok (fun s : Int × List (Int × Int) => ∃ k : Nat, s.1 = k ∧ k ≤ g.2.length ∧ s.2.length = g.2.length ∧ ∀ v : Nat, v < g.2.length → at' s.2 (v : Int) = (if v < k then D d v % 2 else 0, 0)) (fun s => g.2.length - s.1.toNat) ?_ 1000 _ ⟨0, rfl, by omega, by simp, fun v hv => by dsimp only; rw [at_replicate _ _ hv, if_neg (by omega)]⟩ (by dsimp only; omega)
  rintro ⟨i, l⟩ ag ⟨v, hi, hvn, hl, hall⟩ hrec
  dsimp only at hi hl hall
  subst hi
  unfold labels_bipartite_s3
  dsimp only
  by_cases hvs : (v : Int) < (d.length : Int)
  · rw [if_pos hvs, ckT (by omega), ckT (by decide), ckT (by omega), wr (by omega) (by omega)]
    have e1 : Int.toNat (v : Int) = v := by omega
    rw [e1]
    refine hrec _ ⟨v + 1, by simp, by omega, by simpa using hl, fun u hu => ?_⟩ (by dsimp only; omega)
    dsimp only
    rw [at_setP _ _ _ (by omega)]
    by_cases huv : u = v
    · subst huv
      rw [if_pos rfl, if_pos (by omega), hall u hu]
      have : Int.tmod (at' d (u : Int)) 2 = D d u % 2 := Int.tmod_eq_emod_of_nonneg (hpos u hu)
      rw [this]
    · rw [if_neg huv, hall u hu]
      by_cases h2 : u < v
      · rw [if_pos h2, if_pos (by omega)]
      · rw [if_neg h2, if_neg (by omega)]
  · rw [if_neg hvs]
    have hvv : v = g.2.length := by omega
    subst hvv
    have hall' : ∀ v : Nat, v < g.2.length → at' l (v : Int) = (D d v % 2, 0) := fun v hv => by rw [hall v hv, if_pos hv]
    unfold labels_bipartite_k1 labels_bipartite_k3
    have inner : ∀ (v : Nat) (ag : Int → Option (List (Int × Int) × Bool)), v < g.2.length →
        ((∀ i, i < (row g v).length → D d v % 2 ≠ at' d (lnk (row g v) i).1 % 2) → iter (labels_bipartite_s2 g l v ag) 1000 0 = ag ((v : Int) + 1)) ∧ (¬ (∀ i, i < (row g v).length → D d v % 2 ≠ at' d (lnk (row g v) i).1 % 2) → iter (labels_bipartite_s2 g l v ag) 1000 0 = some ([], false)) := by
      intro v ag hv
      have hdeg := (hV.node v hv).deg
      have e : (at' g.2 (v : Int)).length = (row g v).length := rfl
      have lks : ∀ k, k < (row g v).length → ∃ u : Nat, u < g.2.length ∧ (lnk (row g v) k).1 = (u : Int) := fun k hk => by
        obtain ⟨u, hu, he, _⟩ := hV.port hv hk; exact ⟨u, hu, he⟩
      refine iter_if (row g v).length (fun i => D d v % 2 ≠ at' d (lnk (row g v) i).1 % 2) ?_ ?_ ?_ 1000 (by omega)
      · intro k ag2 hk hp
        obtain ⟨u, hu, hue⟩ := lks k hk
        have q2 : (at' (at' g.2 (v : Int)) (k : Int)).1 = (u : Int) := hue
        unfold labels_bipartite_s2
        rw [if_pos (by omega), ckT (by omega), ckT (by omega), q2, ckT (by omega), hall' v hv, hall' u hu, wr (by omega) (by omega), if_neg]
        dsimp only
        intro hc
        rw [hue] at hp
        exact hp (Prod.mk.inj hc).1
      · intro k ag2 hk hp
        obtain ⟨u, hu, hue⟩ := lks k hk
        have q2 : (at' (at' g.2 (v : Int)) (k : Int)).1 = (u : Int) := hue
        unfold labels_bipartite_s2
        rw [if_pos (by omega), ckT (by omega), ckT (by omega), q2, ckT (by omega), hall' v hv, hall' u hu, if_pos]
        dsimp only
        rw [hue] at hp
        have : D d v % 2 = D d u % 2 := Classical.byContradiction hp
        rw [this]
      · intro ag2
        unfold labels_bipartite_s2 labels_bipartite_k4
        rw [if_neg (by omega), wr (by omega) (by omega)]
    have outer := iter_if (step := labels_bipartite_s1 1000 g l) (K := some (l, true)) (bad := (([] : List (Int × Int)), false)) g.2.length (fun v => ∀ i, i < (row g v).length → D d v % 2 ≠ at' d (lnk (row g v) i).1 % 2) ?_ ?_ ?_ 1000 (by omega)
    · by_cases hs : Sides g d
      · exact ⟨_, outer.1 hs, d, hD, .inl ⟨rfl, hs, hl, hall'⟩⟩
      · exact ⟨_, outer.2 hs, d, hD, .inr ⟨rfl, hs⟩⟩
    · intro k ag2 hk hp
      unfold labels_bipartite_s1
      rw [if_pos (by omega), ckT (by omega), (inner k ag2 hk).1 hp]
    · intro k ag2 hk hp
      unfold labels_bipartite_s1
      rw [if_pos (by omega), ckT (by omega), (inner k ag2 hk).2 hp]
    · intro ag2
      unfold labels_bipartite_s1
      rw [if_neg (by omega)]
      rfl

/-! ## Prove -/
theorem fits_yes (hV : VG g) {kind : Int} (hF : Fit kind g st) : m_labels_fits 1000 kind g st = some true := by
  have h24 := hV.n24
  have hlen := hV.len
  have hst := hF.len
  unfold m_labels_fits
  rw [if_neg (by omega)]
  refine iter_eq (fun s : Int => ∃ k : Nat, s = k ∧ k ≤ g.2.length) (fun s => g.2.length - s.toNat) ?_ 1000 0 ⟨0, rfl, by omega⟩ (by omega)
  rintro i ag ⟨k, rfl, hk⟩ hrec
  unfold labels_fits_s1
  by_cases hkn : (k : Int) < (st.length : Int)
  · rw [if_pos hkn, ckT (by omega), bindS ((number_eq (by omega) kind _).1 (hF.fit k (by omega))), if_neg (by simp), wr (by omega) (by omega)]
    exact hrec _ ⟨k + 1, by omega, by omega⟩ (by omega)
  · rw [if_neg hkn]; rfl

/-- Prove on a connected graph with a state that fits -/
theorem prove_eq (hV : VG g) (hC : Conn g) {kind : Int} (hF : Fit kind g st) (q : List (Int × Int) × Bool)
    (hq : (if kind = 1 then m_labels_tree 1000 g st else if kind = 2 then m_labels_leader 1000 g st else if kind = 3 then m_labels_bipartite 1000 g st else m_labels_cover 1000 g st) = some q) :
    m_labels_Prove 1000 kind g st = some (if q.2 = true then (q.1, 0) else ([], 7)) := by
  unfold m_labels_Prove
  have hk := hF.k14
  have hkn : m_labels_known 1000 kind = some true := by
    unfold m_labels_known labels_known_k1
    rw [if_pos hk.1, decide_eq_true hk.2]
  have e3 : wI .i64 (kind - 1) = kind - 1 := wr (by omega) (by omega)
  rw [bindS ((connected_eq hV).1 hC), if_neg (by simp), bindS hkn, if_neg (by simp), bindS (fits_yes hV hF), if_neg (by simp), e3, ckT (by omega)]
  obtain rfl | rfl | rfl | rfl : kind = 1 ∨ kind = 2 ∨ kind = 3 ∨ kind = 4 := by omega
  · rw [if_pos rfl] at hq
    rw [if_pos (by decide), bindS hq]
    obtain ⟨l, b⟩ := q
    cases b <;> rfl
  · rw [if_neg (by decide), if_pos rfl] at hq
    rw [if_neg (by decide), if_pos (by decide), bindS hq]
    obtain ⟨l, b⟩ := q
    cases b <;> rfl
  · rw [if_neg (by decide), if_neg (by decide), if_pos rfl] at hq
    rw [if_neg (by decide), if_neg (by decide), if_pos (by decide), bindS hq]
    obtain ⟨l, b⟩ := q
    cases b <;> rfl
  · rw [if_neg (by decide), if_neg (by decide), if_neg (by decide)] at hq
    rw [if_neg (by decide), if_neg (by decide), if_neg (by decide), bindS hq]
    obtain ⟨l, b⟩ := q
    cases b <;> rfl
end
end Go.Proofs.Ytmajgimhmfeliaa
end
section
set_option linter.unusedVariables false
set_option linter.unusedSimpArgs false
namespace Go.Proofs.Ytmajgimhmfeliaa
open Go.Sx
set_option linter.unusedVariables false
section
variable {g : GR} {ps vals : List Int} {v : Nat}
/-- values that follow are there -/
theorem spread_min (hV : VM g.1 g.2) (hp : Prt g ps) {c : List Int} (hc : Inv g ps (fun _ => False) c) : ∀ (f : Nat) (S : Nat → Prop) (vals : List Int) (v : Nat) (val : Int), Inv g ps S vals → v < g.2.length → (val = 0 ∨ val = 1) → un vals + 40 < f → Ext2 g vals c → at' c (v : Int) = val →
    ∃ xs, m___labels_coverer__spread f (g, ps, vals) v val = some (true, xs) ∧ Ext2 g xs c := by
  intro f
  have h24 := hV.n24
  induction f with
  | zero => intro S vals v val _ _ _ hf; omega
  | succ f ih =>
    intro S vals v val hI hv hval hf hE hcv
    have hlen := hI.len
    have hpl := hp.len
    have hpr := hp.rng v hv
    have hC : Clo g ps c v := hc.clo v hv (fun h => h) (by omega)
    show ∃ xs, __labels_coverer__spread_b (m___labels_coverer__spread f) f (g, ps, vals) v val = some (true, xs) ∧ _
    unfold __labels_coverer__spread_b
    dsimp only
    rw [ckT (by omega)]
    by_cases hun : at' vals (v : Int) ≠ -1
    · rw [if_pos hun, ckT (by omega)]
      have : at' vals (v : Int) = val := by rw [← hE v hv hun]; exact hcv
      rw [decide_eq_true this]
      exact ⟨_, rfl, hE⟩
    have hun' : at' vals (v : Int) = -1 := by omega
    rw [if_neg hun, ckT (by omega)]
    have hx1 : Ext2 g vals (vals.set v val) := fun u hu hne => by
      rw [at_set1 _ _ _ (by omega), if_neg (fun hc : u = v => hne (by rw [hc]; exact hun'))]
    have hI1 : Inv g ps (fun u => S u ∨ u = v) (vals.set v val) := by
      refine ⟨by simpa using hlen, fun u hu => ?_, fun u hu hS hne => ?_⟩
      · rw [at_set1 _ _ _ (by omega)]
        by_cases hc : u = v
        · rw [if_pos hc]; omega
        · rw [if_neg hc]; exact hI.val u hu
      · have huv : u ≠ v := fun hc => hS (.inr hc)
        rw [at_set1 _ _ _ (by omega), if_neg huv] at hne
        exact (hI.clo u hu (fun hc => hS (.inl hc)) hne).ext hV hp hu hx1
    have hE1 : Ext2 g (vals.set v val) c := fun u hu hne => by
      rw [at_set1 _ _ _ (by omega)] at hne ⊢
      by_cases huv : u = v
      · subst huv; rw [if_pos rfl]; exact hcv
      · rw [if_neg huv] at hne ⊢; exact hE u hu hne
    have hu1 := un_set (vals := vals) (v := v) (x := val) (by omega) hun' (by omega)
    have k2 : ∀ vs : List Int, Inv g ps (fun u => S u ∨ u = v) vs → un vs ≤ un (vals.set v val) → Ext2 g vs c →
        ∃ xs, __labels_coverer__spread_k2 f (g, ps, vals) v val (m___labels_coverer__spread f) (false, vs) = some (true, xs) ∧ Ext2 g xs c := by
      intro vs b1 b3 b4
      unfold __labels_coverer__spread_k2
      dsimp only
      rw [if_neg (by simp)]
      by_cases h1 : val = 1
      · rw [if_pos h1]; exact ⟨_, rfl, b4⟩
      · rw [if_neg h1, ckT (by omega)]
        have hd := (hV.vg.node v hv).deg
        have e : (at' g.2 (v : Int)).length = (row (g.1, g.2) v).length := rfl
        dsimp only at hd
        have key : OK (fun r : Ans => r.1 = true ∧ Ext2 g r.2 c) (iter (__labels_coverer__spread_s1 (g, ps, vals) v (m___labels_coverer__spread f)) f (0, vs)) := by
          refine iter_ok (fun s : Int × List Int => ∃ k : Nat, s.1 = k ∧ k ≤ (at' g.2 (v : Int)).length ∧ Inv g ps (fun u => S u ∨ u = v) s.2 ∧ un s.2 ≤ un vs ∧ Ext2 g s.2 c) (fun s => (at' g.2 (v : Int)).length - s.1.toNat) ?_ f _ ⟨0, rfl, by omega, b1, Nat.le_refl _, b4⟩ (by dsimp only; omega)
          rintro ⟨i, ws⟩ ag ⟨k, hk, hk2, w1, w3, w4⟩ hrec
          dsimp only at hk w1 w3 w4
          subst hk
          unfold __labels_coverer__spread_s1 __labels_coverer__spread_k3
          dsimp only
          by_cases hkd : (k : Int) < ((at' g.2 (v : Int)).length : Int)
          · rw [if_pos hkd, ckT (by omega)]
            have hm : at' (at' g.2 (v : Int)) (k : Int) ∈ at' g.2 (v : Int) := mem_of_at (by omega)
            have hr := (hV.lk v hv _ hm).1
            have hcn := hC.nb (by omega) _ hm
            obtain ⟨q, hq⟩ : ∃ q : Nat, (at' (at' g.2 (v : Int)) (k : Int)).1 = q := ⟨(at' (at' g.2 (v : Int)) (k : Int)).1.toNat, by omega⟩
            rw [hq] at hr hcn ⊢
            obtain ⟨xs, er, hx⟩ := ih (fun u => S u ∨ u = v) ws q 1 w1 (by omega) (.inr rfl) (by omega) w4 hcn
            obtain ⟨⟨r', xs'⟩, er', hs⟩ := spread_ok hV hp f (fun u => S u ∨ u = v) ws q 1 w1 (by omega) (.inr rfl) (by omega)
            rw [er] at er'
            obtain ⟨rfl, rfl⟩ := Prod.mk.inj (Option.some.inj er')
            obtain ⟨s1, s2, s3, s4⟩ := hs rfl
            dsimp only at s1 s2 s3 s4
            rw [bindS er]
            dsimp only
            rw [if_neg (by simp), wr (by omega) (by omega)]
            exact hrec _ ⟨k + 1, by dsimp only; omega, by omega, s1, by dsimp only; omega, hx⟩ (by dsimp only; omega)
          · rw [if_neg hkd]
            exact ⟨_, rfl, rfl, w4⟩
        obtain ⟨⟨r, xs⟩, er, h1, h2⟩ := key
        dsimp only at h1 h2
        subst h1
        exact ⟨xs, er, h2⟩
    have k1 : ∃ xs, __labels_coverer__spread_k1 f (g, ps, vals) v val (m___labels_coverer__spread f) false = some (true, xs) ∧ Ext2 g xs c := by
      unfold __labels_coverer__spread_k1
      dsimp only
      rw [if_neg (by simp), ckT (by omega)]
      have e0 : Int.toNat (v : Int) = v := by omega
      rw [e0]
      by_cases hpt : 0 ≤ at' ps (v : Int)
      · rw [if_pos hpt, wr (by omega) (by omega)]
        have hcp := hC.pt hpt
        obtain ⟨q, hq⟩ : ∃ q : Nat, at' ps (v : Int) = q := ⟨(at' ps (v : Int)).toNat, by omega⟩
        rw [hq] at hpr hcp
        obtain ⟨xs, er, hx⟩ := ih (fun u => S u ∨ u = v) (vals.set v val) q (1 - val) hI1 (by omega) (by omega) (by omega) hE1 (by rw [hcp, hcv])
        obtain ⟨⟨r', xs'⟩, er', hs⟩ := spread_ok hV hp f (fun u => S u ∨ u = v) (vals.set v val) q (1 - val) hI1 (by omega) (by omega) (by omega)
        rw [er] at er'
        obtain ⟨rfl, rfl⟩ := Prod.mk.inj (Option.some.inj er')
        obtain ⟨s1, s2, s3, s4⟩ := hs rfl
        rw [hq, bindS er]
        exact k2 xs s1 s4 hx
      · rw [if_neg hpt]
        exact k2 _ hI1 (Nat.le_refl _) hE1
    by_cases hpt : at' ps (v : Int) < 0
    · rw [if_pos hpt]
      have : ¬ val = 1 := by have := hC.no hpt; omega
      rw [decide_eq_false this]
      exact k1
    · rw [if_neg hpt]; exact k1

/-! ## least closed values -/
structure Closed0 (g : GR) (ps c : List Int) : Prop where
  inv : Inv g ps (fun _ => False) c
  zero : ∀ v : Nat, v < g.2.length → at' ps (v : Int) < 0 → at' c (v : Int) = 0

structure IsLCE (g : GR) (ps a b : List Int) : Prop where
  clo : Closed0 g ps b
  ext : Ext2 g a b
  min : ∀ c, Closed0 g ps c → Ext2 g a c → Ext2 g b c

def NoCE (g : GR) (ps a : List Int) : Prop := ¬ ∃ c, Closed0 g ps c ∧ Ext2 g a c

theorem IsLCE.det {a b b' : List Int} (h : IsLCE g ps a b) (h' : IsLCE g ps a b') : b = b' := by
  have e1 := h.min b' h'.clo h'.ext
  have e2 := h'.min b h.clo h.ext
  have l1 := h.clo.inv.len
  have l2 := h'.clo.inv.len
  refine list_ext (by omega) fun v hv => ?_
  show at' b (v : Int) = at' b' (v : Int)
  by_cases hb : at' b (v : Int) ≠ -1
  · exact (e1 v (by omega) hb).symm
  · by_cases hb' : at' b' (v : Int) ≠ -1
    · exact e2 v (by omega) hb'
    · omega

open Classical in
noncomputable def LCE (g : GR) (ps a : List Int) : Option (List Int) := if h : ∃ b, IsLCE g ps a b then some (Classical.choose h) else none

theorem LCE_some {a b : List Int} (h : IsLCE g ps a b) : LCE g ps a = some b := by
  have hx : ∃ b, IsLCE g ps a b := ⟨b, h⟩
  unfold LCE
  rw [dif_pos hx, (Classical.choose_spec hx).det h]

theorem LCE_none {a : List Int} (h : NoCE g ps a) : LCE g ps a = none := by
  unfold LCE
  rw [dif_neg fun ⟨b, hb⟩ => h ⟨b, hb.clo, hb.ext⟩]

theorem set_spec (hV : VM g.1 g.2) (hp : Prt g ps) (hI : Closed0 g ps vals) (hv : v < g.2.length) (hun : at' vals (v : Int) = -1) {val : Int} (hval : val = 0 ∨ val = 1) :
    (∃ xs, m___labels_coverer__set 1000 (g, ps, vals) v val = some (true, xs) ∧ IsLCE g ps (vals.set v val) xs ∧ at' xs (v : Int) = val) ∨ (m___labels_coverer__set 1000 (g, ps, vals) v val = some (false, vals) ∧ NoCE g ps (vals.set v val)) := by
  have h24 := hV.n24
  have hlen := hI.inv.len
  have hu : un vals ≤ vals.length := List.count_le_length
  have back : ∀ c, Ext2 g (vals.set v val) c → Ext2 g vals c ∧ at' c (v : Int) = val := fun c hE => by
    refine ⟨fun u hu hne => ?_, ?_⟩
    · have huv : u ≠ v := fun h => hne (by rw [h]; exact hun)
      have := hE u hu (by rw [at_set1 _ _ _ (by omega), if_neg huv]; exact hne)
      rw [this, at_set1 _ _ _ (by omega), if_neg huv]
    · have := hE v hv (by rw [at_set1 _ _ _ (by omega), if_pos rfl]; omega)
      rw [this, at_set1 _ _ _ (by omega), if_pos rfl]
  unfold m___labels_coverer__set
  dsimp only
  rw [ckT (by simp; omega)]
  obtain ⟨⟨r, xs⟩, er, hs⟩ := spread_ok hV hp 1000 _ vals v val hI.inv hv hval (by omega)
  rw [bindS er]
  cases r with
  | true =>
    obtain ⟨s1, s2, s3, s4⟩ := hs rfl
    dsimp only at s1 s2 s3 s4
    refine .inl ⟨xs, rfl, ⟨⟨s1, fun u hu hpu => ?_⟩, fun u hu hne => ?_, fun c hc hE => ?_⟩, s3⟩
    · have h0 := hI.zero u hu hpu
      rw [s2 u hu (by omega), h0]
    · rw [at_set1 _ _ _ (by omega)] at hne ⊢
      by_cases huv : u = v
      · subst huv; rw [if_pos rfl]; exact s3
      · rw [if_neg huv] at hne ⊢; exact s2 u hu hne
    · obtain ⟨h1, h2⟩ := back c hE
      obtain ⟨ys, ey, hy⟩ := spread_min hV hp hc.inv 1000 _ vals v val hI.inv hv hval (by omega) h1 h2
      rw [er] at ey
      obtain ⟨_, rfl⟩ := Prod.mk.inj (Option.some.inj ey)
      exact hy
  | false =>
    refine .inr ⟨rfl, fun ⟨c, hc, hE⟩ => ?_⟩
    obtain ⟨h1, h2⟩ := back c hE
    obtain ⟨ys, ey, hy⟩ := spread_min hV hp hc.inv 1000 _ vals v val hI.inv hv hval (by omega) h1 h2
    rw [er] at ey
    cases (Prod.mk.inj (Option.some.inj ey)).1

/-- one node is decided -/
noncomputable def gstep (g : GR) (ps : List Int) (k : Nat) (vals : List Int) : Option (List Int) :=
  if at' vals (k : Int) = -1 then (match LCE g ps (vals.set k 0) with | some b => some b | none => LCE g ps (vals.set k 1)) else some vals
noncomputable def gr (g : GR) (ps : List Int) : Nat → Option (List Int)
  | 0 => LCE g ps (List.replicate g.2.length (-1))
  | k + 1 => (gr g ps k).bind (gstep g ps k)

theorem gr_none {j k : Nat} (h : gr g ps j = none) (hjk : j ≤ k) : gr g ps k = none := by
  induction k with
  | zero =>
    have : j = 0 := by omega
    subst this; exact h
  | succ k ih =>
    by_cases e : j = k + 1
    · subst e; exact h
    · show (gr g ps k).bind _ = none
      rw [ih (by omega)]; rfl

def ptns (g : GR) (st : List Int) : List Int := (List.range g.2.length).map (ptn g st)
theorem ptns_len (g : GR) (st : List Int) : (ptns g st).length = g.2.length := by simp [ptns]
theorem ptns_at {g : GR} {st : List Int} {v : Nat} (hv : v < g.2.length) : at' (ptns g st) (v : Int) = ptn g st v := by
  rw [at'_nat, List.getD_eq_getElem?_getD]
  simp [ptns, hv]

def Mut (g : GR) (st : List Int) : Prop := ∀ v : Nat, v < g.2.length → 0 ≤ ptn g st v → ptn g st (ptn g st v).toNat = v
def CovL (g : GR) (xs : List Int) (l : List (Int × Int)) : Prop := l.length = g.2.length ∧ ∀ v : Nat, v < g.2.length → at' l (v : Int) = (at' xs (v : Int), 0)

theorem cover_k5' (hV : VM g.1 g.2) {st : List Int} (hst : st.length = g.2.length) (hvl : vals.length = g.2.length) : OK (fun q : AnsC => q.2 = true ∧ CovL g vals q.1) (labels_cover_k5 1000 st vals) := by
  have h24 := hV.n24
  unfold labels_cover_k5
  rw [ckT (by omega)]
  have e0 : Int.toNat (st.length : Int) = g.2.length := by omega
  rw [e0]
  refine iter_ok (fun s : Int × List (Int × Int) => ∃ k : Nat, s.1 = k ∧ k ≤ g.2.length ∧ s.2.length = g.2.length ∧ ∀ v : Nat, v < g.2.length → at' s.2 (v : Int) = (if v < k then at' vals (v : Int) else 0, 0)) (fun s => g.2.length - s.1.toNat) ?_ 1000 _ ⟨0, rfl, by omega, by simp, fun v hv => by dsimp only; rw [at_replicate _ _ hv, if_neg (by omega)]⟩ (by dsimp only; omega)
  rintro ⟨i, l⟩ ag ⟨k, hk, hk2, hl, hle⟩ hrec
  dsimp only at hk hl hle
  subst hk
  unfold labels_cover_s1 labels_cover_k6
  dsimp only
  by_cases hkn : (k : Int) < (vals.length : Int)
  · rw [if_pos hkn, ckT (by omega), ckT (by omega), wr (by omega) (by omega)]
    refine hrec _ ⟨k + 1, by dsimp only; omega, by omega, by simpa using hl, fun v hv => ?_⟩ (by dsimp only; omega)
    dsimp only
    have e1 : Int.toNat (k : Int) = k := by omega
    rw [e1, at_setP _ _ _ (by omega)]
    by_cases hvk : v = k
    · subst hvk
      rw [if_pos rfl, if_pos (by omega), hle v hv]
    · rw [if_neg hvk, hle v hv]
      by_cases h2 : v < k
      · rw [if_pos h2, if_pos (by omega)]
      · rw [if_neg h2, if_neg (by omega)]
  · rw [if_neg hkn]
    exact ⟨_, rfl, rfl, hl, fun v hv => by rw [hle v hv, if_pos (by omega)]⟩

/-- what cover answers -/
def CovS (g : GR) (st : List Int) (q : AnsC) : Prop := (Mut g st ∧ ∃ xs, gr g (ptns g st) g.2.length = some xs ∧ q.2 = true ∧ CovL g xs q.1) ∨ (q = ([], false) ∧ ¬ (Mut g st ∧ gr g (ptns g st) g.2.length ≠ none))

theorem cover_spec (hV : VM g.1 g.2) {st : List Int} (hst : st.length = g.2.length) (hfit : ∀ v : Nat, v < g.2.length → FitAt 4 g v (at' st (v : Int))) : OK (CovS g st) (m_labels_cover 1000 g st) := by
  have h24 := hV.n24
  have hrng : ∀ v : Nat, v < g.2.length → -1 ≤ ptn g st v ∧ ptn g st v ≤ (g.2.length : Int) - 1 := fun v hv => ptn_rng hV hv (hfit v hv)
  have no : ¬ (Mut g st ∧ gr g (ptns g st) g.2.length ≠ none) → OK (CovS g st) (some (([] : List (Int × Int)), false)) := fun h => ⟨_, rfl, .inr ⟨rfl, h⟩⟩
  unfold m_labels_cover
  rw [ckT (by omega), ckT (by omega)]
  unfold labels_cover_k1
  have e0 : Int.toNat (st.length : Int) = g.2.length := by omega
  rw [e0]
  refine iter_ok (fun s : Int × List Int × List Int => ∃ k : Nat, s.1 = k ∧ k ≤ g.2.length ∧ s.2.1.length = g.2.length ∧ s.2.2.length = g.2.length ∧ (∀ v : Nat, v < k → at' s.2.1 (v : Int) = -1) ∧ ∀ v : Nat, v < k → at' s.2.2 (v : Int) = ptn g st v) (fun s => g.2.length - s.1.toNat) ?_ 1000 _ ⟨0, rfl, by omega, by simp, by simp, fun v hv => by omega, fun v hv => by omega⟩ (by dsimp only; omega)
  rintro ⟨i, vs, ps⟩ ag ⟨k, hk, hk2, hl1, hl2, hv1, hp1⟩ hrec
  dsimp only at hk hl1 hl2 hv1 hp1
  subst hk
  have e1 : Int.toNat (k : Int) = k := by omega
  unfold labels_cover_s5
  dsimp only
  by_cases hkn : (k : Int) < (st.length : Int)
  · rw [if_pos hkn, ckT (by omega), ckT (by omega), ckT (by omega), e1]
    have nxt : ∀ p : Int, p = ptn g st k → OK (CovS g st) (labels_cover_k10 ((k : Int), vs, ps) ag (List.set ps k p)) := by
      intro p hp
      unfold labels_cover_k10
      dsimp only
      rw [wr (by omega) (by omega), e1]
      refine hrec _ ⟨k + 1, by dsimp only; omega, by omega, by simpa using hl1, by simpa using hl2, fun v hv => ?_, fun v hv => ?_⟩ (by dsimp only; omega)
      · dsimp only
        rw [at_setP _ _ _ (by omega)]
        by_cases hvk : v = k
        · rw [if_pos hvk]
        · rw [if_neg hvk]; exact hv1 v (by omega)
      · dsimp only
        rw [at_setP _ _ _ (by omega)]
        by_cases hvk : v = k
        · rw [if_pos hvk, hp, hvk]
        · rw [if_neg hvk]; exact hp1 v (by omega)
    have hf := hfit k (by omega)
    rw [FitAt, if_pos (.inr rfl)] at hf
    have e : (at' g.2 (k : Int)).length = (row g k).length := rfl
    by_cases h0 : 0 ≤ at' st (k : Int)
    · rw [if_pos h0, ckT (by omega), ckT (by omega), ckT (by simp; omega), List.set_set]
      exact nxt _ (by unfold ptn; rw [if_pos h0])
    · rw [if_neg h0]
      exact nxt _ (by unfold ptn; rw [if_neg h0])
  rw [if_neg hkn]
  have hkk : k = g.2.length := by omega
  subst hkk
  have hpse : ps = ptns g st := list_ext (by rw [ptns_len]; exact hl2) fun v hv => by
    show at' ps (v : Int) = at' (ptns g st) (v : Int)
    rw [ptns_at (by omega)]; exact hp1 v (by omega)
  have hvse : vs = List.replicate g.2.length (-1) := list_ext (by simpa using hl1) fun v hv => by
    show at' vs (v : Int) = at' _ (v : Int)
    rw [at_replicate _ _ (by omega)]; exact hv1 v (by omega)
  -- are they mutual?
  unfold labels_cover_k2
  refine iter_ok (fun s : Int => ∃ k : Nat, s = k ∧ k ≤ g.2.length ∧ ∀ v : Nat, v < k → 0 ≤ ptn g st v → ptn g st (ptn g st v).toNat = v) (fun s => g.2.length - s.toNat) ?_ 1000 _ ⟨0, rfl, by omega, fun v hv => by omega⟩ (by omega)
  rintro i ag2 ⟨j, rfl, hj2, hmu⟩ hrec2
  unfold labels_cover_s4 labels_cover_k9
  dsimp only
  by_cases hjn : (j : Int) < (ps.length : Int)
  · have hpj := hp1 j (by omega)
    have hrj := hrng j (by omega)
    rw [if_pos hjn, ckT (by omega), hpj]
    have nxt : (0 ≤ ptn g st j → ptn g st (ptn g st j).toNat = j) → OK (CovS g st) (ag2 ((j : Int) + 1)) := fun hn =>
      hrec2 _ ⟨j + 1, by omega, by omega, fun v hv => by
        by_cases hvj : v = j
        · subst hvj; exact hn
        · exact hmu v (by omega)⟩ (by omega)
    by_cases h0 : 0 ≤ ptn g st j
    · rw [if_pos h0, ckT (by omega)]
      obtain ⟨q, hq⟩ : ∃ q : Nat, ptn g st j = q := ⟨(ptn g st j).toNat, by omega⟩
      rw [hq] at hrj ⊢
      have hpq := hp1 q (by omega)
      rw [hpq, wr (by omega) (by omega)]
      by_cases hm : ptn g st q = j
      · rw [decide_eq_false (fun hne => hne hm), if_neg (by simp)]
        exact nxt (fun _ => by rw [hq]; exact hm)
      · rw [decide_eq_true hm, if_pos rfl]
        refine no fun ⟨hM, _⟩ => hm ?_
        have := hM j (by omega) h0
        rw [hq] at this
        exact this
    · rw [if_neg h0, if_neg (by simp), wr (by omega) (by omega)]; exact nxt fun hc => absurd hc h0
  rw [if_neg hjn]
  have hmut : Mut g st := fun v hv => hmu v (by omega)
  have hP : Prt g ps := ⟨hl2, fun v hv => by rw [hp1 v hv]; exact (hrng v hv).2⟩
  have hI0 : Inv g ps (fun _ => False) vs := ⟨hl1, fun v hv => .inl (hv1 v hv), fun v hv _ hne => absurd (hv1 v hv) hne⟩
  rw [← hpse] at no
  -- those without a partner
  unfold labels_cover_k3
  dsimp only
  refine iter_ok (fun s : Int × List Int => ∃ k : Nat, s.1 = k ∧ k ≤ g.2.length ∧ Inv g ps (fun _ => False) s.2 ∧ (∀ v : Nat, v < k → at' ps (v : Int) < 0 → at' s.2 (v : Int) = 0) ∧ ∀ c, Closed0 g ps c → Ext2 g s.2 c) (fun s => g.2.length - s.1.toNat) ?_ 1000 _ ⟨0, rfl, by omega, hI0, fun v hv => by omega, fun c _ v hv hne => absurd (hv1 v hv) hne⟩ (by dsimp only; omega)
  rintro ⟨i, ws⟩ ag3 ⟨m, hm, hm2, hIw, hzw, hmw⟩ hrec3
  dsimp only at hm hIw hzw hmw
  subst hm
  have hwl := hIw.len
  have huw : un ws ≤ ws.length := List.count_le_length
  unfold labels_cover_s3 labels_cover_k8
  dsimp only
  by_cases hmn : (m : Int) < (ps.length : Int)
  · rw [if_pos hmn, ckT (by omega)]
    by_cases hneg : at' ps (m : Int) < 0
    · rw [if_pos hneg]
      unfold m___labels_coverer__set
      dsimp only
      rw [ckT (by simp; omega)]
      obtain ⟨⟨r, xs⟩, er, hs⟩ := spread_ok hV hP 1000 _ ws m 0 hIw (by omega) (.inl rfl) (by omega)
      rw [bindS er]
      cases r with
      | false =>
        rw [if_neg (by simp)]
        show OK (CovS g st) (some _)
        refine no fun ⟨_, hg⟩ => hg (gr_none (j := 0) ?_ (by omega))
        refine LCE_none fun ⟨c, hc, _⟩ => ?_
        obtain ⟨ys, ey, _⟩ := spread_min hV hP hc.inv 1000 _ ws m 0 hIw (by omega) (.inl rfl) (by omega) (hmw c hc) (hc.zero m (by omega) hneg)
        rw [er] at ey
        cases (Prod.mk.inj (Option.some.inj ey)).1
      | true =>
        obtain ⟨s1, s2, s3, s4⟩ := hs rfl
        dsimp only at s1 s2 s3 s4 ⊢
        rw [if_pos rfl]
        rw [bindS (show some (true, xs) = some (true, xs) from rfl)]
        dsimp only
        rw [if_neg (by simp), wr (by omega) (by omega)]
        refine hrec3 _ ⟨m + 1, by dsimp only; omega, by omega, s1, fun v hv hpv => ?_, fun c hc => ?_⟩ (by dsimp only; omega)
        · dsimp only
          by_cases hvm : v = m
          · subst hvm; exact s3
          · have := hzw v (by omega) hpv
            rw [s2 v (by omega) (by omega), this]
        · obtain ⟨ys, ey, hy⟩ := spread_min hV hP hc.inv 1000 _ ws m 0 hIw (by omega) (.inl rfl) (by omega) (hmw c hc) (hc.zero m (by omega) hneg)
          rw [er] at ey
          obtain ⟨_, rfl⟩ := Prod.mk.inj (Option.some.inj ey)
          exact hy
    · rw [if_neg hneg, if_neg (by simp), wr (by omega) (by omega)]
      refine hrec3 _ ⟨m + 1, by dsimp only; omega, by omega, hIw, fun v hv hpv => ?_, hmw⟩ (by dsimp only; omega)
      by_cases hvm : v = m
      · subst hvm; exact absurd hpv hneg
      · exact hzw v (by omega) hpv
  rw [if_neg hmn]
  have hg0 : gr g ps 0 = some ws := by
    refine LCE_some ⟨⟨hIw, fun v hv hp => hzw v (by omega) hp⟩, fun v hv hne => absurd ?_ hne, fun c hc _ => hmw c hc⟩
    exact at_replicate _ _ hv
  -- the others
  unfold labels_cover_k4
  refine iter_ok (fun s : Int × List Int => ∃ k : Nat, s.1 = k ∧ k ≤ g.2.length ∧ Closed0 g ps s.2 ∧ gr g ps k = some s.2) (fun s => g.2.length - s.1.toNat) ?_ 1000 _ ⟨0, rfl, by omega, ⟨hIw, fun v hv hp => hzw v (by omega) hp⟩, hg0⟩ (by dsimp only; omega)
  rintro ⟨i, zs⟩ ag4 ⟨t, ht, ht2, hIz, hz⟩ hrec4
  dsimp only at ht hIz hz
  subst ht
  have hzl := hIz.inv.len
  unfold labels_cover_s2 labels_cover_k7
  dsimp only
  by_cases htn : (t : Int) < (st.length : Int)
  · rw [if_pos htn, ckT (by omega)]
    have nxt : ∀ xs : List Int, Closed0 g ps xs → gstep g ps t zs = some xs → OK (CovS g st) (ag4 ((t : Int) + 1, xs)) := by
      intro xs x1 x2
      refine hrec4 _ ⟨t + 1, by dsimp only; omega, by omega, x1, ?_⟩ (by dsimp only; omega)
      show (gr g ps t).bind _ = _
      rw [hz]; exact x2
    by_cases hun : at' zs (t : Int) = -1
    · rw [if_pos hun]
      rcases set_spec hV hP hIz (v := t) (by omega) hun (val := 0) (.inl rfl) with ⟨xs, er, hL, _⟩ | ⟨er, hN⟩
      · rw [bindS er]
        dsimp only
        rw [if_neg (by simp), if_neg (by simp), wr (by omega) (by omega)]
        refine nxt xs hL.clo ?_
        unfold gstep
        rw [if_pos hun, LCE_some hL]
      · rw [bindS er]
        dsimp only
        rw [if_pos (by rfl)]
        rcases set_spec hV hP hIz (v := t) (by omega) hun (val := 1) (.inr rfl) with ⟨xs, er', hL, _⟩ | ⟨er', hN'⟩
        · rw [bindS er']
          dsimp only
          rw [if_neg (by simp), wr (by omega) (by omega)]
          refine nxt xs hL.clo ?_
          unfold gstep
          rw [if_pos hun, LCE_none hN, LCE_some hL]
        · rw [bindS er']
          refine no fun ⟨_, hg⟩ => hg (gr_none (j := t + 1) ?_ (by omega))
          show (gr g ps t).bind _ = _
          rw [hz]
          show gstep g ps t zs = none
          unfold gstep
          rw [if_pos hun, LCE_none hN, LCE_none hN']
    · rw [if_neg hun, if_neg (by simp), wr (by omega) (by omega)]
      refine nxt zs hIz ?_
      unfold gstep
      rw [if_neg hun]
  rw [if_neg htn]
  have htt : t = g.2.length := by omega
  subst htt
  obtain ⟨q, eq, h1, h2⟩ := cover_k5' hV hst hzl
  exact ⟨q, eq, .inl ⟨hmut, zs, by rw [← hpse]; exact hz, h1, h2⟩⟩
end
end Go.Proofs.Ytmajgimhmfeliaa
end
section
set_option linter.unusedVariables false
set_option linter.unusedSimpArgs false
namespace Go.Proofs.Ytmajgimhmfeliaa
open Go.Sx
set_option linter.unusedVariables false
section
variable {g : GR} {st : List Int} {l : List (Int × Int)}
theorem at_map {α : Type} [Inhabited α] (f : Nat → α) {n v : Nat} (h : v < n) : at' ((List.range n).map f) (v : Int) = f v := by
  rw [at'_nat, List.getD_eq_getElem?_getD]
  simp [h]

/-! ## least closed values exist -/
theorem LCE_spec {ps a b : List Int} (h : LCE g ps a = some b) : IsLCE g ps a b := by
  unfold LCE at h
  split at h
  · rename_i hx
    rw [← Option.some.inj h]
    exact Classical.choose_spec hx
  · cases h

theorem gr_ok {ps : List Int} (hV : VM g.1 g.2) (hp : Prt g ps) : ∀ (k : Nat) (xs : List Int), k ≤ g.2.length → gr g ps k = some xs → Closed0 g ps xs ∧ ∀ v : Nat, v < k → at' xs (v : Int) ≠ -1
  | 0, xs, _, h => ⟨(LCE_spec h).clo, fun v hv => by omega⟩
  | k + 1, xs, hk, h => by
    change (gr g ps k).bind _ = _ at h
    cases hz : gr g ps k with
    | none => rw [hz] at h; cases h
    | some zs =>
      rw [hz] at h
      obtain ⟨c1, c2⟩ := gr_ok hV hp k zs (by omega) hz
      have hzl := c1.inv.len
      change gstep g ps k zs = some xs at h
      unfold gstep at h
      by_cases hun : at' zs (k : Int) = -1
      · rw [if_pos hun] at h
        have fin : ∀ val : Int, val = 0 ∨ val = 1 → IsLCE g ps (zs.set k val) xs → Closed0 g ps xs ∧ ∀ v : Nat, v < k + 1 → at' xs (v : Int) ≠ -1 := by
          intro val hval hL
          refine ⟨hL.clo, fun v hv => ?_⟩
          by_cases hvk : v = k
          · subst hvk
            have := hL.ext v (by omega) (by rw [at_set1 _ _ _ (by omega), if_pos rfl]; omega)
            rw [this, at_set1 _ _ _ (by omega), if_pos rfl]; omega
          · have h2 := c2 v (by omega)
            have := hL.ext v (by omega) (by rw [at_set1 _ _ _ (by omega), if_neg hvk]; exact h2)
            rw [this, at_set1 _ _ _ (by omega), if_neg hvk]; exact h2
        cases h0 : LCE g ps (zs.set k 0) with
        | some b =>
          rw [h0] at h
          obtain rfl := Option.some.inj h
          exact fin 0 (.inl rfl) (LCE_spec h0)
        | none =>
          rw [h0] at h
          exact fin 1 (.inr rfl) (LCE_spec h)
      · rw [if_neg hun] at h
        obtain rfl := Option.some.inj h
        refine ⟨c1, fun v hv => ?_⟩
        by_cases hvk : v = k
        · subst hvk; exact hun
        · exact c2 v (by omega)

/-! ## what is to be proved -/
def HoldsP (kind : Int) (g : GR) (st : List Int) : Prop :=
  if kind = 1 then TreeP g st else if kind = 2 then ∃ a, OnlyAt st 1 a else if kind = 3 then ∀ d, Dist g 0 d → Sides g d else Mut g st ∧ gr g (ptns g st) g.2.length ≠ none
def LabP (kind : Int) (g : GR) (st : List Int) (l : List (Int × Int)) : Prop :=
  if kind = 1 then ∃ r, TreeR g st r ∧ TreeL g st r l else if kind = 2 then ∃ a, OnlyAt st 1 a ∧ LeadL g a l else if kind = 3 then ∃ d, Dist g 0 d ∧ Sides g d ∧ SideL g d l else Mut g st ∧ ∃ xs, gr g (ptns g st) g.2.length = some xs ∧ CovL g xs l

theorem Dist.unique (hV : VG g) {s : Nat} (hs : s < g.2.length) {d e : List Int} (h : Dist g s d) (h2 : Dist g s e) : d = e := by
  refine list_ext (by rw [h.len, h2.len]) fun v hv => ?_
  have hv' : v < g.2.length := by rw [← h.len]; exact hv
  obtain ⟨f, _, hf⟩ := distances_ok hV hv'
  rw [Dist.symm hV h hf hs hv', Dist.symm hV h2 hf hs hv']

theorem prove_spec (hV : VM g.1 g.2) (hC : Conn g) {kind : Int} (hF : Fit kind g st) : OK (fun q : List (Int × Int) × Int => (q.2 = 0 ∧ HoldsP kind g st ∧ LabP kind g st q.1) ∨ (q = ([], 7) ∧ ¬ HoldsP kind g st)) (m_labels_Prove 1000 kind g st) := by
  have hk := hF.k14
  have hg : VG g := hV.vg
  have h1 := hV.n1
  have wrap : ∀ q : List (Int × Int) × Bool, (if kind = 1 then m_labels_tree 1000 g st else if kind = 2 then m_labels_leader 1000 g st else if kind = 3 then m_labels_bipartite 1000 g st else m_labels_cover 1000 g st) = some q →
      ((q.2 = true ∧ HoldsP kind g st ∧ LabP kind g st q.1) ∨ (q = ([], false) ∧ ¬ HoldsP kind g st)) → OK (fun q : List (Int × Int) × Int => (q.2 = 0 ∧ HoldsP kind g st ∧ LabP kind g st q.1) ∨ (q = ([], 7) ∧ ¬ HoldsP kind g st)) (m_labels_Prove 1000 kind g st) := by
    intro q hq h
    refine ⟨_, prove_eq hg hC hF q hq, ?_⟩
    rcases h with ⟨h1, h2⟩ | ⟨rfl, h2⟩
    · rw [if_pos h1]; exact .inl ⟨rfl, h2⟩
    · exact .inr ⟨rfl, h2⟩
  obtain rfl | rfl | rfl | rfl : kind = 1 ∨ kind = 2 ∨ kind = 3 ∨ kind = 4 := by omega
  · obtain ⟨q, hq, h⟩ := tree_ok' hg hF
    refine wrap q hq ?_
    rcases h with ⟨h1, r, h2, h3⟩ | ⟨h1, h2⟩
    · exact .inl ⟨h1, ⟨r, h2⟩, r, h2, h3⟩
    · exact .inr ⟨h1, h2⟩
  · obtain ⟨q, hq, h⟩ := leader_ok hg hF
    refine wrap q hq ?_
    rcases h with ⟨h1, r, h2, h3⟩ | ⟨h1, h2⟩
    · exact .inl ⟨h1, ⟨r, h2⟩, r, h2, h3⟩
    · exact .inr ⟨h1, h2⟩
  · obtain ⟨q, hq, d, hD, h⟩ := bipartite_ok hg hC hF
    refine wrap q hq ?_
    rcases h with ⟨h1, h2, h3⟩ | ⟨h1, h2⟩
    · exact .inl ⟨h1, fun e he => (by rw [Dist.unique hg (by omega) he hD]; exact h2), d, hD, h2, h3⟩
    · exact .inr ⟨h1, fun hh => h2 (hh d hD)⟩
  · obtain ⟨q, hq, h⟩ := cover_spec hV hF.len hF.fit
    refine wrap q hq ?_
    rcases h with ⟨h1, xs, h2, h3, h4⟩ | ⟨h1, h2⟩
    · exact .inl ⟨h3, ⟨h1, by rw [h2]; simp⟩, h1, xs, h2, h4⟩
    · exact .inr ⟨h1, h2⟩

theorem LabP.len {kind : Int} (h : LabP kind g st l) : l.length = g.2.length := by
  unfold LabP at h
  split at h
  · obtain ⟨r, _, h⟩ := h; exact h.1
  · split at h
    · obtain ⟨r, _, h⟩ := h; exact h.1
    · split at h
      · obtain ⟨d, _, _, h⟩ := h; exact h.1
      · obtain ⟨_, xs, _, h⟩ := h; exact h.1

theorem lnk_node (hV : VG g) {v i : Nat} (hv : v < g.2.length) (hi : i < (row g v).length) : ∃ u : Nat, u < g.2.length ∧ (lnk (row g v) i).1 = (u : Int) := by
  obtain ⟨u, hu, he, _⟩ := hV.port hv hi; exact ⟨u, hu, he⟩

theorem prt_of (hV : VM g.1 g.2) (hfit : ∀ v : Nat, v < g.2.length → FitAt 4 g v (at' st (v : Int))) : Prt g (ptns g st) := ⟨ptns_len g st, fun v hv => by rw [ptns_at hv]; exact (ptn_rng hV hv (hfit v hv)).2⟩

/-! ## the converse -/
end
end Go.Proofs.Ytmajgimhmfeliaa
end
section
set_option linter.unusedVariables false
set_option linter.unusedSimpArgs false
namespace Go.Proofs.Ytmajgimhmfeliaa
open Go.Sx
set_option linter.unusedVariables false
set_option linter.unusedSimpArgs false
/-- a loop that stops early, or is short -/
theorem iter_ifB {X R : Type} {step : X → (X → Option R) → Option R} {K : X → Option R} {bad : R} (N : Nat) (p : Nat → Prop) (I : Nat → X → Prop) (B : Nat)
    (hok : ∀ (k : Nat) x ag, k < N → k < B → I k x → p k → ∃ x', I (k + 1) x' ∧ step x ag = ag x') (hbad : ∀ (k : Nat) x ag, k < N → k < B → I k x → ¬ p k → step x ag = some bad) (hend : ∀ x ag, I N x → N < B → step x ag = K x) :
    ∀ (fuel : Nat) (x : X), I 0 x → B ≤ fuel → (N < B ∨ ∃ k, k < N ∧ k < B ∧ ¬ p k) → ((∀ k, k < N → p k) → ∃ x', I N x' ∧ iter step fuel x = K x') ∧ (¬ (∀ k, k < N → p k) → iter step fuel x = some bad) := by
  intro fuel x hI hf hB
  have bads : ∀ (d a fuel : Nat) (x : X), I a x → a + d < N → a + d < B → ¬ p (a + d) → d < fuel → iter step fuel x = some bad := by
    intro d
    induction d with
    | zero =>
      intro a fuel x hI h1 h2 hp hf
      obtain ⟨f, rfl⟩ : ∃ f, fuel = f + 1 := ⟨fuel - 1, by omega⟩
      exact hbad a x _ h1 h2 hI hp
    | succ d ih =>
      intro a fuel x hI h1 h2 hp hf
      obtain ⟨f, rfl⟩ : ∃ f, fuel = f + 1 := ⟨fuel - 1, by omega⟩
      by_cases hpa : p a
      · obtain ⟨x', hI', hs⟩ := hok a x (iter step f) (by omega) (by omega) hI hpa
        have hs : iter step (f + 1) x = iter step f x' := hs
        rw [hs]
        exact ih (a + 1) f x' hI' (by omega) (by omega) (by rw [show a + 1 + d = a + (d + 1) by omega]; exact hp) (by omega)
      · exact hbad a x _ (by omega) (by omega) hI hpa
  have goods : ∀ (d a fuel : Nat) (x : X), I a x → a + d = N → N < B → (∀ k, a ≤ k → k < N → p k) → d < fuel → ∃ x', I N x' ∧ iter step fuel x = K x' := by
    intro d
    induction d with
    | zero =>
      intro a fuel x hI h1 h2 hp hf
      obtain ⟨f, rfl⟩ : ∃ f, fuel = f + 1 := ⟨fuel - 1, by omega⟩
      obtain rfl : a = N := by omega
      exact ⟨x, hI, hend x _ hI h2⟩
    | succ d ih =>
      intro a fuel x hI h1 h2 hp hf
      obtain ⟨f, rfl⟩ : ∃ f, fuel = f + 1 := ⟨fuel - 1, by omega⟩
      obtain ⟨x', hI', hs⟩ := hok a x (iter step f) (by omega) (by omega) hI (hp a (Nat.le_refl _) (by omega))
      have hs : iter step (f + 1) x = iter step f x' := hs
      rw [hs]
      exact ih (a + 1) f x' hI' (by omega) h2 (fun k h1 h2 => hp k (by omega) h2) (by omega)
  constructor
  · intro h
    rcases hB with hB | ⟨k, h1, _, h2⟩
    · exact goods N 0 fuel x hI (by omega) hB (fun k _ hk => h k hk) (by omega)
    · exact absurd (h k h1) h2
  · intro h
    have : ∃ k, k < N ∧ k < B ∧ ¬ p k := by
      rcases hB with hB | hB
      · apply Classical.byContradiction
        intro hc
        exact h fun k hk => Classical.byContradiction fun hp => hc ⟨k, hk, by omega, hp⟩
      · exact hB
    obtain ⟨k, h1, h2, h3⟩ := this
    exact bads k 0 fuel x hI (by omega) (by omega) (by rw [Nat.zero_add]; exact h3) (by omega)

theorem row_bound {ps : List (List (Int × Int))} (hn : ps.length ≤ 30) {v : Nat} (hv : v < ps.length) : (at' ps (v : Int)).length < 1000 ∨ ∃ k, k < (at' ps (v : Int)).length ∧ k < 1000 ∧ ¬ LinkOk (at' ps (v : Int)) v ps.length k := by
  by_cases h : (at' ps (v : Int)).length < 1000
  · exact .inl h
  · right
    apply Classical.byContradiction
    intro hc
    have hok : ∀ k, k < 40 → LinkOk (at' ps (v : Int)) v ps.length k := fun k hk => Classical.byContradiction fun hp => hc ⟨k, by omega, by omega, hp⟩
    have := pigeon ps.length (fun i => (lnk (at' ps (v : Int)) i).1.toNat) 40 (fun i hi => by have := (hok i hi).1; omega) (fun i j hij hj he => by
      have h1 := (hok i (by omega)).1
      have h2 := (hok j hj).1
      have h3 := (hok j hj).2.2.2 i hij
      exact h3 (by omega))
    omega

theorem refValid_gen (g : GR) : (VG g → m_ref01_Valid 1000 g = some true) ∧ (¬ VG g → m_ref01_Valid 1000 g = some false) := by
  unfold m_ref01_Valid
  rw [refIn_eq, bindS rfl]
  by_cases h1 : 1 ≤ g.2.length ∧ g.2.length ≤ 24
  rotate_left
  · rw [decide_eq_false (by omega)]
    exact ⟨fun h => absurd ⟨h.n1, h.n24⟩ h1, fun _ => rfl⟩
  rw [decide_eq_true (by omega), if_neg (by simp)]
  by_cases h2 : g.1.length = g.2.length
  rotate_left
  · rw [decide_eq_true (by omega)]
    exact ⟨fun h => absurd h.len h2, fun _ => rfl⟩
  rw [decide_eq_false (by omega)]
  unfold ref01_Valid_k1
  rw [if_neg (by simp)]
  have hids : ∀ (v : Nat) (ag : Int → Option Bool), v < g.2.length → ((∀ k, k < v → idOf g k ≠ idOf g v) → iter (ref01_Valid_s4 g v ag) 1000 0 = ag ((v : Int) + 1)) ∧ (¬ (∀ k, k < v → idOf g k ≠ idOf g v) → iter (ref01_Valid_s4 g v ag) 1000 0 = some false) := by
    intro v ag hv
    refine iter_if v _ (fun k ag2 hk hp => ?_) (fun k ag2 hk hp => ?_) (fun ag2 => ?_) 1000 (by omega)
    · unfold ref01_Valid_s4
      rw [if_pos (by omega), ckT (by omega), ckT (by omega), if_neg hp, wr (by omega) (by omega)]
    · unfold ref01_Valid_s4
      rw [if_pos (by omega), ckT (by omega), ckT (by omega), if_pos (Decidable.not_not.1 hp)]
    · unfold ref01_Valid_s4 ref01_Valid_k6
      rw [if_neg (by omega), wr (by omega) (by omega)]
  have outer := iter_if (step := ref01_Valid_s3 1000 g) (K := ref01_Valid_k2 1000 g ()) (bad := false) g.2.length (NodeOk g) (fun v ag hv hp => ?_) (fun v ag hv hp => ?_) (fun ag => ?_) 1000 (by omega)
  rotate_left
  · unfold ref01_Valid_s3 ref01_Valid_k7
    rw [if_pos (by omega), ckT (by omega), refIn_eq, decide_eq_true hp.id, bindS rfl, if_neg (by simp), ckT (by omega), if_neg (show ¬ ((g.2.length : Int) ≤ ((row g v).length : Int)) from by have := hp.deg; omega), ckT (by omega), (linksValid_eq (row g v) v g.2.length (by have := hp.deg; omega) (by omega)).1 hp.links, bindS rfl, if_neg (by simp)]
    exact (hids v ag hv).1 hp.ids
  · unfold ref01_Valid_s3 ref01_Valid_k7
    rw [if_pos (by omega), ckT (by omega), refIn_eq]
    by_cases a1 : 0 ≤ idOf g v ∧ idOf g v ≤ 255
    rotate_left
    · rw [decide_eq_false a1]; rfl
    rw [decide_eq_true a1, bindS rfl, if_neg (by simp), ckT (by omega)]
    by_cases a2 : (row g v).length < g.2.length
    rotate_left
    · rw [if_pos (show (g.2.length : Int) ≤ ((row g v).length : Int) by omega)]; rfl
    rw [if_neg (show ¬ (g.2.length : Int) ≤ ((row g v).length : Int) by omega), ckT (by omega)]
    by_cases a3 : LinksOk (row g v) v g.2.length
    rotate_left
    · rw [(linksValid_eq (row g v) v g.2.length (by omega) (by omega)).2 a3]; rfl
    rw [(linksValid_eq (row g v) v g.2.length (by omega) (by omega)).1 a3, bindS rfl, if_neg (by simp)]
    exact (hids v ag hv).2 fun a4 => hp ⟨a1, a2, a3, a4⟩
  · unfold ref01_Valid_s3
    rw [if_neg (by omega)]
  by_cases hn : ∀ v, v < g.2.length → NodeOk g v
  rotate_left
  · exact ⟨fun h => absurd h.node hn, fun _ => outer.2 hn⟩
  rw [outer.1 hn]
  unfold ref01_Valid_k2
  have inner : ∀ (v : Nat) (ag : Int → Option Bool), v < g.2.length → ((∀ i, i < (row g v).length → SymAt g v i) → iter (ref01_Valid_s2 1000 g v ag) 1000 0 = ag ((v : Int) + 1)) ∧ (¬ (∀ i, i < (row g v).length → SymAt g v i) → iter (ref01_Valid_s2 1000 g v ag) 1000 0 = some false) := by
    intro v ag hv
    have hv3 := (hn v hv).deg
    have body : ∀ (i : Nat) ag2, i < (row g v).length → (SymAt g v i → ref01_Valid_s2 1000 g v ag i ag2 = ag2 ((i : Int) + 1)) ∧ (¬ SymAt g v i → ref01_Valid_s2 1000 g v ag i ag2 = some false) := by
      intro i ag2 hi
      unfold ref01_Valid_s2
      rw [ckT (by omega), if_pos (show (i : Int) < ((row g v).length : Int) by omega), ckT (by omega), ckT (show 0 ≤ (i : Int) ∧ (i : Int) < ((row g v).length : Int) by omega)]
      have hu := ((hn v hv).links i hi).1
      obtain ⟨u, hu'⟩ : ∃ u : Nat, (lnk (row g v) i).1 = u := ⟨(lnk (row g v) i).1.toNat, by omega⟩
      have hun : u < g.2.length := by omega
      unfold SymAt
      rw [show (at' (at' g.2 (v : Int)) (i : Int)) = lnk (row g v) i from rfl, hu', refPort_eq g u v hun (by have := (hn u hun).deg; omega), bindS rfl]
      have hlk := (hn u hun).links
      rcases portOf_cases (row g u) v with ⟨j, hj, hjv, hjf, he⟩ | ⟨hf, he⟩
      · rw [he, if_neg (by omega), ckT (by omega), ckT (show 0 ≤ (j : Int) ∧ (j : Int) < ((at' g.2 (u : Int)).length : Int) from ⟨by omega, by have : j < (row g u).length := hj; exact_mod_cast this⟩)]
        unfold ref01_Valid_k5
        constructor
        · rintro ⟨k, hk, hkv, hkw⟩
          have hkj : k = j := by
            rcases Nat.lt_trichotomy k j with h | h | h
            · exact absurd hkv (hjf k h)
            · exact h
            · exact absurd (hjv.trans hkv.symm) ((hlk k hk).2.2.2 j h)
          subst hkj
          rw [if_neg (by rw [decide_eq_false]; simp; exact fun h => h hkw), wr (by omega) (by omega)]
        · intro h
          rw [if_pos]
          exact decide_eq_true fun hw => h ⟨j, hj, hjv, hw⟩
      · rw [he, if_pos (by decide)]
        exact ⟨fun ⟨j, hj, hjv, _⟩ => absurd hjv (hf j hj), fun _ => rfl⟩
    refine iter_if (row g v).length _ (fun i ag2 hi hp => (body i ag2 hi).1 hp) (fun i ag2 hi hp => (body i ag2 hi).2 hp) (fun ag2 => ?_) 1000 (by omega)
    unfold ref01_Valid_s2 ref01_Valid_k4
    rw [ckT (by omega), if_neg (show ¬ (((row g v).length : Nat) : Int) < ((row g v).length : Int) by omega), wr (by omega) (by omega)]
  have outer2 := iter_if (step := ref01_Valid_s1 1000 g) (K := some true) (bad := false) g.2.length (fun v => ∀ i, i < (row g v).length → SymAt g v i) (fun v ag hv hp => ?_) (fun v ag hv hp => ?_) (fun ag => ?_) 1000 (by omega)
  · exact ⟨fun h => outer2.1 h.sym, fun h => outer2.2 fun hs => h ⟨h1.1, h1.2, h2, hn, hs⟩⟩
  · unfold ref01_Valid_s1
    rw [if_pos (by omega)]
    exact (inner v ag hv).1 hp
  · unfold ref01_Valid_s1
    rw [if_pos (by omega)]
    exact (inner v ag hv).2 hp
  · unfold ref01_Valid_s1 ref01_Valid_k3
    rw [if_neg (by omega)]

theorem symmetric_gen (ps : List (List (Int × Int))) (hn : ps.length ≤ 30) : (SymPs ps → m_graph_symmetric 1000 ps = some true) ∧ (¬ SymPs ps → m_graph_symmetric 1000 ps = some false) := by
  unfold m_graph_symmetric
  have inner : ∀ (v : Nat) (m : List ((Int × Int) × Int)) ag, v < ps.length → (∀ z, z ∈ m ↔ Read ps v 0 z) →
      (LinksOk (at' ps (v : Int)) v ps.length → ∃ m', (∀ z, z ∈ m' ↔ Read ps (v + 1) 0 z) ∧ iter (graph_symmetric_s3 ps ((v : Int), m) ag) 1000 ((0 : Int), m) = ag ((v : Int) + 1, m')) ∧
      (¬ LinksOk (at' ps (v : Int)) v ps.length → iter (graph_symmetric_s3 ps ((v : Int), m) ag) 1000 ((0 : Int), m) = some false) := by
    intro v m ag hv hm
    have hbnd := row_bound hn hv
    have key := iter_ifB (step := graph_symmetric_s3 ps ((v : Int), m) ag) (K := fun x => ag ((v : Int) + 1, x.2)) (bad := false) (at' ps (v : Int)).length (LinkOk (at' ps (v : Int)) v ps.length) (fun i x => x.1 = (i : Int) ∧ ∀ z, z ∈ x.2 ↔ Read ps v i z) 1000 ?_ ?_ ?_ 1000 ((0 : Int), m) ⟨rfl, hm⟩ (by omega) hbnd
    · refine ⟨fun h => ?_, fun h => key.2 h⟩
      obtain ⟨x, ⟨hx1, hx2⟩, hx⟩ := key.1 h
      refine ⟨x.2, fun z => (hx2 z).trans ⟨?_, ?_⟩, hx⟩
      · rintro ⟨a, b, h1, h2, h3⟩; exact ⟨a, b, by omega, h2, h3⟩
      · rintro ⟨a, b, h1, h2, h3⟩
        refine ⟨a, b, ?_, h2, h3⟩
        by_cases ha : a = v
        · subst ha; exact .inr ⟨rfl, h2⟩
        · omega
    · rintro i ⟨x1, x2⟩ ag2 hi hi2 ⟨hx, hs⟩ ⟨p1, p2, p3, p4⟩
      dsimp only at hx hs
      subst hx
      have hg : mget (((v : Int), (lnk (at' ps (v : Int)) i).1)) x2 = none := by
        apply mget_none
        intro w hw
        obtain ⟨a, b, h1, h2, h3⟩ := (hs _).1 hw
        simp only [Prod.mk.injEq] at h3
        obtain ⟨⟨h4, h5⟩, _⟩ := h3
        have : a = v := by omega
        subst this
        have hb : b < i := by omega
        exact p4 b hb h5.symm
      refine ⟨((i : Int) + 1, mset (((v : Int), (lnk (at' ps (v : Int)) i).1)) (lnk (at' ps (v : Int)) i).2 x2), ⟨by simp, fun z => ?_⟩, ?_⟩
      · dsimp only
        rw [mem_mset hg, hs]
        constructor
        · rintro (rfl | ⟨a, b, h1, h2, h3⟩)
          · exact ⟨v, i, .inr ⟨rfl, by omega⟩, hi, rfl⟩
          · exact ⟨a, b, by omega, h2, h3⟩
        · rintro ⟨a, b, h1, h2, h3⟩
          by_cases hab : a = v ∧ b = i
          · left; rw [h3, hab.1, hab.2]
          · right; exact ⟨a, b, by omega, h2, h3⟩
      · replace p1 : 0 ≤ (at' (at' ps (v : Int)) (i : Int)).1 ∧ (at' (at' ps (v : Int)) (i : Int)).1 ≤ (ps.length : Int) - 1 := p1
        replace p3 : 1 ≤ (at' (at' ps (v : Int)) (i : Int)).2 ∧ (at' (at' ps (v : Int)) (i : Int)).2 ≤ 15 := p3
        unfold graph_symmetric_s3 graph_symmetric_k3 graph_symmetric_k4
        dsimp only
        rw [if_pos (by omega), ckT (by omega), if_neg (by omega), if_neg (by omega), if_neg (by rw [decide_eq_false p2]; simp), if_neg (by omega), if_neg (by rw [decide_eq_false (by omega)]; simp), hg, if_neg (by simp), wr (by omega) (by omega)]
    · rintro i ⟨x1, x2⟩ ag2 hi hi2 ⟨hx, hs⟩ hp
      dsimp only at hx hs
      subst hx
      unfold graph_symmetric_s3 graph_symmetric_k3 graph_symmetric_k4
      dsimp only
      rw [if_pos (by omega), ckT (by omega)]
      by_cases h1 : (lnk (at' ps (v : Int)) i).1 < 0
      · rw [if_pos h1, if_pos rfl]
      rw [if_neg h1]
      by_cases h2 : (ps.length : Int) ≤ (lnk (at' ps (v : Int)) i).1
      · rw [if_pos h2, if_pos rfl]
      rw [if_neg h2]
      by_cases h3 : (lnk (at' ps (v : Int)) i).1 = v
      · rw [if_pos (decide_eq_true h3)]
      rw [if_neg (by rw [decide_eq_false h3]; simp)]
      by_cases h4 : (lnk (at' ps (v : Int)) i).2 < 1
      · rw [if_pos h4, if_pos rfl]
      rw [if_neg h4]
      by_cases h5 : 15 < (lnk (at' ps (v : Int)) i).2
      · rw [if_pos (decide_eq_true h5)]
      rw [if_neg (by rw [decide_eq_false h5]; simp)]
      have : ∃ k, k < i ∧ (lnk (at' ps (v : Int)) k).1 = (lnk (at' ps (v : Int)) i).1 := by
        apply Classical.byContradiction
        intro hc
        exact hp ⟨by omega, h3, by omega, fun k hk he => hc ⟨k, hk, he⟩⟩
      obtain ⟨k, hk, he⟩ := this
      have hin := (hs _).2 ⟨v, k, .inr ⟨rfl, hk⟩, by omega, rfl⟩
      rw [if_pos]
      rw [← he]
      cases hg : mget (((v : Int), (lnk (at' ps (v : Int)) k).1)) x2 with
      | some w => rfl
      | none => exact absurd hin (by
          intro hin
          exact mget_none_mem hg hin)
    · rintro ⟨x1, x2⟩ ag2 ⟨hx, hs⟩ _
      dsimp only at hx hs
      subst hx
      unfold graph_symmetric_s3 graph_symmetric_k2
      dsimp only
      rw [if_neg (by omega), wr (by omega) (by omega)]
  have outer := iter_ifS (step := graph_symmetric_s2 1000 ps) (K := fun x => graph_symmetric_k1 x.2) (bad := false) ps.length (fun v => LinksOk (at' ps (v : Int)) v ps.length) (fun v x => x.1 = (v : Int) ∧ ∀ z, z ∈ x.2 ↔ Read ps v 0 z) ?_ ?_ ?_ 1000 ((0 : Int), []) ⟨rfl, fun z => ⟨fun h => (by cases h), fun ⟨a, b, h1, _⟩ => (by omega)⟩⟩ (by omega)
  rotate_left
  · rintro v ⟨x1, x2⟩ ag hv ⟨hx, hs⟩ hp
    dsimp only at hx hs
    subst hx
    obtain ⟨m', h1, h2⟩ := (inner v x2 ag hv hs).1 hp
    refine ⟨((v : Int) + 1, m'), ⟨by simp, h1⟩, ?_⟩
    · unfold graph_symmetric_s2
      dsimp only
      rw [if_pos (by omega), ckT (by omega)]
      exact h2
  · rintro v ⟨x1, x2⟩ ag hv ⟨hx, hs⟩ hp
    dsimp only at hx hs
    subst hx
    unfold graph_symmetric_s2
    dsimp only
    rw [if_pos (by omega), ckT (by omega)]
    exact (inner v x2 ag hv hs).2 hp
  · rintro ⟨x1, x2⟩ ag ⟨hx, hs⟩
    dsimp only at hx hs
    subst hx
    unfold graph_symmetric_s2
    dsimp only
    rw [if_neg (by omega)]
  by_cases hL : ∀ v, v < ps.length → LinksOk (at' ps (v : Int)) v ps.length
  rotate_left
  · exact ⟨fun h => absurd h.1 hL, fun _ => outer.2 hL⟩
  obtain ⟨⟨x1, x2⟩, ⟨hx, hs⟩, he⟩ := outer.1 hL
  rw [he]
  dsimp only at hs ⊢
  have hk : graph_symmetric_k1 x2 = some (decide (∀ z ∈ x2, ¬ (Option.getD (mget (z.1.2, z.1.1) x2) (0 : Int)) ≠ z.2)) := mrun_all (fun z : (Int × Int) × Int => (Option.getD (mget (z.1.2, z.1.1) x2) (0 : Int)) ≠ z.2) x2
  rw [hk]
  have hiff : (∀ z ∈ x2, ¬ (Option.getD (mget (z.1.2, z.1.1) x2) (0 : Int)) ≠ z.2) ↔ ∀ v, v < ps.length → ∀ i, i < (at' ps (v : Int)).length → SymAt ([], ps) v i := by
    constructor
    · intro h v hv i hi
      have hw := (hL v hv i hi).2.2.1
      have hin := (hs (((v : Int), (lnk (at' ps (v : Int)) i).1), (lnk (at' ps (v : Int)) i).2)).2 ⟨v, i, .inl hv, hi, rfl⟩
      have h2 := Decidable.not_not.1 (h _ hin)
      dsimp only at h2
      cases hg : mget ((lnk (at' ps (v : Int)) i).1, (v : Int)) x2 with
      | none => rw [hg] at h2; simp only [Option.getD] at h2; omega
      | some w =>
        rw [hg] at h2; simp only [Option.getD] at h2
        obtain ⟨a, b, h3, h4, h5⟩ := (hs _).1 (mget_some hg)
        simp only [Prod.mk.injEq] at h5
        obtain ⟨⟨h6, h7⟩, h8⟩ := h5
        refine ⟨b, ?_, ?_, ?_⟩
        · show b < (at' ps (lnk (at' ps (v : Int)) i).1).length
          rw [h6]; exact h4
        · show (lnk (at' ps (lnk (at' ps (v : Int)) i).1) b).1 = v
          rw [h6]; exact h7.symm
        · show (lnk (at' ps (lnk (at' ps (v : Int)) i).1) b).2 = (lnk (at' ps (v : Int)) i).2
          rw [h6, ← h8]; exact h2
    · intro h z hz hne
      obtain ⟨a, b, h3, h4, rfl⟩ := (hs z).1 hz
      have ha : a < ps.length := by omega
      apply hne
      obtain ⟨j, hj1, hj2, hj3⟩ := h a ha b h4
      have hu := (hL a ha b h4).1
      obtain ⟨u, hu'⟩ : ∃ u : Nat, (lnk (at' ps (a : Int)) b).1 = u := ⟨(lnk (at' ps (a : Int)) b).1.toNat, by omega⟩
      replace hj1 : j < (at' ps (lnk (at' ps (a : Int)) b).1).length := hj1
      replace hj2 : (lnk (at' ps (lnk (at' ps (a : Int)) b).1) j).1 = a := hj2
      replace hj3 : (lnk (at' ps (lnk (at' ps (a : Int)) b).1) j).2 = (lnk (at' ps (a : Int)) b).2 := hj3
      rw [hu'] at hj1 hj2 hj3
      have hun : u < ps.length := by omega
      dsimp only
      rw [hu', ← hj3]
      have hin := (hs (((u : Int), (lnk (at' ps (u : Int)) j).1), (lnk (at' ps (u : Int)) j).2)).2 ⟨u, j, .inl hun, hj1, rfl⟩
      rw [hj2] at hin
      cases hg : mget ((u : Int), (a : Int)) x2 with
      | none => exact absurd hin (mget_none_mem hg)
      | some w =>
        obtain ⟨a', b', h3', h4', h5⟩ := (hs _).1 (mget_some hg)
        simp only [Prod.mk.injEq] at h5
        obtain ⟨⟨h6, h7⟩, h8⟩ := h5
        have : a' = u := by omega
        subst this
        have hbj : b' = j := by
          rcases Nat.lt_trichotomy b' j with hl | hl | hl
          · exact absurd (h7.symm.trans hj2.symm) ((hL a' hun j hj1).2.2.2 b' hl)
          · exact hl
          · exact absurd (hj2.trans h7) ((hL a' hun b' h4').2.2.2 j hl)
        subst hbj
        exact h8
  by_cases hS : ∀ v, v < ps.length → ∀ i, i < (at' ps (v : Int)).length → SymAt ([], ps) v i
  · rw [decide_eq_true (hiff.2 hS)]
    exact ⟨fun _ => rfl, fun h => absurd ⟨hL, hS⟩ h⟩
  · rw [decide_eq_false (fun h => hS (hiff.1 h))]
    exact ⟨fun h => absurd h.2 hS, fun _ => rfl⟩

theorem valid_gen (g : GR) : (VG g → m_graph_Valid 1000 g = some true) ∧ (¬ VG g → m_graph_Valid 1000 g = some false) := by
  unfold m_graph_Valid graph_Valid_k1 graph_Valid_k2
  by_cases h1 : g.1.length < 1
  · rw [if_pos (by omega)]
    exact ⟨fun h => by have := h.n1; have := h.len; omega, fun _ => rfl⟩
  rw [if_neg (by omega)]
  by_cases h2 : 24 < g.1.length
  · rw [if_pos (by omega)]
    exact ⟨fun h => by have := h.n24; have := h.len; omega, fun _ => rfl⟩
  rw [if_neg (by omega)]
  by_cases h3 : g.1.length = g.2.length
  rotate_left
  · rw [decide_eq_true (by omega)]
    exact ⟨fun h => absurd h.len h3, fun _ => rfl⟩
  rw [decide_eq_false (by omega), if_neg (by simp)]
  by_cases h4 : ∀ k, k < g.1.length → IdOk g.1 k
  rotate_left
  · rw [(differentIDs_eq g.1 (by omega)).2 h4, bindS rfl]
    exact ⟨fun h => absurd (fun k hk => ⟨(h.node k (by omega)).id, (h.node k (by omega)).ids⟩) h4, fun _ => rfl⟩
  rw [(differentIDs_eq g.1 (by omega)).1 h4, bindS rfl, if_pos rfl]
  by_cases h5 : SymPs g.2
  · rw [(symmetric_gen g.2 (by omega)).1 h5]
    exact ⟨fun _ => rfl, fun h => absurd ⟨by omega, by omega, h3, fun v hv => ⟨(h4 v (by omega)).1, deg_lt hv (h5.1 v hv), h5.1 v hv, (h4 v (by omega)).2⟩, h5.2⟩ h⟩
  · rw [(symmetric_gen g.2 (by omega)).2 h5]
    exact ⟨fun h => absurd ⟨fun v hv => (h.node v hv).links, h.sym⟩ h5, fun _ => rfl⟩
end Go.Proofs.Ytmajgimhmfeliaa
end
section
set_option linter.unusedVariables false
set_option linter.unusedSimpArgs false
namespace Go.Proofs.Ytmajgimhmfeliaa
open Go.Sx
set_option linter.unusedVariables false
set_option linter.unusedSimpArgs false
def ref39_complete_k1  (a6 : List (Int)) : Option (List (Int) × Bool) :=
  some (a6, true)
def ref39_complete_k2 (a11 : Int × List (Int)) (ag10 : (Int × List (Int)) → Option (List (Int) × Bool)) (a16 : List (Int)) : Option (List (Int) × Bool) :=
  ag10 ((wI .i64 (a11.1 + (1 : Int))), a16)
def ref39_complete_k3 (a21 : Int × List (Int)) (ag20 : (Int × List (Int)) → Option (List (Int) × Bool)) (a26 : List (Int)) : Option (List (Int) × Bool) :=
  ag20 ((wI .i64 (a21.1 + (1 : Int))), a26)
def ref39_complete_k6 (p0 : List (Int) × (List (List (Int × Int)))) (a21 : Int × List (Int)) (ag20 : (Int × List (Int)) → Option (List (Int) × Bool)) (a40 : Int × List (Int)) (ag39 : (Int × List (Int)) → Option (List (Int) × Bool)) (a44 : Bool) : Option (List (Int) × Bool) :=
  if a44 = true then (ck (0 ≤ a21.1 ∧ a21.1 < (List.length p0.2 : Int)) (ck (0 ≤ a40.1 ∧ a40.1 < (List.length (at' p0.2 a21.1) : Int)) (ck (0 ≤ ((at' (at' p0.2 a21.1) a40.1).1) ∧ ((at' (at' p0.2 a21.1) a40.1).1) < (List.length a40.2 : Int)) (if (at' a40.2 ((at' (at' p0.2 a21.1) a40.1).1)) = (0 : Int) then (some (([] : List Int), false)) else (ck (0 ≤ ((at' (at' p0.2 a21.1) a40.1).1) ∧ ((at' (at' p0.2 a21.1) a40.1).1) < (List.length a40.2 : Int)) (ag39 ((wI .i64 (a40.1 + (1 : Int))), (List.set a40.2 (Int.toNat ((at' (at' p0.2 a21.1) a40.1).1)) (1 : Int))))))))) else (ref39_complete_k3 a21 ag20 (a40.2))
def ref39_complete_s3 (p0 : List (Int) × (List (List (Int × Int)))) (a21 : Int × List (Int)) (ag20 : (Int × List (Int)) → Option (List (Int) × Bool)) (a40 : Int × List (Int)) (ag39 : (Int × List (Int)) → Option (List (Int) × Bool)) : Option (List (Int) × Bool) :=
  ck (0 ≤ a21.1 ∧ a21.1 < (List.length p0.2 : Int)) (if a40.1 < (List.length (at' p0.2 a21.1) : Int) then (ck (0 ≤ a21.1 ∧ a21.1 < (List.length a40.2 : Int)) (ref39_complete_k6 p0 a21 ag20 a40 ag39 (decide ((at' a40.2 a21.1) = (0 : Int))))) else (ref39_complete_k6 p0 a21 ag20 a40 ag39 (false)))
def ref39_complete_k5 (fuel : Nat) (p0 : List (Int) × (List (List (Int × Int)))) (a21 : Int × List (Int)) (ag20 : (Int × List (Int)) → Option (List (Int) × Bool)) (a35 : List (Int)) : Option (List (Int) × Bool) :=
  iter (ref39_complete_s3 p0 a21 ag20) fuel ((0 : Int), a35)
def ref39_complete_k7 (fuel : Nat) (p0 : List (Int) × (List (List (Int × Int)))) (a21 : Int × List (Int)) (ag20 : (Int × List (Int)) → Option (List (Int) × Bool)) (r28 : Int) (a32 : List (Int)) (a56 : Bool) : Option (List (Int) × Bool) :=
  if a56 = true then (ck (0 ≤ r28 ∧ r28 < (List.length a32 : Int)) (ck (0 ≤ a21.1 ∧ a21.1 < (List.length a32 : Int)) (if (at' a32 r28) = (at' a32 a21.1) then (some (([] : List Int), false)) else (ck (0 ≤ a21.1 ∧ a21.1 < (List.length a32 : Int)) (ck (0 ≤ r28 ∧ r28 < (List.length a32 : Int)) (ref39_complete_k5 fuel p0 a21 ag20 (List.set a32 (Int.toNat r28) (wI .i64 ((1 : Int) - (at' a32 a21.1)))))))))) else (ref39_complete_k5 fuel p0 a21 ag20 (a32))
def ref39_complete_k4 (fuel : Nat) (p0 : List (Int) × (List (List (Int × Int)))) (a21 : Int × List (Int)) (ag20 : (Int × List (Int)) → Option (List (Int) × Bool)) (r28 : Int) (a32 : List (Int)) : Option (List (Int) × Bool) :=
  if (0 : Int) ≤ r28 then (ck (0 ≤ a21.1 ∧ a21.1 < (List.length a32 : Int)) (ref39_complete_k7 fuel p0 a21 ag20 r28 a32 (decide ((0 : Int) ≤ (at' a32 a21.1))))) else (ref39_complete_k7 fuel p0 a21 ag20 r28 a32 (false))
def ref39_complete_s2 (fuel : Nat) (p0 : List (Int) × (List (List (Int × Int)))) (p1 : List (Int)) (a11 : Int × List (Int)) (ag10 : (Int × List (Int)) → Option (List (Int) × Bool)) (a21 : Int × List (Int)) (ag20 : (Int × List (Int)) → Option (List (Int) × Bool)) : Option (List (Int) × Bool) :=
  if a21.1 < (List.length a21.2 : Int) then (Option.bind (m_ref39_partner fuel ((p0.1, p0.2)) p1 a21.1) fun r28 => (if r28 < (0 : Int) then (ck (0 ≤ a21.1 ∧ a21.1 < (List.length a21.2 : Int)) (if (at' a21.2 a21.1) = (1 : Int) then (some (([] : List Int), false)) else (ck (0 ≤ a21.1 ∧ a21.1 < (List.length a21.2 : Int)) (ref39_complete_k4 fuel p0 a21 ag20 r28 (List.set a21.2 (Int.toNat a21.1) (0 : Int)))))) else (ref39_complete_k4 fuel p0 a21 ag20 r28 (a21.2)))) else (ref39_complete_k2 a11 ag10 (a21.2))
def ref39_complete_s1 (fuel : Nat) (p0 : List (Int) × (List (List (Int × Int)))) (p1 : List (Int)) (a11 : Int × List (Int)) (ag10 : (Int × List (Int)) → Option (List (Int) × Bool)) : Option (List (Int) × Bool) :=
  if a11.1 ≤ (List.length a11.2 : Int) then (iter (ref39_complete_s2 fuel p0 p1 a11 ag10) fuel ((0 : Int), a11.2)) else (ref39_complete_k1  (a11.2))
def m_ref39_complete (fuel : Nat) (p0 : List (Int) × (List (List (Int × Int)))) (p1 : List (Int)) (p2 : List (Int)) : Option (List (Int) × Bool) :=
  ck ((List.length ([] : List Int) : Int) + (List.length p2 : Int) ≤ 1099511627) (iter (ref39_complete_s1 fuel p0 p1) fuel ((0 : Int), (([] : List Int) ++ p2)))

theorem body60 : HasBody Try.prog 60 := Try.call60

set_option maxHeartbeats 4000000 in
set_option maxRecDepth 20000 in
theorem t_ref39_complete (fuel : Nat) {p0 : List (Int) × (List (List (Int × Int)))} {p1 : List (Int)} {p2 : List (Int)} (v0 : Value)  (v1 : Value)  (z2 : List (Value × List (Int × Int)))  (v3 : Value)  (v4 : Value) (r : List (Int) × Bool) (h : m_ref39_complete fuel p0 p1 p2 = some r) :
    Meets Try.prog 60 #[Value.agg #[v0, v1], v3, v4] [Sl RI64 v0 p0.1, S2 RI64I64p v1 z2 p0.2, Sl RI64 v3 p1, Sl RI64 v4 p2] (fun x : Value => Value.tuple #[x, Value.bool (r.2)]) (fun x l => Ar EI64 x r.1 :: l) (fun _ l => l) := by
  refine Meets.of (vs := [Value.agg #[v0, v1], v3, v4]) Try.func60 rfl Try.ntmps60 rfl fun c => ?_
  unfold m_ref39_complete at h
  refine J.seq ?_
  refine J.region ?_
  refine J.loud (Loud.box (cs := [v0, v1]) rfl rfl) rfl fun b1 => ?_
  refine J.quiet (Y.assign rfl) rfl ?_
  refine J.quiet (Y.assign rfl) rfl ?_
  refine J.done ?_
  refine J.thenN ?_
  refine J.seq ?_
  refine J.region ?_
  refine J.loud (Loud.buildS (e := EI64) ([] : List Int) [] rfl rfl rfl rfl ((fun i h => by simp at h; subst h; rfl)) rfl rfl rfl) rfl fun u2 => ?_
  refine J.quiet (Y.move rfl) rfl ?_
  replace h := ck_some h; obtain ⟨hc4, h⟩ := h
  refine J.loud (Loud.appendL 0 FI64 rfl rfl rfl (Lent.fact 3 rfl) rfl rfl rfl rfl hc4 rfl) rfl fun u3 => ?_
  refine J.quiet (Y.assign rfl) rfl ?_
  refine J.done ?_
  refine J.thenN ?_
  refine J.seq ?_
  refine J.midI (A := List (Int)) (B := Unit) (fun a6 => ref39_complete_k1  a6 = some r) (fun a6 b7 => [(2, u3)]) (fun a6 b7 => [Ar EI64 u3 a6]) (fun a6 b7 => [Sl RI64 v0 p0.1, S2 RI64I64p v1 z2 p0.2, Sl RI64 v3 p1, Sl RI64 v4 p2]) ?_ ?_
  · refine J.seq ?_
    refine J.region ?_
    refine J.quiet (Y.assign rfl) rfl ?_
    refine J.done ?_
    refine J.thenN ?_
    refine J.block ?_
    refine J.loopI (A := Int × List (Int)) (B := Unit) (ref39_complete_s1 fuel p0 p1) (fun a11 b12 => [(1, v3), (2, u3), (3, Value.pointer (some ⟨b1, 0, none⟩)), (8, Value.int .i64 (a11.1))]) (fun a11 b12 => [Ar EI64 u3 a11.2, Blk b1 [v0, v1] 29]) (fun a11 b12 => [Sl RI64 v0 p0.1, S2 RI64I64p v1 z2 p0.2, Sl RI64 v3 p1, Sl RI64 v4 p2]) ((0 : Int), (([] : List Int) ++ p2)) (()) h (by repeat (first | exact SubF.nil | refine SubF.cons rfl ?_)) (SubM.refl _) (LentAll.refl _ _) ?_
    clear h
    intro k13 a11 b12 h
    unfold ref39_complete_s1 at h
    refine J.seq ?_
    refine J.seq ?_
    refine J.region ?_
    refine J.quiet (Y.move rfl) rfl ?_
    refine J.quiet (Y.move rfl) rfl ?_
    refine J.quiet (Y.lenS rfl (Lent.ar (Lent.res 0 rfl) FI64) rfl) rfl ?_
    refine J.quiet (Y.leq rfl rfl) rfl ?_
    refine J.done ?_
    refine J.thenN ?_
    refine J.condD (by exact rfl) (fun hp14 => ?_) (fun hp14 => ?_)
    · replace h := ifP hp14 h
      refine J.skip ?_
      refine J.thenN ?_
      refine J.seq ?_
      refine J.midI (A := List (Int)) (B := Unit) (fun a16 => ref39_complete_k2 a11 (iter (ref39_complete_s1 fuel p0 p1) k13) a16 = some r) (fun a16 b17 => [(1, v3), (2, u3), (3, Value.pointer (some ⟨b1, 0, none⟩)), (8, Value.int .i64 (a11.1))]) (fun a16 b17 => [Ar EI64 u3 a16, Blk b1 [v0, v1] 29]) (fun a16 b17 => [Sl RI64 v0 p0.1, S2 RI64I64p v1 z2 p0.2, Sl RI64 v3 p1, Sl RI64 v4 p2]) ?_ ?_
      · refine J.block ?_
        refine J.seq ?_
        refine J.region ?_
        refine J.quiet (Y.assign rfl) rfl ?_
        refine J.done ?_
        refine J.thenN ?_
        refine J.block ?_
        refine J.loopI (A := Int × List (Int)) (B := Unit) (ref39_complete_s2 fuel p0 p1 a11 (iter (ref39_complete_s1 fuel p0 p1) k13)) (fun a21 b22 => [(1, v3), (2, u3), (3, Value.pointer (some ⟨b1, 0, none⟩)), (8, Value.int .i64 (a11.1)), (9, Value.int .i64 (a21.1))]) (fun a21 b22 => [Ar EI64 u3 a21.2, Blk b1 [v0, v1] 29]) (fun a21 b22 => [Sl RI64 v0 p0.1, S2 RI64I64p v1 z2 p0.2, Sl RI64 v3 p1, Sl RI64 v4 p2]) ((0 : Int), a11.2) (()) h (by repeat (first | exact SubF.nil | refine SubF.cons rfl ?_)) (SubM.refl _) (LentAll.refl _ _) ?_
        clear h
        intro k23 a21 b22 h
        unfold ref39_complete_s2 at h
        refine J.seq ?_
        refine J.seq ?_
        refine J.region ?_
        refine J.quiet (Y.move rfl) rfl ?_
        refine J.quiet (Y.move rfl) rfl ?_
        refine J.quiet (Y.lenS rfl (Lent.ar (Lent.res 0 rfl) FI64) rfl) rfl ?_
        refine J.quiet (Y.lss rfl rfl) rfl ?_
        refine J.done ?_
        refine J.thenN ?_
        refine J.condD (by exact rfl) (fun hp24 => ?_) (fun hp24 => ?_)
        · replace h := ifP hp24 h
          refine J.skip ?_
          refine J.thenN ?_
          refine J.seq ?_
          refine J.midI (A := List (Int)) (B := Unit) (fun a26 => ref39_complete_k3 a21 (iter (ref39_complete_s2 fuel p0 p1 a11 (iter (ref39_complete_s1 fuel p0 p1) k13)) k23) a26 = some r) (fun a26 b27 => [(1, v3), (2, u3), (3, Value.pointer (some ⟨b1, 0, none⟩)), (8, Value.int .i64 (a11.1)), (9, Value.int .i64 (a21.1))]) (fun a26 b27 => [Ar EI64 u3 a26, Blk b1 [v0, v1] 29]) (fun a26 b27 => [Sl RI64 v0 p0.1, S2 RI64I64p v1 z2 p0.2, Sl RI64 v3 p1, Sl RI64 v4 p2]) ?_ ?_
          · refine J.block ?_
            refine J.seq ?_
            refine J.region ?_
            refine J.quiet (Y.loadBAll 1 rfl rfl rfl rfl) rfl ?_
            refine J.quiet (Y.move rfl) rfl ?_
            refine J.quiet (Y.move rfl) rfl ?_
            replace h := bnd h; obtain ⟨r28, hr29, h⟩ := h
            refine J.loud (Loud.callL body59 (t_ref39_partner fuel v0 v1 z2 v3 r28 hr29) rfl (LentAll.cons (Lent.fact 0 rfl) (LentAll.cons (Lent.fact 1 rfl) (LentAll.cons (Lent.fact 2 rfl) (LentAll.nil)))) (fun _ _ => rfl)) rfl fun x30 => ?_
            refine J.quiet (Y.assign rfl) rfl ?_
            refine J.done ?_
            refine J.thenN ?_
            refine J.seq ?_
            refine J.midI (A := List (Int)) (B := Unit) (fun a32 => ref39_complete_k4 fuel p0 a21 (iter (ref39_complete_s2 fuel p0 p1 a11 (iter (ref39_complete_s1 fuel p0 p1) k13)) k23) r28 a32 = some r) (fun a32 b33 => [(1, v3), (2, u3), (3, Value.pointer (some ⟨b1, 0, none⟩)), (8, Value.int .i64 (a11.1)), (9, Value.int .i64 (a21.1)), (10, Value.int .i64 (r28))]) (fun a32 b33 => [Ar EI64 u3 a32, Blk b1 [v0, v1] 29]) (fun a32 b33 => [Sl RI64 v0 p0.1, S2 RI64I64p v1 z2 p0.2, Sl RI64 v3 p1, Sl RI64 v4 p2]) ?_ ?_
            · refine J.seq ?_
              refine J.region ?_
              refine J.quiet (Y.move rfl) rfl ?_
              refine J.quiet (Y.lss rfl rfl) rfl ?_
              refine J.done ?_
              refine J.thenN ?_
              refine J.condD (by exact rfl) (fun hp66 => ?_) (fun hp66 => ?_)
              · replace h := ifP hp66 h
                refine J.seq ?_
                refine J.seq ?_
                refine J.region ?_
                refine J.quiet (Y.move rfl) rfl ?_
                refine J.quiet (Y.move rfl) rfl ?_
                replace h := ck_some h; obtain ⟨hc67, h⟩ := h
                refine J.quiet (Y.indexS rfl rfl (Lent.ar (Lent.res 0 rfl) FI64) rfl rfl hc67) rfl ?_
                refine J.quiet (Y.loadS0 rfl (Lent.ar (Lent.res 0 rfl) FI64) rfl rfl rfl RI64c0 hc67) rfl ?_
                refine J.quiet (Y.eql rfl rfl) rfl ?_
                refine J.done ?_
                refine J.thenN ?_
                refine J.condD (by exact rfl) (fun hp68 => ?_) (fun hp68 => ?_)
                · replace h := ifP hp68 h
                  refine J.seq ?_
                  refine J.region ?_
                  refine J.quiet (Y.assign rfl) rfl ?_
                  refine J.quiet (Y.assign rfl) rfl ?_
                  refine J.done ?_
                  refine J.thenN ?_
                  refine J.ret ?_
                  refine J.thenR ?_
                  refine J.thenR ?_
                  refine J.inR ?_
                  refine J.thenR ?_
                  refine J.thenR ?_
                  refine J.inR ?_
                  refine J.inR ?_
                  refine J.thenR ?_
                  refine J.thenR ?_
                  refine J.inR ?_
                  refine J.thenR ?_
                  refine J.stp (Stp.nilAr EI64) ?_
                  obtain rfl := Option.some.inj h
                  exact J.retG2 (Value.slice none 0 0) rfl rfl (RV.tmp rfl) (RV.tmp rfl) (SubM.cons 0 rfl (SubM.nil)) LentAll.nil
                · replace h := ifN hp68 h
                  refine J.skip ?_
                  refine J.thenN ?_
                  refine J.region ?_
                  refine J.quiet (Y.move rfl) rfl ?_
                  refine J.quiet (Y.move rfl) rfl ?_
                  replace h := ck_some h; obtain ⟨hc69, h⟩ := h
                  refine J.quiet (Y.indexS rfl rfl (Lent.ar (Lent.res 0 rfl) FI64) rfl rfl hc69) rfl ?_
                  refine J.storeS 0 (0 : Int) hc69 rfl rfl rfl rfl rfl rfl rfl ?_
                  refine J.done ?_
                  refine J.thenN ?_
                  exact J.meetI (List.set a21.2 (Int.toNat a21.1) (0 : Int)) (()) h (by repeat (first | exact SubF.nil | refine SubF.cons rfl ?_)) (SubM.refl _) (LentAll.refl _ _)
              · replace h := ifN hp66 h
                refine J.skip ?_
                refine J.thenN ?_
                exact J.meetI (a21.2) (()) h (by repeat (first | exact SubF.nil | refine SubF.cons rfl ?_)) (SubM.refl _) (LentAll.refl _ _)
            · clear h
              intro a32 b33 h
              unfold ref39_complete_k4 at h
              refine J.seq ?_
              refine J.midI (A := List (Int)) (B := Unit) (fun a35 => ref39_complete_k5 fuel p0 a21 (iter (ref39_complete_s2 fuel p0 p1 a11 (iter (ref39_complete_s1 fuel p0 p1) k13)) k23) a35 = some r) (fun a35 b36 => [(1, v3), (2, u3), (3, Value.pointer (some ⟨b1, 0, none⟩)), (8, Value.int .i64 (a11.1)), (9, Value.int .i64 (a21.1))]) (fun a35 b36 => [Ar EI64 u3 a35, Blk b1 [v0, v1] 29]) (fun a35 b36 => [Sl RI64 v0 p0.1, S2 RI64I64p v1 z2 p0.2, Sl RI64 v3 p1, Sl RI64 v4 p2]) ?_ ?_
              · refine J.seq ?_
                refine J.midI (A := Bool) (B := Unit) (fun a56 => ref39_complete_k7 fuel p0 a21 (iter (ref39_complete_s2 fuel p0 p1 a11 (iter (ref39_complete_s1 fuel p0 p1) k13)) k23) r28 a32 a56 = some r) (fun a56 b57 => [(1, v3), (2, u3), (3, Value.pointer (some ⟨b1, 0, none⟩)), (8, Value.int .i64 (a11.1)), (9, Value.int .i64 (a21.1)), (10, Value.int .i64 (r28)), (50, Value.bool (a56))]) (fun a56 b57 => [Ar EI64 u3 a32, Blk b1 [v0, v1] 29]) (fun a56 b57 => [Sl RI64 v0 p0.1, S2 RI64I64p v1 z2 p0.2, Sl RI64 v3 p1, Sl RI64 v4 p2]) ?_ ?_
                · refine J.region ?_
                  refine J.quiet (Y.move rfl) rfl ?_
                  refine J.quiet (Y.geq rfl rfl) rfl ?_
                  refine J.quiet (Y.move rfl) rfl ?_
                  refine J.guardD (by exact rfl) (by exact rfl) (fun hp64 => ?_) (fun hp64 => ?_)
                  · replace h := ifP hp64 h
                    refine J.guardY rfl (Y.move rfl) rfl ?_
                    refine J.guardY rfl (Y.move rfl) rfl ?_
                    replace h := ck_some h; obtain ⟨hc65, h⟩ := h
                    refine J.guardY rfl (Y.indexS rfl rfl (Lent.ar (Lent.res 0 rfl) FI64) rfl rfl hc65) rfl ?_
                    refine J.guardY rfl (Y.loadS0 rfl (Lent.ar (Lent.res 0 rfl) FI64) rfl rfl rfl RI64c0 hc65) rfl ?_
                    refine J.guardY rfl (Y.geq rfl rfl) rfl ?_
                    refine J.quiet (Y.pickT rfl rfl) rfl ?_
                    refine J.done ?_
                    refine J.thenN ?_
                    exact J.meetI (decide ((0 : Int) ≤ (at' a32 a21.1))) (()) h (by repeat (first | exact SubF.nil | refine SubF.cons rfl ?_)) (SubM.refl _) (LentAll.refl _ _)
                  · replace h := ifN hp64 h
                    refine J.guardN rfl rfl rfl ?_
                    refine J.guardN rfl rfl rfl ?_
                    refine J.guardN rfl rfl rfl ?_
                    refine J.guardN rfl rfl rfl ?_
                    refine J.guardN rfl rfl rfl ?_
                    refine J.quiet (Y.pickF rfl rfl) rfl ?_
                    refine J.done ?_
                    refine J.thenN ?_
                    exact J.meetI (false) (()) h (by repeat (first | exact SubF.nil | refine SubF.cons rfl ?_)) (SubM.refl _) (LentAll.refl _ _)
                · clear h
                  intro a56 b57 h
                  unfold ref39_complete_k7 at h
                  refine J.cond (by exact rfl) (fun hp58 => ?_) (fun hp58 => ?_)
                  · replace h := ifP hp58 h
                    refine J.seq ?_
                    refine J.seq ?_
                    refine JR.start [0, 0, 3, 7, 0, 0, 48, 112, 255] 8 mixedOrders (by decide +kernel) ?_
                    refine JR.open (by exact rfl) ?_
                    refine JR.qt rfl (SubM.nil) (SubL.nil) (Y.move rfl) HistOk.z ?_
                    refine JR.qt rfl (SubM.nil) (SubL.nil) (Y.move rfl) HistOk.z ?_
                    replace h := ck_some h; obtain ⟨hc59, h⟩ := h
                    refine JR.qt rfl (SubM.cons 0 rfl (SubM.nil)) (SubL.nil) (Y.indexS rfl rfl (Lent.ar (Lent.res 0 rfl) FI64) rfl rfl hc59) HistOk.z ?_
                    refine JR.qt rfl (SubM.cons 0 rfl (SubM.nil)) (SubL.nil) (Y.loadS0 rfl (Lent.ar (Lent.res 0 rfl) FI64) rfl rfl rfl RI64c0 hc59) HistOk.z ?_
                    refine JR.qt rfl (SubM.nil) (SubL.nil) (Y.move rfl) HistOk.z ?_
                    refine JR.qt rfl (SubM.nil) (SubL.nil) (Y.move rfl) HistOk.z ?_
                    replace h := ck_some h; obtain ⟨hc60, h⟩ := h
                    refine JR.qt rfl (SubM.cons 0 rfl (SubM.nil)) (SubL.nil) (Y.indexS rfl rfl (Lent.ar (Lent.res 0 rfl) FI64) rfl rfl hc60) HistOk.z ?_
                    refine JR.qt rfl (SubM.cons 0 rfl (SubM.nil)) (SubL.nil) (Y.loadS0 rfl (Lent.ar (Lent.res 0 rfl) FI64) rfl rfl rfl RI64c0 hc60) HistOk.z ?_
                    refine JR.tailD 8 rfl rfl ?_
                    refine J.quiet (Y.eql rfl rfl) rfl ?_
                    refine J.done ?_
                    refine J.thenN ?_
                    refine J.condD (by exact rfl) (fun hp61 => ?_) (fun hp61 => ?_)
                    · replace h := ifP hp61 h
                      refine J.seq ?_
                      refine J.region ?_
                      refine J.quiet (Y.assign rfl) rfl ?_
                      refine J.quiet (Y.assign rfl) rfl ?_
                      refine J.done ?_
                      refine J.thenN ?_
                      refine J.ret ?_
                      refine J.thenR ?_
                      refine J.thenR ?_
                      refine J.inR ?_
                      refine J.thenR ?_
                      refine J.thenR ?_
                      refine J.inR ?_
                      refine J.inR ?_
                      refine J.thenR ?_
                      refine J.thenR ?_
                      refine J.inR ?_
                      refine J.thenR ?_
                      refine J.stp (Stp.nilAr EI64) ?_
                      obtain rfl := Option.some.inj h
                      exact J.retG2 (Value.slice none 0 0) rfl rfl (RV.tmp rfl) (RV.tmp rfl) (SubM.cons 0 rfl (SubM.nil)) LentAll.nil
                    · replace h := ifN hp61 h
                      refine J.skip ?_
                      refine J.thenN ?_
                      refine J.region ?_
                      refine J.quiet (Y.move rfl) rfl ?_
                      refine J.quiet (Y.move rfl) rfl ?_
                      refine J.quiet (Y.move rfl) rfl ?_
                      refine J.quiet (Y.move rfl) rfl ?_
                      replace h := ck_some h; obtain ⟨hc62, h⟩ := h
                      refine J.quiet (Y.indexS rfl rfl (Lent.ar (Lent.res 0 rfl) FI64) rfl rfl hc62) rfl ?_
                      refine J.quiet (Y.loadS0 rfl (Lent.ar (Lent.res 0 rfl) FI64) rfl rfl rfl RI64c0 hc62) rfl ?_
                      refine J.quiet (Y.subW rfl rfl) rfl ?_
                      replace h := ck_some h; obtain ⟨hc63, h⟩ := h
                      refine J.quiet (Y.indexS rfl rfl (Lent.ar (Lent.res 0 rfl) FI64) rfl rfl hc63) rfl ?_
                      refine J.storeS 0 (wI .i64 ((1 : Int) - (at' a32 a21.1))) hc63 rfl rfl rfl rfl rfl rfl rfl ?_
                      refine J.done ?_
                      refine J.thenN ?_
                      exact J.meetI (List.set a32 (Int.toNat r28) (wI .i64 ((1 : Int) - (at' a32 a21.1)))) (()) h (by repeat (first | exact SubF.nil | refine SubF.cons rfl ?_)) (SubM.refl _) (LentAll.refl _ _)
                  · replace h := ifBN hp58 h
                    refine J.skip ?_
                    refine J.thenN ?_
                    exact J.meetI (a32) (()) h (by repeat (first | exact SubF.nil | refine SubF.cons rfl ?_)) (SubM.refl _) (LentAll.refl _ _)
              · clear h
                intro a35 b36 h
                unfold ref39_complete_k5 at h
                refine J.seq ?_
                refine J.region ?_
                refine J.quiet (Y.assign rfl) rfl ?_
                refine J.done ?_
                refine J.thenN ?_
                refine J.block ?_
                refine J.loopI (A := Int × List (Int)) (B := Unit) (ref39_complete_s3 p0 a21 (iter (ref39_complete_s2 fuel p0 p1 a11 (iter (ref39_complete_s1 fuel p0 p1) k13)) k23)) (fun a40 b41 => [(1, v3), (2, u3), (3, Value.pointer (some ⟨b1, 0, none⟩)), (8, Value.int .i64 (a11.1)), (9, Value.int .i64 (a21.1)), (11, Value.int .i64 (a40.1))]) (fun a40 b41 => [Ar EI64 u3 a40.2, Blk b1 [v0, v1] 29]) (fun a40 b41 => [Sl RI64 v0 p0.1, S2 RI64I64p v1 z2 p0.2, Sl RI64 v3 p1, Sl RI64 v4 p2]) ((0 : Int), a35) (()) h (by repeat (first | exact SubF.nil | refine SubF.cons rfl ?_)) (SubM.refl _) (LentAll.refl _ _) ?_
                clear h
                intro k42 a40 b41 h
                unfold ref39_complete_s3 at h
                refine J.seq ?_
                refine J.seq ?_
                refine J.midI (A := Bool) (B := Unit) (fun a44 => ref39_complete_k6 p0 a21 (iter (ref39_complete_s2 fuel p0 p1 a11 (iter (ref39_complete_s1 fuel p0 p1) k13)) k23) a40 (iter (ref39_complete_s3 p0 a21 (iter (ref39_complete_s2 fuel p0 p1 a11 (iter (ref39_complete_s1 fuel p0 p1) k13)) k23)) k42) a44 = some r) (fun a44 b45 => [(1, v3), (2, u3), (3, Value.pointer (some ⟨b1, 0, none⟩)), (8, Value.int .i64 (a11.1)), (9, Value.int .i64 (a21.1)), (11, Value.int .i64 (a40.1)), (82, Value.bool (a44))]) (fun a44 b45 => [Ar EI64 u3 a40.2, Blk b1 [v0, v1] 29]) (fun a44 b45 => [Sl RI64 v0 p0.1, S2 RI64I64p v1 z2 p0.2, Sl RI64 v3 p1, Sl RI64 v4 p2]) ?_ ?_
                · refine J.region ?_
                  refine J.quiet (Y.move rfl) rfl ?_
                  refine J.quiet (Y.fieldB rfl rfl rfl rfl rfl) rfl ?_
                  refine J.quiet (Y.loadB 1 rfl rfl rfl rfl rfl) rfl ?_
                  refine J.quiet (Y.move rfl) rfl ?_
                  replace h := ck_some h; obtain ⟨hc52, h⟩ := h
                  refine J.quiet (Y.indexN rfl rfl (Lent.fact 1 rfl) rfl rfl hc52) rfl ?_
                  refine J.quiet (Y.loadRow rfl (Lent.fact 1 rfl) rfl rfl hc52) rfl ?_
                  refine J.quiet (Y.lenS rfl (Lent.el (Lent.fact 1 rfl) hc52.1 hc52.2) rfl) rfl ?_
                  refine J.quiet (Y.lss rfl rfl) rfl ?_
                  refine J.quiet (Y.move rfl) rfl ?_
                  refine J.guardD (by exact rfl) (by exact rfl) (fun hp53 => ?_) (fun hp53 => ?_)
                  · replace h := ifP hp53 h
                    refine J.guardY rfl (Y.move rfl) rfl ?_
                    refine J.guardY rfl (Y.move rfl) rfl ?_
                    replace h := ck_some h; obtain ⟨hc54, h⟩ := h
                    refine J.guardY rfl (Y.indexS rfl rfl (Lent.ar (Lent.res 0 rfl) FI64) rfl rfl hc54) rfl ?_
                    refine J.guardY rfl (Y.loadS0 rfl (Lent.ar (Lent.res 0 rfl) FI64) rfl rfl rfl RI64c0 hc54) rfl ?_
                    refine J.guardY rfl (Y.eql rfl rfl) rfl ?_
                    refine J.quiet (Y.pickT rfl rfl) rfl ?_
                    refine J.done ?_
                    refine J.thenN ?_
                    exact J.meetI (decide ((at' a40.2 a21.1) = (0 : Int))) (()) h (by repeat (first | exact SubF.nil | refine SubF.cons rfl ?_)) (SubM.refl _) (LentAll.refl _ _)
                  · replace h := ifN hp53 h
                    refine J.guardN rfl rfl rfl ?_
                    refine J.guardN rfl rfl rfl ?_
                    refine J.guardN rfl rfl rfl ?_
                    refine J.guardN rfl rfl rfl ?_
                    refine J.guardN rfl rfl rfl ?_
                    refine J.quiet (Y.pickF rfl rfl) rfl ?_
                    refine J.done ?_
                    refine J.thenN ?_
                    exact J.meetI (false) (()) h (by repeat (first | exact SubF.nil | refine SubF.cons rfl ?_)) (SubM.refl _) (LentAll.refl _ _)
                · clear h
                  intro a44 b45 h
                  unfold ref39_complete_k6 at h
                  refine J.cond (by exact rfl) (fun hp46 => ?_) (fun hp46 => ?_)
                  · replace h := ifP hp46 h
                    refine J.skip ?_
                    refine J.thenN ?_
                    refine J.seq ?_
                    refine J.block ?_
                    refine J.seq ?_
                    refine J.region ?_
                    refine J.quiet (Y.fieldB rfl rfl rfl rfl rfl) rfl ?_
                    refine J.quiet (Y.loadB 1 rfl rfl rfl rfl rfl) rfl ?_
                    refine J.quiet (Y.move rfl) rfl ?_
                    replace h := ck_some h; obtain ⟨hc47, h⟩ := h
                    refine J.quiet (Y.indexN rfl rfl (Lent.fact 1 rfl) rfl rfl hc47) rfl ?_
                    refine J.quiet (Y.loadRow rfl (Lent.fact 1 rfl) rfl rfl hc47) rfl ?_
                    refine J.quiet (Y.move rfl) rfl ?_
                    replace h := ck_some h; obtain ⟨hc48, h⟩ := h
                    refine J.quiet (Y.indexS rfl rfl (Lent.el (Lent.fact 1 rfl) hc47.1 hc47.2) rfl rfl hc48) rfl ?_
                    refine J.quiet (Y.fieldEl rfl rfl rfl rfl rfl) rfl ?_
                    refine J.quiet (Y.loadS rfl (Lent.el (Lent.fact 1 rfl) hc47.1 hc47.2) rfl rfl rfl RI64I64pc0 hc48) rfl ?_
                    refine J.quiet (Y.assign rfl) rfl ?_
                    refine J.done ?_
                    refine J.thenN ?_
                    refine J.seq ?_
                    refine J.seq ?_
                    refine J.region ?_
                    refine J.quiet (Y.move rfl) rfl ?_
                    refine J.quiet (Y.move rfl) rfl ?_
                    replace h := ck_some h; obtain ⟨hc49, h⟩ := h
                    refine J.quiet (Y.indexS rfl rfl (Lent.ar (Lent.res 0 rfl) FI64) rfl rfl hc49) rfl ?_
                    refine J.quiet (Y.loadS0 rfl (Lent.ar (Lent.res 0 rfl) FI64) rfl rfl rfl RI64c0 hc49) rfl ?_
                    refine J.quiet (Y.eql rfl rfl) rfl ?_
                    refine J.done ?_
                    refine J.thenN ?_
                    refine J.condD (by exact rfl) (fun hp50 => ?_) (fun hp50 => ?_)
                    · replace h := ifP hp50 h
                      refine J.seq ?_
                      refine J.region ?_
                      refine J.quiet (Y.assign rfl) rfl ?_
                      refine J.quiet (Y.assign rfl) rfl ?_
                      refine J.done ?_
                      refine J.thenN ?_
                      refine J.ret ?_
                      refine J.thenR ?_
                      refine J.inR ?_
                      refine J.thenR ?_
                      refine J.thenR ?_
                      refine J.inR ?_
                      refine J.inR ?_
                      refine J.thenR ?_
                      refine J.thenR ?_
                      refine J.inR ?_
                      refine J.inR ?_
                      refine J.thenR ?_
                      refine J.thenR ?_
                      refine J.inR ?_
                      refine J.thenR ?_
                      refine J.stp (Stp.nilAr EI64) ?_
                      obtain rfl := Option.some.inj h
                      exact J.retG2 (Value.slice none 0 0) rfl rfl (RV.tmp rfl) (RV.tmp rfl) (SubM.cons 0 rfl (SubM.nil)) LentAll.nil
                    · replace h := ifN hp50 h
                      refine J.skip ?_
                      refine J.thenN ?_
                      refine J.region ?_
                      refine J.quiet (Y.move rfl) rfl ?_
                      refine J.quiet (Y.move rfl) rfl ?_
                      replace h := ck_some h; obtain ⟨hc51, h⟩ := h
                      refine J.quiet (Y.indexS rfl rfl (Lent.ar (Lent.res 0 rfl) FI64) rfl rfl hc51) rfl ?_
                      refine J.storeS 0 (1 : Int) hc51 rfl rfl rfl rfl rfl rfl rfl ?_
                      refine J.done ?_
                      refine J.inN ?_
                      refine J.thenN ?_
                      refine J.region ?_
                      refine J.quiet (Y.move rfl) rfl ?_
                      refine J.quiet (Y.addW rfl rfl) rfl ?_
                      refine J.quiet (Y.assign rfl) rfl ?_
                      refine J.done ?_
                      refine J.thenN ?_
                      exact J.againI ((wI .i64 (a40.1 + (1 : Int))), (List.set a40.2 (Int.toNat ((at' (at' p0.2 a21.1) a40.1).1)) (1 : Int))) (()) h (by repeat (first | exact SubF.nil | refine SubF.cons rfl ?_)) (SubM.refl _) (LentAll.refl _ _)
                  · replace h := ifBN hp46 h
                    refine J.exit ?_
                    refine J.thenX ?_
                    refine J.thenX ?_
                    refine J.inX ?_
                    refine J.inN ?_
                    refine J.thenN ?_
                    exact J.meetI (a40.2) (()) h (by repeat (first | exact SubF.nil | refine SubF.cons rfl ?_)) (SubM.refl _) (LentAll.refl _ _)
          · clear h
            intro a26 b27 h
            unfold ref39_complete_k3 at h
            refine J.region ?_
            refine J.quiet (Y.move rfl) rfl ?_
            refine J.quiet (Y.addW rfl rfl) rfl ?_
            refine J.quiet (Y.assign rfl) rfl ?_
            refine J.done ?_
            refine J.thenN ?_
            exact J.againI ((wI .i64 (a21.1 + (1 : Int))), a26) (()) h (by repeat (first | exact SubF.nil | refine SubF.cons rfl ?_)) (SubM.refl _) (LentAll.refl _ _)
        · replace h := ifN hp24 h
          refine J.exit ?_
          refine J.thenX ?_
          refine J.thenX ?_
          refine J.inX ?_
          refine J.inN ?_
          refine J.thenN ?_
          exact J.meetI (a21.2) (()) h (by repeat (first | exact SubF.nil | refine SubF.cons rfl ?_)) (SubM.refl _) (LentAll.refl _ _)
      · clear h
        intro a16 b17 h
        unfold ref39_complete_k2 at h
        refine J.region ?_
        refine J.quiet (Y.move rfl) rfl ?_
        refine J.quiet (Y.addW rfl rfl) rfl ?_
        refine J.quiet (Y.assign rfl) rfl ?_
        refine J.done ?_
        refine J.thenN ?_
        exact J.againI ((wI .i64 (a11.1 + (1 : Int))), a16) (()) h (by repeat (first | exact SubF.nil | refine SubF.cons rfl ?_)) (SubM.refl _) (LentAll.refl _ _)
    · replace h := ifN hp14 h
      refine J.exit ?_
      refine J.thenX ?_
      refine J.thenX ?_
      refine J.inX ?_
      refine J.thenN ?_
      exact J.meetI (a11.2) (()) h (by repeat (first | exact SubF.nil | refine SubF.cons rfl ?_)) (SubM.cons 0 rfl (SubM.nil)) (LentAll.refl _ _)
  · clear h
    intro a6 b7 h
    unfold ref39_complete_k1 at h
    refine J.seq ?_
    refine J.region ?_
    refine J.quiet (Y.move rfl) rfl ?_
    refine J.quiet (Y.assign rfl) rfl ?_
    refine J.quiet (Y.assign rfl) rfl ?_
    refine J.done ?_
    refine J.thenN ?_
    refine J.ret ?_
    obtain rfl := Option.some.inj h
    exact J.retG2 (u3) rfl rfl (RV.tmp rfl) (RV.tmp rfl) (SubM.refl _) LentAll.nil

end Go.Proofs.Ytmajgimhmfeliaa
end
section
set_option linter.unusedVariables false
set_option linter.unusedSimpArgs false
namespace Go.Proofs.Ytmajgimhmfeliaa
open Go.Sx
set_option linter.unusedVariables false
set_option linter.unusedSimpArgs false
def ref39_Cover_k2  (a12 : Bool × List (Int)) : Option (List (Int) × Bool) :=
  some (a12.2, a12.1)
def ref39_Cover_k4 (a19 : Bool × Int × List (Int)) (ag18 : (Bool × Int × List (Int)) → Option (List (Int) × Bool)) (a29 : Bool × List (Int)) : Option (List (Int) × Bool) :=
  ag18 (a29.1, (wI .i64 (a19.2.1 + (1 : Int))), a29.2)
def ref39_Cover_k5 (a19 : Bool × Int × List (Int)) (ag18 : (Bool × Int × List (Int)) → Option (List (Int) × Bool)) (a47 : Bool × List (Int)) : Option (List (Int) × Bool) :=
  ref39_Cover_k4 a19 ag18 (a47.1, a47.2)
def ref39_Cover_k3 (fuel : Nat) (p0 : List (Int) × (List (List (Int × Int)))) (p1 : List (Int)) (a19 : Bool × Int × List (Int)) (ag18 : (Bool × Int × List (Int)) → Option (List (Int) × Bool)) (a23 : Bool) : Option (List (Int) × Bool) :=
  if a23 = true then (ck (0 ≤ a19.2.1 ∧ a19.2.1 < (List.length a19.2.2 : Int)) (if (0 : Int) ≤ (at' a19.2.2 a19.2.1) then (ref39_Cover_k4 a19 ag18 (a19.1, a19.2.2)) else (ck ((List.length ([] : List Int) : Int) + (List.length a19.2.2 : Int) ≤ 1099511627) (ck ((List.length ([] : List Int) : Int) + (List.length a19.2.2 : Int) ≤ 1099511627) (ck (0 ≤ a19.2.1 ∧ a19.2.1 < (List.length (([] : List Int) ++ a19.2.2) : Int)) (ck (0 ≤ a19.2.1 ∧ a19.2.1 < (List.length (([] : List Int) ++ a19.2.2) : Int)) (Option.bind (m_ref39_complete fuel ((p0.1, p0.2)) p1 (List.set (([] : List Int) ++ a19.2.2) (Int.toNat a19.2.1) (0 : Int))) fun r41 => (if (!r41.2) = true then (Option.bind (m_ref39_complete fuel ((p0.1, p0.2)) p1 (List.set (([] : List Int) ++ a19.2.2) (Int.toNat a19.2.1) (1 : Int))) fun r50 => (ref39_Cover_k5 a19 ag18 (r50.2, r50.1))) else (ref39_Cover_k5 a19 ag18 (r41.2, r41.1)))))))))) else (ref39_Cover_k2  (a19.1, a19.2.2))
def ref39_Cover_s1 (fuel : Nat) (p0 : List (Int) × (List (List (Int × Int)))) (p1 : List (Int)) (a19 : Bool × Int × List (Int)) (ag18 : (Bool × Int × List (Int)) → Option (List (Int) × Bool)) : Option (List (Int) × Bool) :=
  if a19.2.1 < (List.length p1 : Int) then (ref39_Cover_k3 fuel p0 p1 a19 ag18 (a19.1)) else (ref39_Cover_k3 fuel p0 p1 a19 ag18 (false))
def ref39_Cover_k1 (fuel : Nat) (p0 : List (Int) × (List (List (Int × Int)))) (p1 : List (Int)) (a4 : List (Int)) : Option (List (Int) × Bool) :=
  Option.bind (m_ref39_complete fuel ((p0.1, p0.2)) p1 a4) fun r6 => (iter (ref39_Cover_s1 fuel p0 p1) fuel (r6.2, (0 : Int), r6.1))
def ref39_Cover_s2 (fuel : Nat) (p0 : List (Int) × (List (List (Int × Int)))) (p1 : List (Int)) (a58 : List (Int) × Int) (ag57 : (List (Int) × Int) → Option (List (Int) × Bool)) : Option (List (Int) × Bool) :=
  if a58.2 < (List.length p1 : Int) then (ck ((List.length a58.1 : Int) + (List.length ([ (-1 : Int)]) : Int) ≤ 1099511627) (ag57 ((a58.1 ++ ([ (-1 : Int)])), (wI .i64 (a58.2 + (1 : Int)))))) else (ref39_Cover_k1 fuel p0 p1 (a58.1))
def m_ref39_Cover (fuel : Nat) (p0 : List (Int) × (List (List (Int × Int)))) (p1 : List (Int)) : Option (List (Int) × Bool) :=
  iter (ref39_Cover_s2 fuel p0 p1) fuel (([] : List Int), (0 : Int))

theorem body41 : HasBody Try.prog 41 := Try.call41

set_option maxHeartbeats 4000000 in
set_option maxRecDepth 20000 in
theorem t_ref39_Cover (fuel : Nat) {p0 : List (Int) × (List (List (Int × Int)))} {p1 : List (Int)} (v0 : Value)  (v1 : Value)  (z2 : List (Value × List (Int × Int)))  (v3 : Value) (r : List (Int) × Bool) (h : m_ref39_Cover fuel p0 p1 = some r) :
    Meets Try.prog 41 #[Value.agg #[v0, v1], v3] [Sl RI64 v0 p0.1, S2 RI64I64p v1 z2 p0.2, Sl RI64 v3 p1] (fun x : Value => Value.tuple #[x, Value.bool (r.2)]) (fun x l => Ar EI64 x r.1 :: l) (fun _ l => l) := by
  refine Meets.of (vs := [Value.agg #[v0, v1], v3]) Try.func41 rfl Try.ntmps41 rfl fun c => ?_
  unfold m_ref39_Cover at h
  refine J.seq ?_
  refine J.region ?_
  refine J.loud (Loud.box (cs := [v0, v1]) rfl rfl) rfl fun b1 => ?_
  refine J.quiet (Y.assign rfl) rfl ?_
  refine J.quiet (Y.assign rfl) rfl ?_
  refine J.done ?_
  refine J.thenN ?_
  refine J.seq ?_
  refine J.region ?_
  refine J.quiet (Y.assign rfl) rfl ?_
  refine J.done ?_
  refine J.thenN ?_
  refine J.seq ?_
  refine J.midI (A := List (Int)) (B := Value) (fun a4 => ref39_Cover_k1 fuel p0 p1 a4 = some r) (fun a4 b5 => [(1, v3), (2, Value.pointer (some ⟨b1, 0, none⟩)), (6, b5)]) (fun a4 b5 => [Blk b1 [v0, v1] 29, Ar EI64 b5 a4]) (fun a4 b5 => [Sl RI64 v0 p0.1, S2 RI64I64p v1 z2 p0.2, Sl RI64 v3 p1]) ?_ ?_
  · refine J.seq ?_
    refine J.region ?_
    refine J.quiet (Y.assign rfl) rfl ?_
    refine J.done ?_
    refine J.thenN ?_
    refine J.block ?_
    refine J.stp (Stp.nilAr EI64) ?_
    refine J.loopI (A := List (Int) × Int) (B := Value) (ref39_Cover_s2 fuel p0 p1) (fun a58 b59 => [(1, v3), (2, Value.pointer (some ⟨b1, 0, none⟩)), (6, b59), (7, Value.int .i64 (a58.2))]) (fun a58 b59 => [Blk b1 [v0, v1] 29, Ar EI64 b59 a58.1]) (fun a58 b59 => [Sl RI64 v0 p0.1, S2 RI64I64p v1 z2 p0.2, Sl RI64 v3 p1]) (([] : List Int), (0 : Int)) (Value.slice none 0 0) h (by repeat (first | exact SubF.nil | refine SubF.cons rfl ?_)) (SubM.cons 1 rfl (SubM.cons 0 rfl (SubM.nil))) (LentAll.refl _ _) ?_
    clear h
    intro k60 a58 b59 h
    unfold ref39_Cover_s2 at h
    refine J.seq ?_
    refine J.seq ?_
    refine J.region ?_
    refine J.quiet (Y.move rfl) rfl ?_
    refine J.quiet (Y.move rfl) rfl ?_
    refine J.quiet (Y.lenS rfl (Lent.fact 2 rfl) rfl) rfl ?_
    refine J.quiet (Y.lss rfl rfl) rfl ?_
    refine J.done ?_
    refine J.thenN ?_
    refine J.condD (by exact rfl) (fun hp61 => ?_) (fun hp61 => ?_)
    · replace h := ifP hp61 h
      refine J.skip ?_
      refine J.thenN ?_
      refine J.seq ?_
      refine J.block ?_
      refine J.region ?_
      refine J.quiet (Y.move rfl) rfl ?_
      refine J.loud (Loud.buildS (e := EI64) ([(-1 : Int)]) [(0, Value.int .i64 (-1 : Int))] rfl rfl rfl rfl (fill_1_1 (Value.int .i64 (-1 : Int)) rfl) rfl rfl rfl) rfl fun u62 => ?_
      replace h := ck_some h; obtain ⟨hc64, h⟩ := h
      refine J.loud (Loud.appendL 2 FI64 rfl rfl rfl (Lent.ar (Lent.res 0 rfl) FI64) rfl rfl rfl rfl hc64 rfl) rfl fun u63 => ?_
      refine J.quiet (Y.assign rfl) rfl ?_
      refine J.done ?_
      refine J.inN ?_
      refine J.thenN ?_
      refine J.region ?_
      refine J.quiet (Y.move rfl) rfl ?_
      refine J.quiet (Y.addW rfl rfl) rfl ?_
      refine J.quiet (Y.assign rfl) rfl ?_
      refine J.done ?_
      refine J.thenN ?_
      exact J.againI ((a58.1 ++ ([ (-1 : Int)])), (wI .i64 (a58.2 + (1 : Int)))) (u63) h (by repeat (first | exact SubF.nil | refine SubF.cons rfl ?_)) (SubM.cons 1 rfl (SubM.cons 1 rfl (SubM.nil))) (LentAll.refl _ _)
    · replace h := ifN hp61 h
      refine J.exit ?_
      refine J.thenX ?_
      refine J.thenX ?_
      refine J.inX ?_
      refine J.thenN ?_
      exact J.meetI (a58.1) (b59) h (by repeat (first | exact SubF.nil | refine SubF.cons rfl ?_)) (SubM.refl _) (LentAll.refl _ _)
  · clear h
    intro a4 b5 h
    unfold ref39_Cover_k1 at h
    refine J.seq ?_
    refine J.region ?_
    refine J.quiet (Y.loadBAll 0 rfl rfl rfl rfl) rfl ?_
    refine J.quiet (Y.move rfl) rfl ?_
    refine J.quiet (Y.move rfl) rfl ?_
    replace h := bnd h; obtain ⟨r6, hr7, h⟩ := h
    refine J.loud (Loud.callL body60 (t_ref39_complete fuel v0 v1 z2 v3 b5 r6 hr7) rfl (LentAll.cons (Lent.fact 0 rfl) (LentAll.cons (Lent.fact 1 rfl) (LentAll.cons (Lent.fact 2 rfl) (LentAll.cons (Lent.ar (Lent.res 1 rfl) FI64) (LentAll.nil))))) (fun _ _ => rfl)) rfl fun x8 => ?_
    refine J.quiet (Y.move rfl) rfl ?_
    refine J.quiet (Y.extract rfl rfl) rfl ?_
    refine J.quiet (Y.extract rfl rfl) rfl ?_
    refine J.quiet (Y.assign rfl) rfl ?_
    refine J.quiet (Y.assign rfl) rfl ?_
    refine J.done ?_
    refine J.thenN ?_
    refine J.seq ?_
    refine J.midI (A := Bool × List (Int)) (B := Value) (fun a12 => ref39_Cover_k2  a12 = some r) (fun a12 b13 => [(8, b13), (9, Value.bool (a12.1))]) (fun a12 b13 => [Ar EI64 b13 a12.2]) (fun a12 b13 => [Sl RI64 v0 p0.1, S2 RI64I64p v1 z2 p0.2, Sl RI64 v3 p1]) ?_ ?_
    · refine J.seq ?_
      refine J.region ?_
      refine J.quiet (Y.assign rfl) rfl ?_
      refine J.done ?_
      refine J.thenN ?_
      refine J.block ?_
      refine J.loopI (A := Bool × Int × List (Int)) (B := Value) (ref39_Cover_s1 fuel p0 p1) (fun a19 b20 => [(1, v3), (2, Value.pointer (some ⟨b1, 0, none⟩)), (8, b20), (9, Value.bool (a19.1)), (10, Value.int .i64 (a19.2.1))]) (fun a19 b20 => [Ar EI64 b20 a19.2.2, Blk b1 [v0, v1] 29]) (fun a19 b20 => [Sl RI64 v0 p0.1, S2 RI64I64p v1 z2 p0.2, Sl RI64 v3 p1]) (r6.2, (0 : Int), r6.1) (x8) h (by repeat (first | exact SubF.nil | refine SubF.cons rfl ?_)) (SubM.cons 0 rfl (SubM.cons 0 rfl (SubM.nil))) (LentAll.refl _ _) ?_
      clear h
      intro k21 a19 b20 h
      unfold ref39_Cover_s1 at h
      refine J.seq ?_
      refine J.seq ?_
      refine J.midI (A := Bool) (B := Unit) (fun a23 => ref39_Cover_k3 fuel p0 p1 a19 (iter (ref39_Cover_s1 fuel p0 p1) k21) a23 = some r) (fun a23 b24 => [(1, v3), (2, Value.pointer (some ⟨b1, 0, none⟩)), (8, b20), (9, Value.bool (a19.1)), (10, Value.int .i64 (a19.2.1)), (37, Value.bool (a23))]) (fun a23 b24 => [Ar EI64 b20 a19.2.2, Blk b1 [v0, v1] 29]) (fun a23 b24 => [Sl RI64 v0 p0.1, S2 RI64I64p v1 z2 p0.2, Sl RI64 v3 p1]) ?_ ?_
      · refine J.region ?_
        refine J.quiet (Y.move rfl) rfl ?_
        refine J.quiet (Y.move rfl) rfl ?_
        refine J.quiet (Y.lenS rfl (Lent.fact 2 rfl) rfl) rfl ?_
        refine J.quiet (Y.lss rfl rfl) rfl ?_
        refine J.quiet (Y.move rfl) rfl ?_
        refine J.guardD (by exact rfl) (by exact rfl) (fun hp53 => ?_) (fun hp53 => ?_)
        · replace h := ifP hp53 h
          refine J.guardY rfl (Y.move rfl) rfl ?_
          refine J.quiet (Y.pickT rfl rfl) rfl ?_
          refine J.done ?_
          refine J.thenN ?_
          exact J.meetI (a19.1) (()) h (by repeat (first | exact SubF.nil | refine SubF.cons rfl ?_)) (SubM.refl _) (LentAll.refl _ _)
        · replace h := ifN hp53 h
          refine J.guardN rfl rfl rfl ?_
          refine J.quiet (Y.pickF rfl rfl) rfl ?_
          refine J.done ?_
          refine J.thenN ?_
          exact J.meetI (false) (()) h (by repeat (first | exact SubF.nil | refine SubF.cons rfl ?_)) (SubM.refl _) (LentAll.refl _ _)
      · clear h
        intro a23 b24 h
        unfold ref39_Cover_k3 at h
        refine J.cond (by exact rfl) (fun hp25 => ?_) (fun hp25 => ?_)
        · replace h := ifP hp25 h
          refine J.skip ?_
          refine J.thenN ?_
          refine J.seq ?_
          refine J.midI (A := Bool × List (Int)) (B := Value) (fun a29 => ref39_Cover_k4 a19 (iter (ref39_Cover_s1 fuel p0 p1) k21) a29 = some r) (fun a29 b30 => [(1, v3), (2, Value.pointer (some ⟨b1, 0, none⟩)), (8, b30), (9, Value.bool (a29.1)), (10, Value.int .i64 (a19.2.1))]) (fun a29 b30 => [Ar EI64 b30 a29.2, Blk b1 [v0, v1] 29]) (fun a29 b30 => [Sl RI64 v0 p0.1, S2 RI64I64p v1 z2 p0.2, Sl RI64 v3 p1]) ?_ ?_
          · refine J.block ?_
            refine J.seq ?_
            refine J.seq ?_
            refine J.region ?_
            refine J.quiet (Y.move rfl) rfl ?_
            refine J.quiet (Y.move rfl) rfl ?_
            replace h := ck_some h; obtain ⟨hc31, h⟩ := h
            refine J.quiet (Y.indexS rfl rfl (Lent.ar (Lent.res 0 rfl) FI64) rfl rfl hc31) rfl ?_
            refine J.quiet (Y.loadS0 rfl (Lent.ar (Lent.res 0 rfl) FI64) rfl rfl rfl RI64c0 hc31) rfl ?_
            refine J.quiet (Y.geq rfl rfl) rfl ?_
            refine J.done ?_
            refine J.thenN ?_
            refine J.condD (by exact rfl) (fun hp32 => ?_) (fun hp32 => ?_)
            · replace h := ifP hp32 h
              refine J.exit ?_
              refine J.thenX ?_
              refine J.inX ?_
              refine J.thenN ?_
              exact J.meetI (a19.1, a19.2.2) (b20) h (by repeat (first | exact SubF.nil | refine SubF.cons rfl ?_)) (SubM.refl _) (LentAll.refl _ _)
            · replace h := ifN hp32 h
              refine J.skip ?_
              refine J.thenN ?_
              refine J.seq ?_
              refine J.region ?_
              refine J.loud (Loud.buildS (e := EI64) ([] : List Int) [] rfl rfl rfl rfl ((fun i h => by simp at h; subst h; rfl)) rfl rfl rfl) rfl fun u33 => ?_
              refine J.quiet (Y.move rfl) rfl ?_
              replace h := ck_some h; obtain ⟨hc35, h⟩ := h
              refine J.loud (Loud.appendL 0 FI64 rfl rfl rfl (Lent.ar (Lent.res 1 rfl) FI64) rfl rfl rfl rfl hc35 rfl) rfl fun u34 => ?_
              refine J.loud (Loud.buildS (e := EI64) ([] : List Int) [] rfl rfl rfl rfl ((fun i h => by simp at h; subst h; rfl)) rfl rfl rfl) rfl fun u36 => ?_
              refine J.quiet (Y.move rfl) rfl ?_
              replace h := ck_some h; obtain ⟨hc38, h⟩ := h
              refine J.loud (Loud.appendL 0 FI64 rfl rfl rfl (Lent.ar (Lent.res 2 rfl) FI64) rfl rfl rfl rfl hc38 rfl) rfl fun u37 => ?_
              refine J.quiet (Y.assign rfl) rfl ?_
              refine J.quiet (Y.assign rfl) rfl ?_
              refine J.done ?_
              refine J.thenN ?_
              refine J.seq ?_
              refine J.region ?_
              refine J.quiet (Y.move rfl) rfl ?_
              refine J.quiet (Y.move rfl) rfl ?_
              refine J.quiet (Y.move rfl) rfl ?_
              refine J.quiet (Y.move rfl) rfl ?_
              replace h := ck_some h; obtain ⟨hc39, h⟩ := h
              refine J.quiet (Y.indexS rfl rfl (Lent.ar (Lent.res 1 rfl) FI64) rfl rfl hc39) rfl ?_
              refine J.storeS 1 (0 : Int) hc39 rfl rfl rfl rfl rfl rfl rfl ?_
              replace h := ck_some h; obtain ⟨hc40, h⟩ := h
              refine J.quiet (Y.indexS rfl rfl (Lent.ar (Lent.res 0 rfl) FI64) rfl rfl hc40) rfl ?_
              refine J.storeS 0 (1 : Int) hc40 rfl rfl rfl rfl rfl rfl rfl ?_
              refine J.done ?_
              refine J.thenN ?_
              refine J.seq ?_
              refine J.region ?_
              refine J.quiet (Y.loadBAll 3 rfl rfl rfl rfl) rfl ?_
              refine J.quiet (Y.move rfl) rfl ?_
              refine J.quiet (Y.move rfl) rfl ?_
              replace h := bnd h; obtain ⟨r41, hr42, h⟩ := h
              refine J.loud (Loud.callL body60 (t_ref39_complete fuel v0 v1 z2 v3 u34 r41 hr42) rfl (LentAll.cons (Lent.fact 0 rfl) (LentAll.cons (Lent.fact 1 rfl) (LentAll.cons (Lent.fact 2 rfl) (LentAll.cons (Lent.ar (Lent.res 1 rfl) FI64) (LentAll.nil))))) (fun _ _ => rfl)) rfl fun x43 => ?_
              refine J.quiet (Y.move rfl) rfl ?_
              refine J.quiet (Y.extract rfl rfl) rfl ?_
              refine J.quiet (Y.extract rfl rfl) rfl ?_
              refine J.quiet (Y.assign rfl) rfl ?_
              refine J.quiet (Y.assign rfl) rfl ?_
              refine J.done ?_
              refine J.thenN ?_
              refine J.seq ?_
              refine J.midI (A := Bool × List (Int)) (B := Value) (fun a47 => ref39_Cover_k5 a19 (iter (ref39_Cover_s1 fuel p0 p1) k21) a47 = some r) (fun a47 b48 => [(1, v3), (2, Value.pointer (some ⟨b1, 0, none⟩)), (10, Value.int .i64 (a19.2.1)), (13, b48), (14, Value.bool (a47.1))]) (fun a47 b48 => [Ar EI64 b48 a47.2, Blk b1 [v0, v1] 29]) (fun a47 b48 => [Sl RI64 v0 p0.1, S2 RI64I64p v1 z2 p0.2, Sl RI64 v3 p1]) ?_ ?_
              · refine J.seq ?_
                refine J.region ?_
                refine J.quiet (Y.move rfl) rfl ?_
                refine J.quiet (Y.not rfl) rfl ?_
                refine J.done ?_
                refine J.thenN ?_
                refine J.cond (by exact rfl) (fun hp49 => ?_) (fun hp49 => ?_)
                · replace h := ifP hp49 h
                  refine J.region ?_
                  refine J.quiet (Y.loadBAll 4 rfl rfl rfl rfl) rfl ?_
                  refine J.quiet (Y.move rfl) rfl ?_
                  refine J.quiet (Y.move rfl) rfl ?_
                  replace h := bnd h; obtain ⟨r50, hr51, h⟩ := h
                  refine J.loud (Loud.callL body60 (t_ref39_complete fuel v0 v1 z2 v3 u37 r50 hr51) rfl (LentAll.cons (Lent.fact 0 rfl) (LentAll.cons (Lent.fact 1 rfl) (LentAll.cons (Lent.fact 2 rfl) (LentAll.cons (Lent.ar (Lent.res 1 rfl) FI64) (LentAll.nil))))) (fun _ _ => rfl)) rfl fun x52 => ?_
                  refine J.quiet (Y.move rfl) rfl ?_
                  refine J.quiet (Y.extract rfl rfl) rfl ?_
                  refine J.quiet (Y.extract rfl rfl) rfl ?_
                  refine J.quiet (Y.assign rfl) rfl ?_
                  refine J.quiet (Y.assign rfl) rfl ?_
                  refine J.done ?_
                  refine J.thenN ?_
                  exact J.meetI (r50.2, r50.1) (x52) h (by repeat (first | exact SubF.nil | refine SubF.cons rfl ?_)) (SubM.cons 0 rfl (SubM.cons 4 rfl (SubM.nil))) (LentAll.refl _ _)
                · replace h := ifBN hp49 h
                  refine J.skip ?_
                  refine J.thenN ?_
                  exact J.meetI (r41.2, r41.1) (x43) h (by repeat (first | exact SubF.nil | refine SubF.cons rfl ?_)) (SubM.cons 0 rfl (SubM.cons 3 rfl (SubM.nil))) (LentAll.refl _ _)
              · clear h
                intro a47 b48 h
                unfold ref39_Cover_k5 at h
                refine J.region ?_
                refine J.quiet (Y.move rfl) rfl ?_
                refine J.quiet (Y.move rfl) rfl ?_
                refine J.quiet (Y.assign rfl) rfl ?_
                refine J.quiet (Y.assign rfl) rfl ?_
                refine J.done ?_
                refine J.inN ?_
                refine J.thenN ?_
                exact J.meetI (a47.1, a47.2) (b48) h (by repeat (first | exact SubF.nil | refine SubF.cons rfl ?_)) (SubM.refl _) (LentAll.refl _ _)
          · clear h
            intro a29 b30 h
            unfold ref39_Cover_k4 at h
            refine J.region ?_
            refine J.quiet (Y.move rfl) rfl ?_
            refine J.quiet (Y.addW rfl rfl) rfl ?_
            refine J.quiet (Y.assign rfl) rfl ?_
            refine J.done ?_
            refine J.thenN ?_
            exact J.againI (a29.1, (wI .i64 (a19.2.1 + (1 : Int))), a29.2) (b30) h (by repeat (first | exact SubF.nil | refine SubF.cons rfl ?_)) (SubM.refl _) (LentAll.refl _ _)
        · replace h := ifBN hp25 h
          refine J.exit ?_
          refine J.thenX ?_
          refine J.thenX ?_
          refine J.inX ?_
          refine J.thenN ?_
          exact J.meetI (a19.1, a19.2.2) (b20) h (by repeat (first | exact SubF.nil | refine SubF.cons rfl ?_)) (SubM.cons 0 rfl (SubM.nil)) (LentAll.refl _ _)
    · clear h
      intro a12 b13 h
      unfold ref39_Cover_k2 at h
      refine J.seq ?_
      refine J.region ?_
      refine J.quiet (Y.move rfl) rfl ?_
      refine J.quiet (Y.move rfl) rfl ?_
      refine J.quiet (Y.assign rfl) rfl ?_
      refine J.quiet (Y.assign rfl) rfl ?_
      refine J.done ?_
      refine J.thenN ?_
      refine J.ret ?_
      obtain rfl := Option.some.inj h
      exact J.retG2 (b13) rfl rfl (RV.tmp rfl) (RV.tmp rfl) (SubM.refl _) LentAll.nil

end Go.Proofs.Ytmajgimhmfeliaa
end
section
set_option linter.unusedVariables false
set_option linter.unusedSimpArgs false
namespace Go.Proofs.Ytmajgimhmfeliaa
open Go.Sx
set_option linter.unusedVariables false
section
variable {g : GR} {st a : List Int}
/-- values that any closed values above a have -/
structure Wv (g : GR) (ps a l : List Int) : Prop where
  len : l.length = g.2.length
  val : ∀ v : Nat, v < g.2.length → at' l (v : Int) = -1 ∨ at' l (v : Int) = 0 ∨ at' l (v : Int) = 1
  ext : Ext2 g a l
  min : ∀ c, Closed0 g ps c → Ext2 g a c → Ext2 g l c

/-- one goes on to the other -/
structure Le (g : GR) (ps a l l' : List Int) : Prop where
  w : Wv g ps a l'
  un : un l' < un l ∨ l' = l

theorem Le.refl {ps l : List Int} (h : Wv g ps a l) : Le g ps a l l := ⟨h, .inr rfl⟩
theorem Le.le {ps l l' : List Int} (h : Le g ps a l l') : Go.Proofs.Ytmajgimhmfeliaa.un l' ≤ Go.Proofs.Ytmajgimhmfeliaa.un l := by
  rcases h.un with h | rfl
  · omega
  · exact Nat.le_refl _
theorem Le.trans {ps l l' l'' : List Int} (h : Le g ps a l l') (h2 : Le g ps a l' l'') : Le g ps a l l'' := by
  refine ⟨h2.w, ?_⟩
  rcases h2.un with h3 | rfl
  · exact .inl (Nat.lt_of_lt_of_le h3 h.le)
  · exact h.un
/-- what comes back was never left -/
theorem Le.same {ps l l' l'' : List Int} (h : Le g ps a l l') (h2 : Le g ps a l' l'') (e : l'' = l) : l' = l := by
  rcases h.un with h3 | h3
  · have := h2.le; subst e; omega
  · exact h3

theorem Le.put {ps l : List Int} (h : Wv g ps a l) {q : Nat} {x : Int} (hq : q < g.2.length) (hx : x = 0 ∨ x = 1) (hne : at' l (q : Int) ≠ 1 - x) (hf : ∀ c, Closed0 g ps c → Ext2 g a c → at' c (q : Int) = x) : Le g ps a l (l.set q x) := by
  have hlen := h.len
  have hv := h.val q hq
  refine ⟨⟨by simpa using hlen, fun v hv => ?_, fun v hv hn => ?_, fun c hc he v hv hn => ?_⟩, ?_⟩
  · rw [at_set1 _ _ _ (by omega)]
    by_cases e : v = q
    · rw [if_pos e]; omega
    · rw [if_neg e]; exact h.val v hv
  · rw [at_set1 _ _ _ (by omega)]
    have := h.ext v hv hn
    by_cases e : v = q
    · subst e; rw [if_pos rfl]; rw [← this] at hn ⊢; omega
    · rw [if_neg e]; exact this
  · rw [at_set1 _ _ _ (by omega)] at hn ⊢
    by_cases e : v = q
    · subst e; rw [if_pos rfl]; exact hf c hc he
    · rw [if_neg e] at hn ⊢; exact h.min c hc he v hv hn
  · by_cases hu : at' l (q : Int) = -1
    · left
      have := un_set (vals := l) (v := q) (x := x) (by omega) hu (by omega)
      omega
    · right
      refine list_ext (by simp) fun v hv => ?_
      show at' (l.set q x) (v : Int) = at' l (v : Int)
      rw [at_set1 _ _ _ (by omega)]
      by_cases e : v = q
      · subst e; rw [if_pos rfl]; omega
      · rw [if_neg e]

/-- nothing is left to do at a node -/
structure OkAt (g : GR) (ps l : List Int) (v : Nat) : Prop where
  no : at' ps (v : Int) < 0 → at' l (v : Int) = 0
  pt : 0 ≤ at' ps (v : Int) → 0 ≤ at' l (v : Int) → at' l (at' ps (v : Int)) = 1 - at' l (v : Int)
  nb : at' l (v : Int) = 0 → ∀ i : Nat, i < (row g v).length → at' l (lnk (row g v) i).1 = 1

theorem closed_of {ps l : List Int} (h : Wv g ps a l) (ho : ∀ v, v < g.2.length → OkAt g ps l v) : Closed0 g ps l := by
  refine ⟨⟨h.len, h.val, fun v hv _ hne => ⟨?_, (ho v hv).no, fun hp => ?_, fun h0 x hx => ?_⟩⟩, fun v hv => (ho v hv).no⟩
  · have := h.val v hv; omega
  · have := h.val v hv; exact (ho v hv).pt hp (by omega)
  · obtain ⟨i, hi, he⟩ := at_of_mem hx
    have := (ho v hv).nb h0 i hi
    change at' l (at' (at' g.2 (v : Int)) (i : Int)).1 = 1 at this
    rw [he] at this; exact this

abbrev AnsL := List Int × Bool
def CmpS (g : GR) (ps a : List Int) (r : AnsL) : Prop := (r.2 = true ∧ IsLCE g ps a r.1) ∨ (r.2 = false ∧ NoCE g ps a)

theorem refPartner_eq (hst : st.length = g.2.length) {v : Nat} (hv : v < g.2.length) (hf : FitAt 4 g v (at' st (v : Int))) : m_ref39_partner 1000 g st (v : Int) = some (ptn g st v) := by
  rw [FitAt, if_pos (.inr rfl)] at hf
  have e : (at' g.2 (v : Int)).length = (row g v).length := rfl
  unfold m_ref39_partner ptn
  rw [ckT (by omega)]
  by_cases h : at' st (v : Int) < 0
  · rw [if_pos h, if_neg (by omega)]
  · rw [if_neg h, if_pos (by omega), ckT (by omega), ckT (by omega), ckT (by omega)]

theorem complete_spec (hV : VM g.1 g.2) (hst : st.length = g.2.length) (hfit : ∀ v : Nat, v < g.2.length → FitAt 4 g v (at' st (v : Int))) (hal : a.length = g.2.length) (hav : ∀ v : Nat, v < g.2.length → at' a (v : Int) = -1 ∨ at' a (v : Int) = 0 ∨ at' a (v : Int) = 1) :
    OK (CmpS g (ptns g st) a) (m_ref39_complete 1000 g st a) := by
  have h24 := hV.n24
  have hg : VG g := hV.vg
  have hP := prt_of hV hfit
  have hrng : ∀ v : Nat, v < g.2.length → -1 ≤ ptn g st v ∧ ptn g st v ≤ (g.2.length : Int) - 1 := fun v hv => ptn_rng hV hv (hfit v hv)
  have hW0 : Wv g (ptns g st) a a := ⟨hal, hav, Ext2.refl, fun c _ he => he⟩
  unfold m_ref39_complete
  rw [ckT (by simp; omega), List.nil_append]
  refine iter_ok (fun s : Int × List Int => ∃ R : Nat, s.1 = R ∧ R ≤ g.2.length + 1 ∧ Wv g (ptns g st) a s.2 ∧ (Closed0 g (ptns g st) s.2 ∨ un s.2 + R ≤ g.2.length)) (fun s => g.2.length + 1 - s.1.toNat) ?_ 1000 _ ⟨0, rfl, by omega, hW0, .inr (by have : un a ≤ a.length := List.count_le_length; dsimp only; omega)⟩ (by dsimp only; omega)
  rintro ⟨R', l0⟩ ag ⟨R, hR, hR2, hW, hcl⟩ hrec
  dsimp only at hR hW hcl
  subst hR
  have hl0 := hW.len
  unfold ref39_complete_s1
  dsimp only
  by_cases hRn : (R : Int) ≤ (l0.length : Int)
  rotate_left
  · rw [if_neg hRn]
    have hc : Closed0 g (ptns g st) l0 := hcl.resolve_right (by omega)
    exact ⟨_, rfl, .inl ⟨rfl, hc, hW.ext, hW.min⟩⟩
  rw [if_pos hRn]
  -- a pass
  refine iter_ok (fun s : Int × List Int => ∃ v : Nat, s.1 = v ∧ v ≤ g.2.length ∧ Le g (ptns g st) a l0 s.2 ∧ (s.2 = l0 → ∀ u, u < v → OkAt g (ptns g st) l0 u)) (fun s => g.2.length - s.1.toNat) ?_ 1000 _ ⟨0, rfl, by omega, Le.refl hW, fun _ u hu => by omega⟩ (by dsimp only; omega)
  rintro ⟨i, l⟩ ag2 ⟨v, hi, hvn, hle, hok⟩ hrec2
  dsimp only at hi hle hok
  subst hi
  have hll := hle.w.len
  unfold ref39_complete_s2
  dsimp only
  by_cases hvl : (v : Int) < (l.length : Int)
  rotate_left
  · rw [if_neg hvl]
    have hvv : v = g.2.length := by omega
    subst hvv
    unfold ref39_complete_k2
    dsimp only
    rw [wr (by omega) (by omega)]
    refine hrec _ ⟨R + 1, by simp, by omega, hle.w, ?_⟩ (by dsimp only; omega)
    dsimp only
    rcases hle.un with h | h
    · rcases hcl with hc | hc
      · -- closed values are not left
        exfalso
        have e1 := hle.w.min l0 hc hW.ext
        have e2 := hW.min
        have : l = l0 := by
          refine list_ext (by omega) fun u hu => ?_
          show at' l (u : Int) = at' l0 (u : Int)
          by_cases hb : at' l (u : Int) ≠ -1
          · exact (e1 u (by omega) hb).symm
          · by_cases hb' : at' l0 (u : Int) ≠ -1
            · -- l0's values go on in l, by their numbers of open nodes
              exfalso
              have hsub : un l0 ≤ un l := by
                unfold un
                rw [show l0 = (List.range g.2.length).map fun u : Nat => at' l0 (u : Int) from list_ext (by simpa using hl0) fun u hu => (at_map _ (by omega)).symm]
                rw [show l = (List.range g.2.length).map fun u : Nat => at' l (u : Int) from list_ext (by simpa using hll) fun u hu => (at_map _ (by omega)).symm]
                show List.countP (· == (-1 : Int)) _ ≤ List.countP (· == (-1 : Int)) _
                rw [List.countP_map, List.countP_map]
                refine List.countP_mono_left fun u hu h => ?_
                have hu' : u < g.2.length := by simpa using hu
                simp only [Function.comp, beq_iff_eq] at h ⊢
                by_cases hb2 : at' l (u : Int) ≠ -1
                · have := e1 u hu' hb2; omega
                · omega
              omega
            · omega
        subst this
        omega
      · exact .inr (by omega)
    · left
      rw [h]
      exact closed_of hW fun u hu => hok h u hu
  rw [if_pos hvl]
  have hv : v < g.2.length := by omega
  have hdeg := (hg.node v hv).deg
  have ee : (at' g.2 (v : Int)).length = (row g v).length := rfl
  rw [bindS (refPartner_eq hst hv (hfit v hv))]
  have hpe : at' (ptns g st) (v : Int) = ptn g st v := ptns_at hv
  have hrv := hrng v hv
  -- the neighbours
  have k5 : ∀ l2 : List Int, Le g (ptns g st) a l l2 → (l2 = l → (ptn g st v < 0 → at' l (v : Int) = 0) ∧ (0 ≤ ptn g st v → 0 ≤ at' l (v : Int) → at' l (ptn g st v) = 1 - at' l (v : Int))) →
      OK (CmpS g (ptns g st) a) (ref39_complete_k5 1000 g ((v : Int), l) ag2 l2) := by
    intro l2 hl2 hn2
    unfold ref39_complete_k5
    refine iter_ok (fun s : Int × List Int => ∃ j : Nat, s.1 = j ∧ j ≤ (row g v).length ∧ Le g (ptns g st) a l2 s.2 ∧ at' s.2 (v : Int) = at' l2 (v : Int) ∧ (s.2 = l2 → at' l2 (v : Int) = 0 → ∀ i : Nat, i < j → at' l2 (lnk (row g v) i).1 = 1)) (fun s => (row g v).length - s.1.toNat) ?_ 1000 _ ⟨0, rfl, by omega, Le.refl hl2.w, rfl, fun _ _ i hi => by omega⟩ (by dsimp only; omega)
    rintro ⟨j', l3⟩ ag3 ⟨j, hj, hj2, hl3, hv3, hn3⟩ hrec3
    dsimp only at hj hl3 hv3 hn3
    subst hj
    have hll3 := hl3.w.len
    -- the round of this node ends
    have fin : (at' l2 (v : Int) = 0 → (row g v).length ≤ j) → OK (CmpS g (ptns g st) a) (ref39_complete_k3 ((v : Int), l) ag2 l3) := by
      intro hfin
      unfold ref39_complete_k3
      dsimp only
      rw [wr (by omega) (by omega)]
      refine hrec2 _ ⟨v + 1, by simp, by omega, (hle.trans hl2).trans hl3, fun he u hu => ?_⟩ (by dsimp only; omega)
      dsimp only at he
      have h1 : l2 = l0 := (hle.trans hl2).same hl3 he
      have h2 : l = l0 := hle.same hl2 h1
      by_cases huv : u = v
      · subst huv
        have hl2l : l2 = l := h1.trans h2.symm
        obtain ⟨c1, c2⟩ := hn2 hl2l
        rw [h2] at c1 c2
        refine ⟨fun hp => c1 (by rw [← hpe]; exact hp), fun hp h0 => ?_, fun h0 i hi => ?_⟩
        · rw [hpe] at hp ⊢; exact c2 hp h0
        · have h3 : l3 = l2 := he.trans h1.symm
          rw [← h1] at h0 ⊢
          exact hn3 h3 h0 i (by have := hfin h0; omega)
      · exact hok h2 u (by omega)
    unfold ref39_complete_s3
    dsimp only
    rw [ckT (by omega)]
    by_cases hjd : (j : Int) < ((at' g.2 (v : Int)).length : Int)
    rotate_left
    · rw [if_neg hjd]
      unfold ref39_complete_k6
      rw [if_neg (by simp)]
      exact fin fun _ => by omega
    rw [if_pos hjd, ckT (by omega)]
    unfold ref39_complete_k6
    by_cases h0 : at' l3 (v : Int) = 0
    rotate_left
    · rw [decide_eq_false h0, if_neg (by simp)]
      exact fin fun hc => absurd (hv3.trans hc) h0
    rw [decide_eq_true h0, if_pos rfl, ckT (by omega)]
    dsimp only
    rw [ckT (by omega)]
    obtain ⟨w, hw, hwe⟩ := lnk_node hg hv (i := j) (by omega)
    have hwe' : (at' (at' g.2 (v : Int)) (j : Int)).1 = (w : Int) := hwe
    rw [hwe', ckT (by omega)]
    have forced : ∀ c, Closed0 g (ptns g st) c → Ext2 g a c → at' c (w : Int) = 1 := by
      intro c hc he
      have hcv : at' c (v : Int) = 0 := by rw [hl3.w.min c hc he v hv (by omega), h0]
      have := (hc.inv.clo v hv (fun h => h) (by omega)).nb hcv _ (mem_of_at (l := at' g.2 (v : Int)) (i := j) (by omega))
      rw [hwe'] at this; exact this
    by_cases hw0 : at' l3 (w : Int) = 0
    · rw [if_pos hw0]
      refine ⟨_, rfl, .inr ⟨rfl, fun ⟨c, hc, he⟩ => ?_⟩⟩
      have h1 := forced c hc he
      rw [hl3.w.min c hc he w hw (by omega)] at h1
      omega
    · rw [if_neg hw0, ckT (by omega), wr (by omega) (by omega)]
      have e1 : Int.toNat (w : Int) = w := by omega
      rw [e1]
      have hput := Le.put hl3.w hw (.inr rfl) hw0 forced
      have hvw : v ≠ w := fun h => by
        have := ((hg.node v hv).links j (by omega)).2.1
        rw [hwe, ← h] at this
        exact this rfl
      refine hrec3 _ ⟨j + 1, by simp, by omega, hl3.trans hput, ?_, fun he h0' i hi => ?_⟩ (by dsimp only; omega)
      · dsimp only
        rw [at_set1 _ _ _ (by omega), if_neg hvw]; exact hv3
      · dsimp only at he
        have h3 : l3 = l2 := hl3.same hput he
        by_cases hij : i = j
        · subst hij
          rw [hwe, ← he, at_set1 _ _ _ (by omega), if_pos rfl]
        · exact hn3 h3 h0' i (by omega)
  -- the partner
  have k4 : ∀ l1 : List Int, Le g (ptns g st) a l l1 → (l1 = l → ptn g st v < 0 → at' l (v : Int) = 0) →
      OK (CmpS g (ptns g st) a) (ref39_complete_k4 1000 g ((v : Int), l) ag2 (ptn g st v) l1) := by
    intro l1 hl1 hn1
    have hll1 := hl1.w.len
    unfold ref39_complete_k4
    by_cases hp : 0 ≤ ptn g st v
    rotate_left
    · rw [if_neg hp]
      unfold ref39_complete_k7
      rw [if_neg (by simp)]
      exact k5 l1 hl1 fun h => ⟨hn1 h, fun hc => absurd hc hp⟩
    rw [if_pos hp]
    dsimp only
    rw [ckT (by omega)]
    unfold ref39_complete_k7
    by_cases h0 : 0 ≤ at' l1 (v : Int)
    rotate_left
    · rw [decide_eq_false h0, if_neg (by simp)]
      exact k5 l1 hl1 fun h => ⟨hn1 h, fun _ hc => absurd (by rw [h]; exact hc) h0⟩
    rw [decide_eq_true h0, if_pos rfl]
    obtain ⟨q, hq⟩ : ∃ q : Nat, ptn g st v = q := ⟨(ptn g st v).toNat, by omega⟩
    have hql : q < g.2.length := by omega
    rw [hq, ckT (by omega), ckT (by dsimp only; omega)]
    dsimp only
    have hval := hl1.w.val v hv
    have hvalq := hl1.w.val q hql
    have forced : ∀ c, Closed0 g (ptns g st) c → Ext2 g a c → at' c (q : Int) = 1 - at' l1 (v : Int) := by
      intro c hc he
      have hcv : at' c (v : Int) = at' l1 (v : Int) := hl1.w.min c hc he v hv (by omega)
      have := (hc.inv.clo v hv (fun h => h) (by omega)).pt (by rw [hpe, hq]; omega)
      rw [hpe, hq] at this
      rw [this, hcv]
    by_cases heq : at' l1 (q : Int) = at' l1 (v : Int)
    · rw [if_pos heq]
      refine ⟨_, rfl, .inr ⟨rfl, fun ⟨c, hc, he⟩ => ?_⟩⟩
      have h1 := forced c hc he
      rw [hl1.w.min c hc he q hql (by omega)] at h1
      omega
    · rw [if_neg heq, ckT (by omega), ckT (by omega), wr (by omega) (by omega)]
      have e1 : Int.toNat (q : Int) = q := by omega
      rw [e1]
      have hput := Le.put hl1.w hql (x := 1 - at' l1 (v : Int)) (by omega) (by omega) forced
      refine k5 _ (hl1.trans hput) fun he => ⟨fun hc => by omega, fun _ _ => ?_⟩
      have h3 : l1 = l := hl1.same hput he
      rw [hq]
      have : at' (l1.set q (1 - at' l1 (v : Int))) (q : Int) = 1 - at' l1 (v : Int) := by rw [at_set1 _ _ _ (by omega), if_pos rfl]
      rw [he] at this
      rw [this, h3]
  by_cases hneg : ptn g st v < 0
  · rw [if_pos hneg, ckT (by omega)]
    have forced : ∀ c, Closed0 g (ptns g st) c → Ext2 g a c → at' c (v : Int) = 0 := fun c hc he => hc.zero v hv (by rw [hpe]; exact hneg)
    by_cases h1 : at' l (v : Int) = 1
    · rw [if_pos h1]
      refine ⟨_, rfl, .inr ⟨rfl, fun ⟨c, hc, he⟩ => ?_⟩⟩
      have h2 := forced c hc he
      rw [hle.w.min c hc he v hv (by omega)] at h2
      omega
    · rw [if_neg h1, ckT (by omega)]
      have e1 : Int.toNat (v : Int) = v := by omega
      rw [e1]
      have hput := Le.put hle.w hv (x := 0) (.inl rfl) (by omega) forced
      refine k4 _ hput fun he _ => ?_
      have : at' (l.set v 0) (v : Int) = 0 := by rw [at_set1 _ _ _ (by omega), if_pos rfl]
      rw [he] at this; exact this
  · rw [if_neg hneg]
    exact k4 l (Le.refl hle.w) fun _ hc => absurd hc hneg

theorem refCover_spec (hV : VM g.1 g.2) (hst : st.length = g.2.length) (hfit : ∀ v : Nat, v < g.2.length → FitAt 4 g v (at' st (v : Int))) :
    OK (fun r : AnsL => (r.2 = true ∧ gr g (ptns g st) g.2.length = some r.1) ∨ (r.2 = false ∧ gr g (ptns g st) g.2.length = none)) (m_ref39_Cover 1000 g st) := by
  have h24 := hV.n24
  unfold m_ref39_Cover
  refine iter_ok (fun s : List Int × Int => ∃ k : Nat, s.2 = k ∧ k ≤ g.2.length ∧ s.1 = List.replicate k (-1)) (fun s => g.2.length - s.2.toNat) ?_ 1000 _ ⟨0, rfl, by omega, rfl⟩ (by dsimp only; omega)
  rintro ⟨l, i⟩ ag ⟨k, hk, hk2, hl⟩ hrec
  dsimp only at hk hl
  subst hk
  unfold ref39_Cover_s2
  dsimp only
  by_cases hkn : (k : Int) < (st.length : Int)
  · rw [if_pos hkn, ckT (by rw [hl]; simp; omega), wr (by omega) (by omega)]
    refine hrec _ ⟨k + 1, by simp, by omega, ?_⟩ (by dsimp only; omega)
    rw [hl, List.replicate_succ']
  rw [if_neg hkn]
  have hkk : k = g.2.length := by omega
  subst hkk
  subst hl
  unfold ref39_Cover_k1
  obtain ⟨⟨l, b⟩, hc, hs⟩ := complete_spec (a := List.replicate g.2.length (-1)) hV hst hfit (by simp) (fun v hv => .inl (at_replicate _ _ hv))
  rw [bindS hc]
  dsimp only
  have h0 : (b = true ∧ gr g (ptns g st) 0 = some l) ∨ (b = false ∧ gr g (ptns g st) 0 = none) := by
    rcases hs with ⟨h1, h2⟩ | ⟨h1, h2⟩
    · exact .inl ⟨h1, LCE_some h2⟩
    · exact .inr ⟨h1, LCE_none h2⟩
  have hP := prt_of hV hfit
  refine iter_ok (fun s : Bool × Int × List Int => ∃ k : Nat, s.2.1 = k ∧ k ≤ g.2.length ∧ ((s.1 = true ∧ gr g (ptns g st) k = some s.2.2) ∨ (s.1 = false ∧ gr g (ptns g st) k = none))) (fun s => g.2.length - s.2.1.toNat) ?_ 1000 _ ⟨0, rfl, by omega, h0⟩ (by dsimp only; omega)
  rintro ⟨b, i, l⟩ ag2 ⟨k, hk, hk2, hgr⟩ hrec2
  dsimp only at hk hgr
  subst hk
  unfold ref39_Cover_s1
  dsimp only
  rcases hgr with ⟨rfl, hgr⟩ | ⟨rfl, hgr⟩
  rotate_left
  · have : ref39_Cover_k3 1000 g st (false, (k : Int), l) ag2 false = some (l, false) := rfl
    rw [this]
    exact ⟨_, by split <;> rfl, .inr ⟨rfl, gr_none hgr hk2⟩⟩
  by_cases hkn : (k : Int) < (st.length : Int)
  rotate_left
  · rw [if_neg hkn]
    have hkk : k = g.2.length := by omega
    subst hkk
    exact ⟨_, rfl, .inl ⟨rfl, hgr⟩⟩
  rw [if_pos hkn]
  obtain ⟨hcl, _⟩ := gr_ok hV hP k l hk2 hgr
  have hll := hcl.inv.len
  unfold ref39_Cover_k3
  rw [if_pos rfl]
  dsimp only
  rw [ckT (by omega)]
  have nxt : ∀ (b : Bool) (xs : List Int), ((b = true ∧ gstep g (ptns g st) k l = some xs) ∨ (b = false ∧ gstep g (ptns g st) k l = none)) → OK (fun r : AnsL => (r.2 = true ∧ gr g (ptns g st) g.2.length = some r.1) ∨ (r.2 = false ∧ gr g (ptns g st) g.2.length = none)) (ref39_Cover_k4 (true, (k : Int), l) ag2 (b, xs)) := by
    intro b xs hx
    unfold ref39_Cover_k4
    dsimp only
    rw [wr (by omega) (by omega)]
    refine hrec2 _ ⟨k + 1, by simp, by omega, ?_⟩ (by dsimp only; omega)
    dsimp only
    have e : gr g (ptns g st) (k + 1) = gstep g (ptns g st) k l := by
      show (gr g (ptns g st) k).bind _ = _
      rw [hgr]; rfl
    rw [e]; exact hx
  have hvk := hcl.inv.val k (by omega)
  by_cases h0 : (0 : Int) ≤ at' l (k : Int)
  · rw [if_pos h0]
    exact nxt true l (.inl ⟨rfl, by unfold gstep; rw [if_neg (by omega)]⟩)
  rw [if_neg h0]
  have hun : at' l (k : Int) = -1 := by omega
  rw [ckT (by simp; omega), ckT (by simp; omega), List.nil_append, ckT (by omega), ckT (by omega)]
  have e1 : Int.toNat (k : Int) = k := by omega
  rw [e1]
  have sets : ∀ x : Int, (x = 0 ∨ x = 1) → (l.set k x).length = g.2.length ∧ ∀ v : Nat, v < g.2.length → at' (l.set k x) (v : Int) = -1 ∨ at' (l.set k x) (v : Int) = 0 ∨ at' (l.set k x) (v : Int) = 1 := by
    intro x hx
    refine ⟨by simpa using hll, fun v hv => ?_⟩
    rw [at_set1 _ _ _ (by omega)]
    by_cases e : v = k
    · rw [if_pos e]; omega
    · rw [if_neg e]; exact hcl.inv.val v hv
  obtain ⟨⟨m, f⟩, hc0, hs0⟩ := complete_spec (a := l.set k 0) hV hst hfit (sets 0 (.inl rfl)).1 (sets 0 (.inl rfl)).2
  rw [bindS hc0]
  dsimp only
  rcases hs0 with ⟨h1, h2⟩ | ⟨h1, h2⟩
  · dsimp only at h1 h2
    subst h1
    rw [if_neg (by simp)]
    exact nxt true m (.inl ⟨rfl, by unfold gstep; rw [if_pos hun, LCE_some h2]⟩)
  · dsimp only at h1 h2
    subst h1
    rw [if_pos (by rfl)]
    obtain ⟨⟨m2, f2⟩, hc1, hs1⟩ := complete_spec (a := l.set k 1) hV hst hfit (sets 1 (.inr rfl)).1 (sets 1 (.inr rfl)).2
    rw [bindS hc1]
    dsimp only
    refine nxt f2 m2 ?_
    rcases hs1 with ⟨h3, h4⟩ | ⟨h3, h4⟩
    · exact .inl ⟨h3, by unfold gstep; rw [if_pos hun, LCE_none h2, LCE_some h4]⟩
    · exact .inr ⟨h3, by unfold gstep; rw [if_pos hun, LCE_none h2, LCE_none h4]⟩
end
end Go.Proofs.Ytmajgimhmfeliaa
end
section
set_option linter.unusedVariables false
set_option linter.unusedSimpArgs false
namespace Go.Proofs.Ytmajgimhmfeliaa
open Go.Sx
set_option linter.unusedVariables false
set_option linter.unusedSimpArgs false
def m_labels_Holds (fuel : Nat) (p0 : Int) (p1 : List (Int) × (List (List (Int × Int)))) (p2 : List (Int)) : Option (Bool) :=
  Option.bind (m_labels_Prove fuel p0 ((p1.1, p1.2)) p2) fun r2 => (some (decide (r2.2 = (0 : Int))))

theorem body19 : HasBody Try.prog 19 := Try.call19

set_option maxHeartbeats 4000000 in
set_option maxRecDepth 20000 in
theorem t_labels_Holds (fuel : Nat) {p0 : Int} {p1 : List (Int) × (List (List (Int × Int)))} {p2 : List (Int)} (v0 : Value)  (v1 : Value)  (z2 : List (Value × List (Int × Int)))  (v3 : Value) (r : Bool) (h : m_labels_Holds fuel p0 p1 p2 = some r) :
    Meets Try.prog 19 #[Value.int .i64 (p0), Value.agg #[v0, v1], v3] [Sl RI64 v0 p1.1, S2 RI64I64p v1 z2 p1.2, Sl RI64 v3 p2] (fun x : Unit => Value.bool (r)) (fun x l => l) (fun _ l => l) := by
  refine Meets.of (vs := [Value.int .i64 (p0), Value.agg #[v0, v1], v3]) Try.func19 rfl Try.ntmps19 rfl fun c => ?_
  unfold m_labels_Holds at h
  refine J.seq ?_
  refine J.region ?_
  refine J.loud (Loud.box (cs := [v0, v1]) rfl rfl) rfl fun b1 => ?_
  refine J.quiet (Y.assign rfl) rfl ?_
  refine J.done ?_
  refine J.thenN ?_
  refine J.seq ?_
  refine J.region ?_
  refine J.quiet (Y.move rfl) rfl ?_
  refine J.quiet (Y.loadBAll 0 rfl rfl rfl rfl) rfl ?_
  refine J.quiet (Y.move rfl) rfl ?_
  replace h := bnd h; obtain ⟨r2, hr3, h⟩ := h
  refine J.loud (Loud.callL body12 (t_labels_Prove fuel v0 v1 z2 v3 r2 hr3) rfl (LentAll.cons (Lent.fact 0 rfl) (LentAll.cons (Lent.fact 1 rfl) (LentAll.cons (Lent.fact 2 rfl) (LentAll.nil)))) (fun _ _ => rfl)) rfl fun x4 => ?_
  refine J.quiet (Y.move rfl) rfl ?_
  refine J.quiet (Y.extract rfl rfl) rfl ?_
  refine J.quiet (Y.extract rfl rfl) rfl ?_
  refine J.quiet (Y.assign rfl) rfl ?_
  refine J.quiet (Y.assign rfl) rfl ?_
  refine J.done ?_
  refine J.thenN ?_
  refine J.seq ?_
  refine J.region ?_
  refine J.quiet (Y.move rfl) rfl ?_
  refine J.quiet (Y.eql rfl rfl) rfl ?_
  refine J.quiet (Y.assign rfl) rfl ?_
  refine J.done ?_
  refine J.thenN ?_
  refine J.ret ?_
  obtain rfl := Option.some.inj h
  exact J.retG1 (()) rfl rfl (RV.tmp rfl) (SubM.nil) LentAll.nil

end Go.Proofs.Ytmajgimhmfeliaa
end
section
set_option linter.unusedVariables false
set_option linter.unusedSimpArgs false
namespace Go.Proofs.Ytmajgimhmfeliaa
open Go.Sx
set_option linter.unusedVariables false
theorem holds_spec {g : GR} (hV : VM g.1 g.2) (hC : Conn g) {kind : Int} {st : List Int} (hF : Fit kind g st) : ∃ b, m_labels_Holds 1000 kind g st = some b ∧ (b = true ↔ HoldsP kind g st) := by
  obtain ⟨⟨l, e⟩, hp, hq⟩ := prove_spec hV hC hF
  refine ⟨decide (e = 0), ?_, ?_⟩
  · unfold m_labels_Holds
    rw [bindS hp]
  · rw [decide_eq_true_eq]
    rcases hq with ⟨h1, h2, _⟩ | ⟨h1, h2⟩
    · exact ⟨fun _ => h2, fun _ => h1⟩
    · cases h1
      exact ⟨fun h => (by cases h), fun h => absurd h h2⟩

end Go.Proofs.Ytmajgimhmfeliaa
end
section
set_option linter.unusedVariables false
set_option linter.unusedSimpArgs false
namespace Go.Proofs.Ytmajgimhmfeliaa
open Go.Sx
set_option linter.unusedVariables false
set_option linter.unusedSimpArgs false
def law39_large_k1  (a3 : Bool) : Option (Bool) :=
  some (a3)
def m_law39_large (fuel : Nat) (p0 : List (Int) × (List (List (Int × Int)))) (p1 : Int) : Option (Bool) :=
  if (60 : Int) < (List.length p0.2 : Int) then (law39_large_k1  (true)) else (if (60 : Int) < (List.length p0.1 : Int) then (law39_large_k1  (true)) else (law39_large_k1  (decide ((100 : Int) < p1))))

theorem body17 : HasBody Try.prog 17 := Try.call17

set_option maxHeartbeats 4000000 in
set_option maxRecDepth 20000 in
theorem t_law39_large (fuel : Nat) {p0 : List (Int) × (List (List (Int × Int)))} {p1 : Int} (v0 : Value)  (v1 : Value)  (z2 : List (Value × List (Int × Int))) (r : Bool) (h : m_law39_large fuel p0 p1 = some r) :
    Meets Try.prog 17 #[Value.agg #[v0, v1], Value.int .i64 (p1)] [Sl RI64 v0 p0.1, S2 RI64I64p v1 z2 p0.2] (fun x : Unit => Value.bool (r)) (fun x l => l) (fun _ l => l) := by
  refine Meets.of (vs := [Value.agg #[v0, v1], Value.int .i64 (p1)]) Try.func17 rfl Try.ntmps17 rfl fun c => ?_
  unfold m_law39_large at h
  refine J.seq ?_
  refine J.region ?_
  refine J.loud (Loud.box (cs := [v0, v1]) rfl rfl) rfl fun b1 => ?_
  refine J.quiet (Y.assign rfl) rfl ?_
  refine J.done ?_
  refine J.thenN ?_
  refine J.seq ?_
  refine J.midI (A := Bool) (B := Unit) (fun a3 => law39_large_k1  a3 = some r) (fun a3 b4 => [(4, Value.bool (a3))]) (fun a3 b4 => []) (fun a3 b4 => [Sl RI64 v0 p0.1, S2 RI64I64p v1 z2 p0.2]) ?_ ?_
  · refine J.region ?_
    refine J.quiet (Y.fieldB rfl rfl rfl rfl rfl) rfl ?_
    refine J.quiet (Y.loadB 0 rfl rfl rfl rfl rfl) rfl ?_
    refine J.quiet (Y.lenN rfl (Lent.fact 1 rfl) rfl) rfl ?_
    refine J.quiet (Y.gtr rfl rfl) rfl ?_
    refine J.quiet (Y.move rfl) rfl ?_
    refine J.guardD (by exact rfl) (by exact rfl) (fun hp5 => ?_) (fun hp5 => ?_)
    · replace h := ifP hp5 h
      refine J.guardN rfl rfl rfl ?_
      refine J.guardN rfl rfl rfl ?_
      refine J.guardN rfl rfl rfl ?_
      refine J.guardN rfl rfl rfl ?_
      refine J.quiet (Y.pickT rfl rfl) rfl ?_
      refine J.quiet (Y.move rfl) rfl ?_
      refine J.guardN rfl rfl rfl ?_
      refine J.guardN rfl rfl rfl ?_
      refine J.quiet (Y.pickT rfl rfl) rfl ?_
      refine J.quiet (Y.assign rfl) rfl ?_
      refine J.done ?_
      refine J.thenN ?_
      exact J.meetI (true) (()) h (by repeat (first | exact SubF.nil | refine SubF.cons rfl ?_)) (SubM.nil) (LentAll.refl _ _)
    · replace h := ifN hp5 h
      refine J.guardY rfl (Y.fieldB rfl rfl rfl rfl rfl) rfl ?_
      refine J.guardY rfl (Y.loadB 0 rfl rfl rfl rfl rfl) rfl ?_
      refine J.guardY rfl (Y.lenS rfl (Lent.fact 0 rfl) rfl) rfl ?_
      refine J.guardY rfl (Y.gtr rfl rfl) rfl ?_
      refine J.quiet (Y.pickF rfl rfl) rfl ?_
      refine J.quiet (Y.move rfl) rfl ?_
      refine J.guardD (by exact rfl) (by exact rfl) (fun hp6 => ?_) (fun hp6 => ?_)
      · replace h := ifP hp6 h
        refine J.guardN rfl rfl rfl ?_
        refine J.guardN rfl rfl rfl ?_
        refine J.quiet (Y.pickT rfl rfl) rfl ?_
        refine J.quiet (Y.assign rfl) rfl ?_
        refine J.done ?_
        refine J.thenN ?_
        exact J.meetI (true) (()) h (by repeat (first | exact SubF.nil | refine SubF.cons rfl ?_)) (SubM.nil) (LentAll.refl _ _)
      · replace h := ifN hp6 h
        refine J.guardY rfl (Y.move rfl) rfl ?_
        refine J.guardY rfl (Y.gtr rfl rfl) rfl ?_
        refine J.quiet (Y.pickF rfl rfl) rfl ?_
        refine J.quiet (Y.assign rfl) rfl ?_
        refine J.done ?_
        refine J.thenN ?_
        exact J.meetI (decide ((100 : Int) < p1)) (()) h (by repeat (first | exact SubF.nil | refine SubF.cons rfl ?_)) (SubM.nil) (LentAll.refl _ _)
  · clear h
    intro a3 b4 h
    unfold law39_large_k1 at h
    refine J.ret ?_
    obtain rfl := Option.some.inj h
    exact J.retG1 (()) rfl rfl (RV.tmp rfl) (SubM.refl _) LentAll.nil

end Go.Proofs.Ytmajgimhmfeliaa
end
section
set_option linter.unusedVariables false
set_option linter.unusedSimpArgs false
namespace Go.Proofs.Ytmajgimhmfeliaa
open Go.Sx
set_option linter.unusedVariables false
set_option linter.unusedSimpArgs false
def m_ref01_Connected (fuel : Nat) (p0 : List (Int) × (List (List (Int × Int)))) : Option (Bool) :=
  Option.bind (m_ref01_Distances fuel ((p0.1, p0.2)) (0 : Int)) fun r2 => (Option.bind (m_ref01_greatest fuel r2) fun r5 => (some (decide ((0 : Int) ≤ r5))))

theorem body36 : HasBody Try.prog 36 := Try.call36

set_option maxHeartbeats 4000000 in
set_option maxRecDepth 20000 in
theorem t_ref01_Connected (fuel : Nat) {p0 : List (Int) × (List (List (Int × Int)))} (v0 : Value)  (v1 : Value)  (z2 : List (Value × List (Int × Int))) (r : Bool) (h : m_ref01_Connected fuel p0 = some r) :
    Meets Try.prog 36 #[Value.agg #[v0, v1]] [Sl RI64 v0 p0.1, S2 RI64I64p v1 z2 p0.2] (fun x : Unit => Value.bool (r)) (fun x l => l) (fun _ l => l) := by
  refine Meets.of (vs := [Value.agg #[v0, v1]]) Try.func36 rfl Try.ntmps36 rfl fun c => ?_
  unfold m_ref01_Connected at h
  refine J.seq ?_
  refine J.region ?_
  refine J.loud (Loud.box (cs := [v0, v1]) rfl rfl) rfl fun b1 => ?_
  refine J.quiet (Y.assign rfl) rfl ?_
  refine J.done ?_
  refine J.thenN ?_
  refine J.seq ?_
  refine J.region ?_
  refine J.quiet (Y.loadBAll 0 rfl rfl rfl rfl) rfl ?_
  replace h := bnd h; obtain ⟨r2, hr3, h⟩ := h
  refine J.loud (Loud.callL body40 (t_ref01_Distances fuel v0 v1 z2 r2 hr3) rfl (LentAll.cons (Lent.fact 0 rfl) (LentAll.cons (Lent.fact 1 rfl) (LentAll.nil))) (fun _ _ => rfl)) rfl fun x4 => ?_
  replace h := bnd h; obtain ⟨r5, hr6, h⟩ := h
  refine J.loud (Loud.callL body58 (t_ref01_greatest fuel x4 r5 hr6) rfl (LentAll.cons (Lent.ar (Lent.res 0 rfl) FI64) (LentAll.nil)) (fun _ _ => rfl)) rfl fun x7 => ?_
  refine J.quiet (Y.geq rfl rfl) rfl ?_
  refine J.quiet (Y.assign rfl) rfl ?_
  refine J.done ?_
  refine J.thenN ?_
  refine J.ret ?_
  obtain rfl := Option.some.inj h
  exact J.retG1 (()) rfl rfl (RV.tmp rfl) (SubM.nil) LentAll.nil

end Go.Proofs.Ytmajgimhmfeliaa
end
section
set_option linter.unusedVariables false
set_option linter.unusedSimpArgs false
namespace Go.Proofs.Ytmajgimhmfeliaa
open Go.Sx
set_option linter.unusedVariables false
set_option linter.unusedSimpArgs false
def ref39_only_k1  (a2 : Int) : Option (Int) :=
  some (a2)
def ref39_only_k2 (a7 : Int × Int) (ag6 : (Int × Int) → Option (Int)) (a12 : Int) : Option (Int) :=
  ag6 (a12, (wI .i64 (a7.2 + (1 : Int))))
def ref39_only_s1 (p0 : List (Int)) (p1 : Int) (a7 : Int × Int) (ag6 : (Int × Int) → Option (Int)) : Option (Int) :=
  if a7.2 < (List.length p0 : Int) then (ck (0 ≤ a7.2 ∧ a7.2 < (List.length p0 : Int)) (if (at' p0 a7.2) = p1 then (if (0 : Int) ≤ a7.1 then (some (-1 : Int)) else (ref39_only_k2 a7 ag6 (a7.2))) else (ref39_only_k2 a7 ag6 (a7.1)))) else (ref39_only_k1  (a7.1))
def m_ref39_only (fuel : Nat) (p0 : List (Int)) (p1 : Int) : Option (Int) :=
  iter (ref39_only_s1 p0 p1) fuel ((-1 : Int), (0 : Int))

theorem body38 : HasBody Try.prog 38 := Try.call38

set_option maxHeartbeats 4000000 in
set_option maxRecDepth 20000 in
theorem t_ref39_only (fuel : Nat) {p0 : List (Int)} {p1 : Int} (v0 : Value) (r : Int) (h : m_ref39_only fuel p0 p1 = some r) :
    Meets Try.prog 38 #[v0, Value.int .i64 (p1)] [Sl RI64 v0 p0] (fun x : Unit => Value.int .i64 (r)) (fun x l => l) (fun _ l => l) := by
  refine Meets.of (vs := [v0, Value.int .i64 (p1)]) Try.func38 rfl Try.ntmps38 rfl fun c => ?_
  unfold m_ref39_only at h
  refine J.seq ?_
  refine J.region ?_
  refine J.quiet (Y.assign rfl) rfl ?_
  refine J.done ?_
  refine J.thenN ?_
  refine J.seq ?_
  refine J.region ?_
  refine J.quiet (Y.assign rfl) rfl ?_
  refine J.done ?_
  refine J.thenN ?_
  refine J.seq ?_
  refine J.midI (A := Int) (B := Unit) (fun a2 => ref39_only_k1  a2 = some r) (fun a2 b3 => [(5, Value.int .i64 (a2))]) (fun a2 b3 => []) (fun a2 b3 => [Sl RI64 v0 p0]) ?_ ?_
  · refine J.seq ?_
    refine J.region ?_
    refine J.quiet (Y.assign rfl) rfl ?_
    refine J.done ?_
    refine J.thenN ?_
    refine J.block ?_
    refine J.loopI (A := Int × Int) (B := Unit) (ref39_only_s1 p0 p1) (fun a7 b8 => [(0, v0), (1, Value.int .i64 (p1)), (5, Value.int .i64 (a7.1)), (6, Value.int .i64 (a7.2))]) (fun a7 b8 => []) (fun a7 b8 => [Sl RI64 v0 p0]) ((-1 : Int), (0 : Int)) (()) h (by repeat (first | exact SubF.nil | refine SubF.cons rfl ?_)) (SubM.refl _) (LentAll.refl _ _) ?_
    clear h
    intro k9 a7 b8 h
    unfold ref39_only_s1 at h
    refine J.seq ?_
    refine J.seq ?_
    refine J.region ?_
    refine J.quiet (Y.move rfl) rfl ?_
    refine J.quiet (Y.move rfl) rfl ?_
    refine J.quiet (Y.lenS rfl (Lent.fact 0 rfl) rfl) rfl ?_
    refine J.quiet (Y.lss rfl rfl) rfl ?_
    refine J.done ?_
    refine J.thenN ?_
    refine J.condD (by exact rfl) (fun hp10 => ?_) (fun hp10 => ?_)
    · replace h := ifP hp10 h
      refine J.skip ?_
      refine J.thenN ?_
      refine J.seq ?_
      refine J.midI (A := Int) (B := Unit) (fun a12 => ref39_only_k2 a7 (iter (ref39_only_s1 p0 p1) k9) a12 = some r) (fun a12 b13 => [(0, v0), (1, Value.int .i64 (p1)), (5, Value.int .i64 (a12)), (6, Value.int .i64 (a7.2))]) (fun a12 b13 => []) (fun a12 b13 => [Sl RI64 v0 p0]) ?_ ?_
      · refine J.block ?_
        refine J.seq ?_
        refine J.region ?_
        refine J.quiet (Y.move rfl) rfl ?_
        refine J.quiet (Y.move rfl) rfl ?_
        replace h := ck_some h; obtain ⟨hc14, h⟩ := h
        refine J.quiet (Y.indexS rfl rfl (Lent.fact 0 rfl) rfl rfl hc14) rfl ?_
        refine J.quiet (Y.loadS0 rfl (Lent.fact 0 rfl) rfl rfl rfl RI64c0 hc14) rfl ?_
        refine J.quiet (Y.move rfl) rfl ?_
        refine J.quiet (Y.eql rfl rfl) rfl ?_
        refine J.done ?_
        refine J.thenN ?_
        refine J.condD (by exact rfl) (fun hp15 => ?_) (fun hp15 => ?_)
        · replace h := ifP hp15 h
          refine J.seq ?_
          refine J.seq ?_
          refine J.region ?_
          refine J.quiet (Y.move rfl) rfl ?_
          refine J.quiet (Y.geq rfl rfl) rfl ?_
          refine J.done ?_
          refine J.thenN ?_
          refine J.condD (by exact rfl) (fun hp16 => ?_) (fun hp16 => ?_)
          · replace h := ifP hp16 h
            refine J.seq ?_
            refine J.region ?_
            refine J.quiet (Y.assign rfl) rfl ?_
            refine J.done ?_
            refine J.thenN ?_
            refine J.ret ?_
            refine J.thenR ?_
            refine J.inR ?_
            refine J.thenR ?_
            refine J.thenR ?_
            refine J.inR ?_
            refine J.thenR ?_
            obtain rfl := Option.some.inj h
            exact J.retG1 (()) rfl rfl (RV.tmp rfl) (SubM.refl _) LentAll.nil
          · replace h := ifN hp16 h
            refine J.skip ?_
            refine J.thenN ?_
            refine J.region ?_
            refine J.quiet (Y.move rfl) rfl ?_
            refine J.quiet (Y.assign rfl) rfl ?_
            refine J.done ?_
            refine J.inN ?_
            refine J.thenN ?_
            exact J.meetI (a7.2) (()) h (by repeat (first | exact SubF.nil | refine SubF.cons rfl ?_)) (SubM.refl _) (LentAll.refl _ _)
        · replace h := ifN hp15 h
          refine J.skip ?_
          refine J.inN ?_
          refine J.thenN ?_
          exact J.meetI (a7.1) (()) h (by repeat (first | exact SubF.nil | refine SubF.cons rfl ?_)) (SubM.refl _) (LentAll.refl _ _)
      · clear h
        intro a12 b13 h
        unfold ref39_only_k2 at h
        refine J.region ?_
        refine J.quiet (Y.move rfl) rfl ?_
        refine J.quiet (Y.addW rfl rfl) rfl ?_
        refine J.quiet (Y.assign rfl) rfl ?_
        refine J.done ?_
        refine J.thenN ?_
        exact J.againI (a12, (wI .i64 (a7.2 + (1 : Int)))) (()) h (by repeat (first | exact SubF.nil | refine SubF.cons rfl ?_)) (SubM.refl _) (LentAll.refl _ _)
    · replace h := ifN hp10 h
      refine J.exit ?_
      refine J.thenX ?_
      refine J.thenX ?_
      refine J.inX ?_
      refine J.thenN ?_
      exact J.meetI (a7.1) (()) h (by repeat (first | exact SubF.nil | refine SubF.cons rfl ?_)) (SubM.refl _) (LentAll.refl _ _)
  · clear h
    intro a2 b3 h
    unfold ref39_only_k1 at h
    refine J.seq ?_
    refine J.region ?_
    refine J.quiet (Y.move rfl) rfl ?_
    refine J.quiet (Y.assign rfl) rfl ?_
    refine J.done ?_
    refine J.thenN ?_
    refine J.ret ?_
    obtain rfl := Option.some.inj h
    exact J.retG1 (()) rfl rfl (RV.tmp rfl) (SubM.refl _) LentAll.nil

end Go.Proofs.Ytmajgimhmfeliaa
end
