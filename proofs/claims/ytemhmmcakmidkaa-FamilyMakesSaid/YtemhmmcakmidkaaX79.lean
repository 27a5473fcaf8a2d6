/- The model of family.related and the proof that the function meets it, by program (gen/xt.py). Conditions: none. -/
import Derived.Test.YtemhmmcakmidkaaX71
namespace Go.Proofs.Ytemhmmcakmidkaa
open Go.Sx

def family_related_k1 (r2 : (List (Int) × (List (List (Int × Int))))) (a10 : (List (List (Int × Int)))) : Option ((List (Int) × (List (List (Int × Int))))) :=
  some ((r2.1, a10))
def family_related_k2 (a18 : Int × (List (List (Int × Int)))) (ag17 : (Int × (List (List (Int × Int)))) → Option ((List (Int) × (List (List (Int × Int)))))) (a24 : (List (List (Int × Int)))) : Option ((List (Int) × (List (List (Int × Int))))) :=
  ag17 ((wI .i64 (a18.1 + (1 : Int))), a24)
def family_related_k3 (a30 : Int × (List (List (Int × Int)))) (ag29 : (Int × (List (List (Int × Int)))) → Option ((List (Int) × (List (List (Int × Int)))))) (a36 : (List (List (Int × Int)))) : Option ((List (Int) × (List (List (Int × Int))))) :=
  ag29 ((wI .i64 (a30.1 + (1 : Int))), a36)
def family_related_k4 (a18 : Int × (List (List (Int × Int)))) (a30 : Int × (List (List (Int × Int)))) (ag29 : (Int × (List (List (Int × Int)))) → Option ((List (Int) × (List (List (Int × Int)))))) (a39 : Bool) : Option ((List (Int) × (List (List (Int × Int))))) :=
  if a39 = true then (ck (0 ≤ a18.1 ∧ a18.1 < (List.length a30.2 : Int)) (ck ((List.length (at' a30.2 a18.1) : Int) + (List.length ([ (a30.1, (1 : Int))]) : Int) ≤ 1099511627) (ck (0 ≤ a18.1 ∧ a18.1 < (List.length (List.set a30.2 (Int.toNat a18.1) ((at' a30.2 a18.1) ++ ([ (a30.1, (1 : Int))]))) : Int)) (family_related_k3 a30 ag29 (List.set a30.2 (Int.toNat a18.1) ((at' a30.2 a18.1) ++ ([ (a30.1, (1 : Int))]))))))) else (family_related_k3 a30 ag29 (a30.2))
def family_related_s2 (p0 : Int) (g1 : Int → Int → Option Bool) (a18 : Int × (List (List (Int × Int)))) (ag17 : (Int × (List (List (Int × Int)))) → Option ((List (Int) × (List (List (Int × Int)))))) (a30 : Int × (List (List (Int × Int)))) (ag29 : (Int × (List (List (Int × Int)))) → Option ((List (Int) × (List (List (Int × Int)))))) : Option ((List (Int) × (List (List (Int × Int))))) :=
  if a30.1 < p0 then (if a18.1 ≠ a30.1 then (Option.bind (g1 (min a18.1 a30.1) (max a18.1 a30.1)) fun r51 => (family_related_k4 a18 a30 ag29 (r51))) else (family_related_k4 a18 a30 ag29 (false))) else (family_related_k2 a18 ag17 (a30.2))
def family_related_s1 (fuel : Nat) (p0 : Int) (g1 : Int → Int → Option Bool) (r2 : (List (Int) × (List (List (Int × Int))))) (a18 : Int × (List (List (Int × Int)))) (ag17 : (Int × (List (List (Int × Int)))) → Option ((List (Int) × (List (List (Int × Int)))))) : Option ((List (Int) × (List (List (Int × Int))))) :=
  if a18.1 < p0 then (iter (family_related_s2 p0 g1 a18 ag17) fuel ((0 : Int), a18.2)) else (family_related_k1 r2 (a18.2))
def m_family_related (fuel : Nat) (p0 : Int) (g1 : Int → Int → Option Bool) : Option ((List (Int) × (List (List (Int × Int))))) :=
  Option.bind (m_family_empty fuel p0) fun r2 => (iter (family_related_s1 fuel p0 g1 r2) fuel ((0 : Int), r2.2))

theorem body79 : HasBody Try.prog 79 := Try.call79

set_option maxHeartbeats 4000000 in
set_option maxRecDepth 20000 in
theorem t_family_related (fuel : Nat) {p0 : Int} {g1 : Int → Int → Option Bool} (f1 : FuncId) (cs1 : List Value) (Lf : List Fact) (hb_g1 : HasBody Try.prog f1) (hm_g1 : ∀ (y0 : Int) (y1 : Int) (r : Bool), g1 y0 y1 = some r → Meets Try.prog f1 ([Value.int .i64 (y0), Value.int .i64 (y1)] ++ cs1).toArray Lf (fun _ : Unit => Value.bool (r)) (fun _ l => l) (fun _ l => l)) (r : (List (Int) × (List (List (Int × Int))))) (h : m_family_related fuel p0 g1 = some r) :
    Meets Try.prog 79 #[Value.int .i64 (p0), Value.func (.func f1) #[] (cs1).toArray] ([] ++ Lf) (fun x : Value × Value × List Value => Value.agg #[x.1, x.2.1]) (fun x l => Ar EI64 x.1 r.1 :: Ar Enc.raw x.2.1 x.2.2 :: Rws EI64I64p x.2.2 r.2 :: l) (fun _ l => l) := by
  refine Meets.of (vs := [Value.int .i64 (p0), Value.func (.func f1) #[] (cs1).toArray]) Try.func79 rfl Try.ntmps79 rfl fun c => ?_
  unfold m_family_related at h
  refine J.seq ?_
  refine J.region ?_
  refine J.loud (Loud.alloc (cs := [Value.slice none 0 0, Value.slice none 0 0]) rfl rfl) rfl fun b1 => ?_
  refine J.done ?_
  refine J.thenN ?_
  refine J.seq ?_
  refine J.region ?_
  refine J.quiet (Y.move rfl) rfl ?_
  replace h := bnd h; obtain ⟨r2, hr3, h⟩ := h
  refine J.loud (Loud.callL body71 (t_family_empty fuel  r2 hr3) rfl (LentAll.nil) (fun _ _ => rfl)) rfl fun x4 => ?_
  refine J.loud (Loud.alloc (cs := [Value.slice none 0 0, Value.slice none 0 0]) rfl rfl) rfl fun b5 => ?_
  refine J.know (Know.one ((Lent.ar (Lent.res 1 rfl) FI64))) fun ho6 => ?_
  refine J.know (Know.one (Lent.sl (Lent.rows (i := 2) (j := 3) rfl rfl FI64I64p))) fun ho7 => ?_
  refine J.storeAll 0 (vs := [x4.1, x4.2.1]) rfl rfl (all1 ho6 (all1 ho7 rfl)) rfl rfl rfl ?_
  refine J.done ?_
  refine J.thenN ?_
  refine J.seq ?_
  refine J.midI (A := (List (List (Int × Int)))) (B := List Value) (fun a10 => family_related_k1 r2 a10 = some r) (fun a10 b11 => [(4, Value.pointer (some ⟨b1, 0, none⟩)), (5, Value.pointer (some ⟨b5, 0, none⟩))]) (fun a10 b11 => [Blk b5 [x4.1, x4.2.1] 26, Ar EI64 x4.1 r2.1, Ar Enc.raw x4.2.1 b11, Rws EI64I64p b11 a10, Blk b1 [Value.slice none 0 0, Value.slice none 0 0] 26]) (fun a10 b11 => ([] ++ Lf)) ?_ ?_
  · refine J.seq ?_
    refine J.region ?_
    refine J.quiet (Y.move rfl) rfl ?_
    refine J.quiet (Y.move rfl) rfl ?_
    refine J.done ?_
    refine J.thenN ?_
    refine J.block ?_
    refine J.loopI (A := Int × (List (List (Int × Int)))) (B := List Value) (family_related_s1 fuel p0 g1 r2) (fun a18 b19 => [(0, Value.int .i64 (p0)), (1, Value.func (.func f1) #[] (cs1).toArray), (4, Value.pointer (some ⟨b1, 0, none⟩)), (5, Value.pointer (some ⟨b5, 0, none⟩)), (10, Value.int .i64 (p0)), (11, Value.int .i64 (a18.1))]) (fun a18 b19 => [Blk b5 [x4.1, x4.2.1] 26, Ar EI64 x4.1 r2.1, Ar Enc.raw x4.2.1 b19, Rws EI64I64p b19 a18.2, Blk b1 [Value.slice none 0 0, Value.slice none 0 0] 26]) (fun a18 b19 => ([] ++ Lf)) ((0 : Int), r2.2) (x4.2.2) h (by repeat (first | exact SubF.nil | refine SubF.cons rfl ?_)) (SubM.refl _) (LentAll.refl _ _) ?_
    clear h
    intro k20 a18 b19 h
    unfold family_related_s1 at h
    refine J.seq ?_
    refine J.region ?_
    refine J.quiet (Y.lss rfl rfl) rfl ?_
    refine J.done ?_
    refine J.thenN ?_
    refine J.seq ?_
    refine J.condD (by exact rfl) (fun hp21 => ?_) (fun hp21 => ?_)
    · replace h := ifP hp21 h
      refine J.skip ?_
      refine J.thenN ?_
      refine J.seq ?_
      refine J.midI (A := (List (List (Int × Int)))) (B := List Value) (fun a24 => family_related_k2 a18 (iter (family_related_s1 fuel p0 g1 r2) k20) a24 = some r) (fun a24 b25 => [(0, Value.int .i64 (p0)), (1, Value.func (.func f1) #[] (cs1).toArray), (4, Value.pointer (some ⟨b1, 0, none⟩)), (5, Value.pointer (some ⟨b5, 0, none⟩)), (10, Value.int .i64 (p0)), (11, Value.int .i64 (a18.1))]) (fun a24 b25 => [Blk b5 [x4.1, x4.2.1] 26, Ar EI64 x4.1 r2.1, Ar Enc.raw x4.2.1 b25, Rws EI64I64p b25 a24, Blk b1 [Value.slice none 0 0, Value.slice none 0 0] 26]) (fun a24 b25 => ([] ++ Lf)) ?_ ?_
      · refine J.block ?_
        refine J.seq ?_
        refine J.region ?_
        refine J.quiet (Y.move rfl) rfl ?_
        refine J.quiet (Y.assign rfl) rfl ?_
        refine J.done ?_
        refine J.thenN ?_
        refine J.seq ?_
        refine J.region ?_
        refine J.quiet (Y.move rfl) rfl ?_
        refine J.quiet (Y.move rfl) rfl ?_
        refine J.done ?_
        refine J.thenN ?_
        refine J.block ?_
        refine J.loopI (A := Int × (List (List (Int × Int)))) (B := List Value) (family_related_s2 p0 g1 a18 (iter (family_related_s1 fuel p0 g1 r2) k20)) (fun a30 b31 => [(0, Value.int .i64 (p0)), (1, Value.func (.func f1) #[] (cs1).toArray), (4, Value.pointer (some ⟨b1, 0, none⟩)), (5, Value.pointer (some ⟨b5, 0, none⟩)), (6, Value.int .i64 (a18.1)), (10, Value.int .i64 (p0)), (11, Value.int .i64 (a18.1)), (14, Value.int .i64 (p0)), (15, Value.int .i64 (a30.1))]) (fun a30 b31 => [Blk b5 [x4.1, x4.2.1] 26, Ar EI64 x4.1 r2.1, Ar Enc.raw x4.2.1 b31, Rws EI64I64p b31 a30.2, Blk b1 [Value.slice none 0 0, Value.slice none 0 0] 26]) (fun a30 b31 => ([] ++ Lf)) ((0 : Int), a18.2) (b19) h (by repeat (first | exact SubF.nil | refine SubF.cons rfl ?_)) (SubM.refl _) (LentAll.refl _ _) ?_
        clear h
        intro k32 a30 b31 h
        unfold family_related_s2 at h
        refine J.seq ?_
        refine J.region ?_
        refine J.quiet (Y.lss rfl rfl) rfl ?_
        refine J.done ?_
        refine J.thenN ?_
        refine J.seq ?_
        refine J.condD (by exact rfl) (fun hp33 => ?_) (fun hp33 => ?_)
        · replace h := ifP hp33 h
          refine J.skip ?_
          refine J.thenN ?_
          refine J.seq ?_
          refine J.midI (A := (List (List (Int × Int)))) (B := List Value) (fun a36 => family_related_k3 a30 (iter (family_related_s2 p0 g1 a18 (iter (family_related_s1 fuel p0 g1 r2) k20)) k32) a36 = some r) (fun a36 b37 => [(0, Value.int .i64 (p0)), (1, Value.func (.func f1) #[] (cs1).toArray), (4, Value.pointer (some ⟨b1, 0, none⟩)), (5, Value.pointer (some ⟨b5, 0, none⟩)), (6, Value.int .i64 (a18.1)), (10, Value.int .i64 (p0)), (11, Value.int .i64 (a18.1)), (14, Value.int .i64 (p0)), (15, Value.int .i64 (a30.1))]) (fun a36 b37 => [Blk b5 [x4.1, x4.2.1] 26, Ar EI64 x4.1 r2.1, Ar Enc.raw x4.2.1 b37, Rws EI64I64p b37 a36, Blk b1 [Value.slice none 0 0, Value.slice none 0 0] 26]) (fun a36 b37 => ([] ++ Lf)) ?_ ?_
          · refine J.block ?_
            refine J.seq ?_
            refine J.region ?_
            refine J.quiet (Y.move rfl) rfl ?_
            refine J.quiet (Y.assign rfl) rfl ?_
            refine J.done ?_
            refine J.thenN ?_
            refine J.seq ?_
            refine J.midI (A := Bool) (B := Unit) (fun a39 => family_related_k4 a18 a30 (iter (family_related_s2 p0 g1 a18 (iter (family_related_s1 fuel p0 g1 r2) k20)) k32) a39 = some r) (fun a39 b40 => [(0, Value.int .i64 (p0)), (1, Value.func (.func f1) #[] (cs1).toArray), (4, Value.pointer (some ⟨b1, 0, none⟩)), (5, Value.pointer (some ⟨b5, 0, none⟩)), (6, Value.int .i64 (a18.1)), (7, Value.int .i64 (a30.1)), (10, Value.int .i64 (p0)), (11, Value.int .i64 (a18.1)), (14, Value.int .i64 (p0)), (15, Value.int .i64 (a30.1)), (30, Value.bool (a39))]) (fun a39 b40 => [Blk b5 [x4.1, x4.2.1] 26, Ar EI64 x4.1 r2.1, Ar Enc.raw x4.2.1 b31, Rws EI64I64p b31 a30.2, Blk b1 [Value.slice none 0 0, Value.slice none 0 0] 26]) (fun a39 b40 => ([] ++ Lf)) ?_ ?_
            · refine J.region ?_
              refine J.quiet (Y.move rfl) rfl ?_
              refine J.quiet (Y.move rfl) rfl ?_
              refine J.quiet (Y.neq rfl rfl) rfl ?_
              refine J.quiet (Y.move rfl) rfl ?_
              refine J.guardD (by exact rfl) (by exact rfl) (fun hp50 => ?_) (fun hp50 => ?_)
              · replace h := ifP hp50 h
                refine J.guardY rfl (Y.move rfl) rfl ?_
                refine J.guardY rfl (Y.move rfl) rfl ?_
                refine J.guardY rfl (Y.move rfl) rfl ?_
                refine J.guardY rfl (Y.min rfl rfl) rfl ?_
                refine J.guardY rfl (Y.move rfl) rfl ?_
                refine J.guardY rfl (Y.move rfl) rfl ?_
                refine J.guardY rfl (Y.max rfl rfl) rfl ?_
                replace h := bnd h; obtain ⟨r51, hr52, h⟩ := h
                refine J.loudG rfl (Loud.callVL (vs := [Value.int .i64 (min a18.1 a30.1), Value.int .i64 (max a18.1 a30.1)]) (cs := cs1) hb_g1 rfl (hm_g1 (min a18.1 a30.1) (max a18.1 a30.1) r51 hr52) rfl (LentAll.tail _) (fun _ _ => rfl)) rfl fun x53 => ?_
                refine J.quiet (Y.pickT rfl rfl) rfl ?_
                refine J.done ?_
                refine J.thenN ?_
                exact J.meetI (r51) (()) h (by repeat (first | exact SubF.nil | refine SubF.cons rfl ?_)) (SubM.refl _) (LentAll.refl _ _)
              · replace h := ifN hp50 h
                refine J.guardN rfl rfl rfl ?_
                refine J.guardN rfl rfl rfl ?_
                refine J.guardN rfl rfl rfl ?_
                refine J.guardN rfl rfl rfl ?_
                refine J.guardN rfl rfl rfl ?_
                refine J.guardN rfl rfl rfl ?_
                refine J.guardN rfl rfl rfl ?_
                refine J.guardN rfl rfl rfl ?_
                refine J.quiet (Y.pickF rfl rfl) rfl ?_
                refine J.done ?_
                refine J.thenN ?_
                exact J.meetI (false) (()) h (by repeat (first | exact SubF.nil | refine SubF.cons rfl ?_)) (SubM.refl _) (LentAll.refl _ _)
            · clear h
              intro a39 b40 h
              unfold family_related_k4 at h
              refine J.cond (by exact rfl) (fun hp41 => ?_) (fun hp41 => ?_)
              · replace h := ifP hp41 h
                refine JR.start [0, 1, 0, 0, 8, 0, 56, 120, 0, 256, 768, 2040, 4095, 8191] 12 mixedOrders (by decide +kernel) ?_
                refine JR.open (by exact rfl) ?_
                refine JR.qt rfl (SubM.nil) (SubL.nil) (Y.fieldB rfl rfl rfl rfl rfl) HistOk.z ?_
                refine JR.qt rfl (SubM.cons 0 rfl (SubM.nil)) (SubL.nil) (Y.loadB 0 rfl rfl rfl rfl rfl) HistOk.z ?_
                refine JR.qt rfl (SubM.nil) (SubL.nil) (Y.move rfl) HistOk.z ?_
                refine JR.qt rfl (SubM.nil) (SubL.nil) (Y.fieldB rfl rfl rfl rfl rfl) HistOk.z ?_
                refine JR.qt rfl (SubM.cons 0 rfl (SubM.nil)) (SubL.nil) (Y.loadB 0 rfl rfl rfl rfl rfl) HistOk.z ?_
                refine JR.qt rfl (SubM.nil) (SubL.nil) (Y.move rfl) HistOk.z ?_
                replace h := ck_some h; obtain ⟨hc42, h⟩ := h
                refine JR.qt rfl (SubM.cons 2 rfl (SubM.cons 2 rfl (SubM.nil))) (SubL.nil) (Y.indexN rfl rfl (Lent.rows (i := 0) (j := 1) rfl rfl FI64I64p) rfl rfl hc42) HistOk.z ?_
                refine JR.know (Know.rws 3 rfl) fun hl43 => ?_
                refine JR.qt rfl (SubM.cons 2 rfl (SubM.nil)) (SubL.nil) (Y.loadRaw 0 rfl rfl hl43 rfl rfl hc42) HistOk.z ?_
                refine JR.qt rfl (SubM.nil) (SubL.nil) (Y.move rfl) HistOk.z ?_
                refine JR.qt rfl (SubM.nil) (SubL.nil) (Y.bld2 (r := Value.agg #[Value.int .i64 (a30.1), Value.int .i64 (1 : Int)]) rfl rfl (by intro w; simp [Instr.build, Instr.fill, cells_intV, cells_boolV, cells_sliceV, cells_ptrV, cells_strV, cells_funcV, cells_agg])) HistOk.z ?_
                refine JR.loud rfl rfl rfl (Loud.buildS (e := EI64I64p) [((a30.1, (1 : Int)))] [(0, Value.agg #[Value.int .i64 (a30.1), Value.int .i64 (1 : Int)])] rfl rfl rfl rfl (fill_1_2 (Value.int .i64 (a30.1)) (Value.int .i64 (1 : Int))) rfl rfl rfl) rfl (fun u44 => (BsOk.b rfl (BsOk.b rfl (BsOk.h (SubM.cons 3 rfl (SubM.nil)) (SubL.nil) (BsOk.h (SubM.cons 3 rfl (SubM.cons 3 rfl (SubM.nil))) (SubL.nil) (BsOk.h (SubM.nil) (SubL.nil) (BsOk.h (SubM.cons 1 rfl (SubM.nil)) (SubL.nil) (BsOk.h (SubM.nil) (SubL.nil) (BsOk.h (SubM.nil) (SubL.nil) (BsOk.h (SubM.cons 1 rfl (SubM.nil)) (SubL.nil) (BsOk.h (SubM.nil) (SubL.nil) BsOk.z))))))))))) fun u44 => ?_
                replace h := ck_some h; obtain ⟨hc46, h⟩ := h
                refine JR.loud rfl rfl rfl (Loud.appendRowL 4 FI64I64p rfl rfl rfl (Lent.ar (Lent.res 0 rfl) FI64I64p) rfl rfl rfl rfl hc42 hc46 rfl) rfl (fun u45 => (BsOk.b rfl (BsOk.b rfl (BsOk.b rfl (BsOk.b rfl (BsOk.b rfl (BsOk.b rfl (BsOk.b rfl (BsOk.h (SubM.nil) (SubL.nil) (BsOk.h (SubM.cons 1 rfl (SubM.nil)) (SubL.nil) (BsOk.h (SubM.nil) (SubL.nil) BsOk.z))))))))))) fun u45 => ?_
                refine JR.tailD 12 rfl rfl ?_
                replace h := ck_some h; obtain ⟨hc47, h⟩ := h
                refine J.know (Know.rws 4 rfl) fun hl48 => ?_
                refine J.quiet (Y.indexA 3 rfl rfl rfl rfl rfl hc47.1 (by have q1 := hc47.2; have q2 := hl48; simp only [List.length_set] at q1 q2; omega)) rfl ?_
                refine J.know (Know.oneRow 4 (k := a18.1) rfl hc47) fun ho49 => ?_
                refine J.storeRow 3 4 ⟨hc47.1, by simpa using hc47.2⟩ rfl rfl rfl rfl rfl (by simp) ho49 rfl ?_
                refine J.done ?_
                refine J.inN ?_
                refine J.thenN ?_
                exact J.meetI (List.set a30.2 (Int.toNat a18.1) ((at' a30.2 a18.1) ++ ([ (a30.1, (1 : Int))]))) (List.set b31 (Int.toNat a18.1) u45) h (by repeat (first | exact SubF.nil | refine SubF.cons rfl ?_)) (SubM.cons 1 rfl (SubM.cons 1 rfl (SubM.cons 1 rfl (SubM.cons 1 rfl (SubM.cons 1 rfl (SubM.nil)))))) (LentAll.refl _ _)
              · replace h := ifBN hp41 h
                refine J.skip ?_
                refine J.inN ?_
                refine J.thenN ?_
                exact J.meetI (a30.2) (b31) h (by repeat (first | exact SubF.nil | refine SubF.cons rfl ?_)) (SubM.refl _) (LentAll.refl _ _)
          · clear h
            intro a36 b37 h
            unfold family_related_k3 at h
            refine J.region ?_
            refine J.quiet (Y.addW rfl rfl) rfl ?_
            refine J.quiet (Y.move rfl) rfl ?_
            refine J.done ?_
            refine J.thenN ?_
            exact J.againI ((wI .i64 (a30.1 + (1 : Int))), a36) (b37) h (by repeat (first | exact SubF.nil | refine SubF.cons rfl ?_)) (SubM.refl _) (LentAll.refl _ _)
        · replace h := ifN hp33 h
          refine J.exit ?_
          refine J.thenX ?_
          refine J.thenX ?_
          refine J.inX ?_
          refine J.inN ?_
          refine J.thenN ?_
          exact J.meetI (a30.2) (b31) h (by repeat (first | exact SubF.nil | refine SubF.cons rfl ?_)) (SubM.refl _) (LentAll.refl _ _)
      · clear h
        intro a24 b25 h
        unfold family_related_k2 at h
        refine J.region ?_
        refine J.quiet (Y.addW rfl rfl) rfl ?_
        refine J.quiet (Y.move rfl) rfl ?_
        refine J.done ?_
        refine J.thenN ?_
        exact J.againI ((wI .i64 (a18.1 + (1 : Int))), a24) (b25) h (by repeat (first | exact SubF.nil | refine SubF.cons rfl ?_)) (SubM.refl _) (LentAll.refl _ _)
    · replace h := ifN hp21 h
      refine J.exit ?_
      refine J.thenX ?_
      refine J.thenX ?_
      refine J.inX ?_
      refine J.thenN ?_
      exact J.meetI (a18.2) (b19) h (by repeat (first | exact SubF.nil | refine SubF.cons rfl ?_)) (SubM.refl _) (LentAll.refl _ _)
  · clear h
    intro a10 b11 h
    unfold family_related_k1 at h
    refine J.seq ?_
    refine J.region ?_
    refine J.quiet (Y.loadBAll 0 rfl rfl rfl rfl) rfl ?_
    refine J.know (Know.one ((Lent.ar (Lent.res 1 rfl) FI64))) fun ho12 => ?_
    refine J.know (Know.one (Lent.sl (Lent.rows (i := 2) (j := 3) rfl rfl FI64I64p))) fun ho13 => ?_
    refine J.storeAll 4 (vs := [x4.1, x4.2.1]) rfl rfl (all1 ho12 (all1 ho13 rfl)) rfl rfl rfl ?_
    refine J.done ?_
    refine J.thenN ?_
    refine J.ret ?_
    obtain rfl := Option.some.inj h
    exact J.retG1 (x4.1, x4.2.1, b11) rfl rfl (RV.cell 4 rfl rfl rfl rfl) (SubM.cons 1 rfl (SubM.cons 1 rfl (SubM.cons 1 rfl (SubM.nil)))) LentAll.nil

end Go.Proofs.Ytemhmmcakmidkaa
