/- The model of selfstabref03.FromParents and the proof that the function meets it, by program (gen/xt.py). Conditions: none. -/
import Derived.Test.YtemhmmcakmidkaaX72
import Derived.Test.YtemhmmcakmidkaaX73
namespace Go.Proofs.Ytemhmmcakmidkaa
open Go.Sx

def ref03_FromParents_k3 (r8 : (List (Int) × (List (List (Int × Int))))) (a16 : (List (List (Int × Int)))) : Option ((List (Int) × (List (List (Int × Int)))) × Int) :=
  some (((r8.1, a16)), (0 : Int))
def ref03_FromParents_k4 (a24 : Int × (List (List (Int × Int)))) (ag23 : (Int × (List (List (Int × Int)))) → Option ((List (Int) × (List (List (Int × Int)))) × Int)) (a30 : (List (List (Int × Int)))) : Option ((List (Int) × (List (List (Int × Int)))) × Int) :=
  ag23 ((wI .i64 (a24.1 + (1 : Int))), a30)
def ref03_FromParents_k5 (a36 : Int × (List (List (Int × Int)))) (ag35 : (Int × (List (List (Int × Int)))) → Option ((List (Int) × (List (List (Int × Int)))) × Int)) (a42 : (List (List (Int × Int)))) : Option ((List (Int) × (List (List (Int × Int)))) × Int) :=
  ag35 ((wI .i64 (a36.1 + (1 : Int))), a42)
def ref03_FromParents_k6 (a24 : Int × (List (List (Int × Int)))) (a36 : Int × (List (List (Int × Int)))) (ag35 : (Int × (List (List (Int × Int)))) → Option ((List (Int) × (List (List (Int × Int)))) × Int)) (a45 : Bool) : Option ((List (Int) × (List (List (Int × Int)))) × Int) :=
  if a45 = true then (ck (0 ≤ a24.1 ∧ a24.1 < (List.length a36.2 : Int)) (ck ((List.length (at' a36.2 a24.1) : Int) + (List.length ([ (a36.1, (1 : Int))]) : Int) ≤ 1099511627) (ck (0 ≤ a24.1 ∧ a24.1 < (List.length (List.set a36.2 (Int.toNat a24.1) ((at' a36.2 a24.1) ++ ([ (a36.1, (1 : Int))]))) : Int)) (ref03_FromParents_k5 a36 ag35 (List.set a36.2 (Int.toNat a24.1) ((at' a36.2 a24.1) ++ ([ (a36.1, (1 : Int))]))))))) else (ref03_FromParents_k5 a36 ag35 (a36.2))
def ref03_FromParents_s2 (p0 : List (Int)) (a24 : Int × (List (List (Int × Int)))) (ag23 : (Int × (List (List (Int × Int)))) → Option ((List (Int) × (List (List (Int × Int)))) × Int)) (a36 : Int × (List (List (Int × Int)))) (ag35 : (Int × (List (List (Int × Int)))) → Option ((List (Int) × (List (List (Int × Int)))) × Int)) : Option ((List (Int) × (List (List (Int × Int)))) × Int) :=
  if a36.1 < (List.length p0 : Int) then (if (0 : Int) < a24.1 then (ck (0 ≤ a24.1 ∧ a24.1 < (List.length p0 : Int)) (if a36.1 = (at' p0 a24.1) then (ref03_FromParents_k6 a24 a36 ag35 (true)) else (if (0 : Int) < a36.1 then (ck (0 ≤ a36.1 ∧ a36.1 < (List.length p0 : Int)) (ref03_FromParents_k6 a24 a36 ag35 (decide (a24.1 = (at' p0 a36.1))))) else (ref03_FromParents_k6 a24 a36 ag35 (false))))) else (if (0 : Int) < a36.1 then (ck (0 ≤ a36.1 ∧ a36.1 < (List.length p0 : Int)) (ref03_FromParents_k6 a24 a36 ag35 (decide (a24.1 = (at' p0 a36.1))))) else (ref03_FromParents_k6 a24 a36 ag35 (false)))) else (ref03_FromParents_k4 a24 ag23 (a36.2))
def ref03_FromParents_s1 (fuel : Nat) (p0 : List (Int)) (r8 : (List (Int) × (List (List (Int × Int))))) (a24 : Int × (List (List (Int × Int)))) (ag23 : (Int × (List (List (Int × Int)))) → Option ((List (Int) × (List (List (Int × Int)))) × Int)) : Option ((List (Int) × (List (List (Int × Int)))) × Int) :=
  if a24.1 < (List.length p0 : Int) then (iter (ref03_FromParents_s2 p0 a24 ag23) fuel ((0 : Int), a24.2)) else (ref03_FromParents_k3 r8 (a24.2))
def ref03_FromParents_k2 (fuel : Nat) (p0 : List (Int)) (a6 : Unit) : Option ((List (Int) × (List (List (Int × Int)))) × Int) :=
  Option.bind (m_ref03_plain fuel (List.length p0 : Int)) fun r8 => (iter (ref03_FromParents_s1 fuel p0 r8) fuel ((0 : Int), r8.2))
def ref03_FromParents_s3 (fuel : Nat) (p0 : List (Int)) (a65 : Int) (ag64 : (Int) → Option ((List (Int) × (List (List (Int × Int)))) × Int)) : Option ((List (Int) × (List (List (Int × Int)))) × Int) :=
  if a65 < (List.length p0 : Int) then (ck (0 ≤ a65 ∧ a65 < (List.length p0 : Int)) (Option.bind (m_ref01_In fuel (at' p0 a65) (0 : Int) (wI .i64 (a65 - (1 : Int)))) fun r70 => (if (!r70) = true then (some (((([] : List Int), ([] : List (List (Int × Int))))), (2 : Int))) else (ag64 (wI .i64 (a65 + (1 : Int))))))) else (ref03_FromParents_k2 fuel p0 (()))
def ref03_FromParents_k1 (fuel : Nat) (p0 : List (Int)) (a3 : Bool) : Option ((List (Int) × (List (List (Int × Int)))) × Int) :=
  if a3 = true then (some (((([] : List Int), ([] : List (List (Int × Int))))), (2 : Int))) else (iter (ref03_FromParents_s3 fuel p0) fuel (1 : Int))
def m_ref03_FromParents (fuel : Nat) (p0 : List (Int)) : Option ((List (Int) × (List (List (Int × Int)))) × Int) :=
  Option.bind (m_ref01_In fuel (List.length p0 : Int) (1 : Int) (24 : Int)) fun r74 => (if (!r74) = true then (ref03_FromParents_k1 fuel p0 (true)) else (ck (0 ≤ (0 : Int) ∧ (0 : Int) < (List.length p0 : Int)) (ref03_FromParents_k1 fuel p0 (decide ((at' p0 (0 : Int)) ≠ (-1 : Int))))))

theorem body31 : HasBody Try.prog 31 := Try.call31

set_option maxHeartbeats 4000000 in
set_option maxRecDepth 20000 in
theorem t_ref03_FromParents (fuel : Nat) {p0 : List (Int)} (v0 : Value) (r : (List (Int) × (List (List (Int × Int)))) × Int) (h : m_ref03_FromParents fuel p0 = some r) :
    Meets Try.prog 31 #[v0] [Sl RI64 v0 p0] (fun x : Value × Value × List Value => Value.tuple #[Value.agg #[x.1, x.2.1], Value.int .i64 (r.2)]) (fun x l => Ar EI64 x.1 r.1.1 :: Ar Enc.raw x.2.1 x.2.2 :: Rws EI64I64p x.2.2 r.1.2 :: l) (fun _ l => l) := by
  refine Meets.of (vs := [v0]) Try.func31 rfl Try.ntmps31 rfl fun c => ?_
  unfold m_ref03_FromParents at h
  refine J.seq ?_
  refine J.region ?_
  refine J.loud (Loud.alloc (cs := [Value.slice none 0 0, Value.slice none 0 0]) rfl rfl) rfl fun b1 => ?_
  refine J.quiet (Y.assign rfl) rfl ?_
  refine J.done ?_
  refine J.thenN ?_
  refine J.seq ?_
  refine J.region ?_
  refine J.quiet (Y.move rfl) rfl ?_
  refine J.quiet (Y.lenS rfl (Lent.fact 0 rfl) rfl) rfl ?_
  refine J.quiet (Y.assign rfl) rfl ?_
  refine J.done ?_
  refine J.thenN ?_
  refine J.seq ?_
  refine J.seq ?_
  refine J.midI (A := Bool) (B := Unit) (fun a3 => ref03_FromParents_k1 fuel p0 a3 = some r) (fun a3 b4 => [(0, v0), (2, Value.pointer (some ⟨b1, 0, none⟩)), (4, Value.int .i64 (List.length p0 : Int)), (19, Value.bool (a3))]) (fun a3 b4 => [Blk b1 [Value.slice none 0 0, Value.slice none 0 0] 26]) (fun a3 b4 => [Sl RI64 v0 p0]) ?_ ?_
  · refine J.region ?_
    refine J.quiet (Y.move rfl) rfl ?_
    replace h := bnd h; obtain ⟨r74, hr75, h⟩ := h
    refine J.loud (Loud.callL body72 (t_ref01_In fuel  r74 hr75) rfl (LentAll.nil) (fun _ _ => rfl)) rfl fun x76 => ?_
    refine J.quiet (Y.not rfl) rfl ?_
    refine J.quiet (Y.move rfl) rfl ?_
    refine J.guard (by exact rfl) (by exact rfl) (fun hp77 => ?_) (fun hp77 => ?_)
    · replace h := ifP hp77 h
      refine J.guardN rfl rfl rfl ?_
      refine J.guardN rfl rfl rfl ?_
      refine J.guardN rfl rfl rfl ?_
      refine J.guardN rfl rfl rfl ?_
      refine J.quiet (Y.pickT rfl rfl) rfl ?_
      refine J.done ?_
      refine J.thenN ?_
      exact J.meetI (true) (()) h (by repeat (first | exact SubF.nil | refine SubF.cons rfl ?_)) (SubM.refl _) (LentAll.refl _ _)
    · replace h := ifBN hp77 h
      refine J.guardY rfl (Y.move rfl) rfl ?_
      replace h := ck_some h; obtain ⟨hc78, h⟩ := h
      refine J.guardY rfl (Y.indexS rfl rfl (Lent.fact 0 rfl) rfl rfl hc78) rfl ?_
      refine J.guardY rfl (Y.loadS0 rfl (Lent.fact 0 rfl) rfl rfl rfl RI64c0 hc78) rfl ?_
      refine J.guardY rfl (Y.neq rfl rfl) rfl ?_
      refine J.quiet (Y.pickF rfl rfl) rfl ?_
      refine J.done ?_
      refine J.thenN ?_
      exact J.meetI (decide ((at' p0 (0 : Int)) ≠ (-1 : Int))) (()) h (by repeat (first | exact SubF.nil | refine SubF.cons rfl ?_)) (SubM.refl _) (LentAll.refl _ _)
  · clear h
    intro a3 b4 h
    unfold ref03_FromParents_k1 at h
    refine J.cond (by exact rfl) (fun hp5 => ?_) (fun hp5 => ?_)
    · replace h := ifP hp5 h
      refine J.seq ?_
      refine J.region ?_
      refine J.quiet (Y.bld0 (r := Value.agg #[Value.slice none 0 0, Value.slice none 0 0]) (by intro w; simp [Instr.build, Instr.fill, cells_intV, cells_boolV, cells_sliceV, cells_ptrV, cells_strV, cells_funcV, cells_agg])) rfl ?_
      refine J.storeAll 0 (vs := [Value.slice none 0 0, Value.slice none 0 0]) rfl rfl rfl rfl rfl rfl ?_
      refine J.quiet (Y.assign rfl) rfl ?_
      refine J.done ?_
      refine J.thenN ?_
      refine J.ret ?_
      refine J.thenR ?_
      refine J.stp (Stp.nilAr EI64) ?_
      refine J.stp (Stp.nilAr Enc.raw) (J.stp (Stp.rowsNil EI64I64p) ?_)
      obtain rfl := Option.some.inj h
      exact J.retG2 ((Value.slice none 0 0), (Value.slice none 0 0), ([] : List Value)) rfl rfl (RV.cell 3 rfl rfl rfl rfl) (RV.tmp rfl) (SubM.cons 2 rfl (SubM.cons 1 rfl (SubM.cons 0 rfl (SubM.nil)))) LentAll.nil
    · replace h := ifBN hp5 h
      refine J.skip ?_
      refine J.thenN ?_
      refine J.seq ?_
      refine J.midI (A := Unit) (B := Unit) (fun a6 => ref03_FromParents_k2 fuel p0 a6 = some r) (fun a6 b7 => [(0, v0), (2, Value.pointer (some ⟨b1, 0, none⟩)), (4, Value.int .i64 (List.length p0 : Int))]) (fun a6 b7 => [Blk b1 [Value.slice none 0 0, Value.slice none 0 0] 26]) (fun a6 b7 => [Sl RI64 v0 p0]) ?_ ?_
      · refine J.seq ?_
        refine J.region ?_
        refine J.quiet (Y.assign rfl) rfl ?_
        refine J.done ?_
        refine J.thenN ?_
        refine J.block ?_
        refine J.loopI (A := Int) (B := Unit) (ref03_FromParents_s3 fuel p0) (fun a65 b66 => [(0, v0), (2, Value.pointer (some ⟨b1, 0, none⟩)), (4, Value.int .i64 (List.length p0 : Int)), (5, Value.int .i64 (a65))]) (fun a65 b66 => [Blk b1 [Value.slice none 0 0, Value.slice none 0 0] 26]) (fun a65 b66 => [Sl RI64 v0 p0]) (1 : Int) (()) h (by repeat (first | exact SubF.nil | refine SubF.cons rfl ?_)) (SubM.refl _) (LentAll.refl _ _) ?_
        clear h
        intro k67 a65 b66 h
        unfold ref03_FromParents_s3 at h
        refine J.seq ?_
        refine J.seq ?_
        refine J.region ?_
        refine J.quiet (Y.move rfl) rfl ?_
        refine J.quiet (Y.move rfl) rfl ?_
        refine J.quiet (Y.lss rfl rfl) rfl ?_
        refine J.done ?_
        refine J.thenN ?_
        refine J.condD (by exact rfl) (fun hp68 => ?_) (fun hp68 => ?_)
        · replace h := ifP hp68 h
          refine J.skip ?_
          refine J.thenN ?_
          refine J.seq ?_
          refine J.block ?_
          refine J.seq ?_
          refine J.region ?_
          refine J.quiet (Y.move rfl) rfl ?_
          refine J.quiet (Y.move rfl) rfl ?_
          replace h := ck_some h; obtain ⟨hc69, h⟩ := h
          refine J.quiet (Y.indexS rfl rfl (Lent.fact 0 rfl) rfl rfl hc69) rfl ?_
          refine J.quiet (Y.loadS0 rfl (Lent.fact 0 rfl) rfl rfl rfl RI64c0 hc69) rfl ?_
          refine J.quiet (Y.move rfl) rfl ?_
          refine J.quiet (Y.subW rfl rfl) rfl ?_
          replace h := bnd h; obtain ⟨r70, hr71, h⟩ := h
          refine J.loud (Loud.callL body72 (t_ref01_In fuel  r70 hr71) rfl (LentAll.nil) (fun _ _ => rfl)) rfl fun x72 => ?_
          refine J.quiet (Y.not rfl) rfl ?_
          refine J.done ?_
          refine J.thenN ?_
          refine J.cond (by exact rfl) (fun hp73 => ?_) (fun hp73 => ?_)
          · replace h := ifP hp73 h
            refine J.seq ?_
            refine J.region ?_
            refine J.quiet (Y.bld0 (r := Value.agg #[Value.slice none 0 0, Value.slice none 0 0]) (by intro w; simp [Instr.build, Instr.fill, cells_intV, cells_boolV, cells_sliceV, cells_ptrV, cells_strV, cells_funcV, cells_agg])) rfl ?_
            refine J.storeAll 0 (vs := [Value.slice none 0 0, Value.slice none 0 0]) rfl rfl rfl rfl rfl rfl ?_
            refine J.quiet (Y.assign rfl) rfl ?_
            refine J.done ?_
            refine J.thenN ?_
            refine J.ret ?_
            refine J.inR ?_
            refine J.thenR ?_
            refine J.thenR ?_
            refine J.inR ?_
            refine J.thenR ?_
            refine J.stp (Stp.nilAr EI64) ?_
            refine J.stp (Stp.nilAr Enc.raw) (J.stp (Stp.rowsNil EI64I64p) ?_)
            obtain rfl := Option.some.inj h
            exact J.retG2 ((Value.slice none 0 0), (Value.slice none 0 0), ([] : List Value)) rfl rfl (RV.cell 3 rfl rfl rfl rfl) (RV.tmp rfl) (SubM.cons 2 rfl (SubM.cons 1 rfl (SubM.cons 0 rfl (SubM.nil)))) LentAll.nil
          · replace h := ifBN hp73 h
            refine J.skip ?_
            refine J.inN ?_
            refine J.thenN ?_
            refine J.region ?_
            refine J.quiet (Y.move rfl) rfl ?_
            refine J.quiet (Y.addW rfl rfl) rfl ?_
            refine J.quiet (Y.assign rfl) rfl ?_
            refine J.done ?_
            refine J.thenN ?_
            exact J.againI (wI .i64 (a65 + (1 : Int))) (()) h (by repeat (first | exact SubF.nil | refine SubF.cons rfl ?_)) (SubM.refl _) (LentAll.refl _ _)
        · replace h := ifN hp68 h
          refine J.exit ?_
          refine J.thenX ?_
          refine J.thenX ?_
          refine J.inX ?_
          refine J.thenN ?_
          exact J.meetI (()) (()) h (by repeat (first | exact SubF.nil | refine SubF.cons rfl ?_)) (SubM.refl _) (LentAll.refl _ _)
      · clear h
        intro a6 b7 h
        unfold ref03_FromParents_k2 at h
        refine J.seq ?_
        refine J.region ?_
        refine J.quiet (Y.move rfl) rfl ?_
        replace h := bnd h; obtain ⟨r8, hr9, h⟩ := h
        refine J.loud (Loud.callL body73 (t_ref03_plain fuel  r8 hr9) rfl (LentAll.nil) (fun _ _ => rfl)) rfl fun x10 => ?_
        refine J.loud (Loud.alloc (cs := [Value.slice none 0 0, Value.slice none 0 0]) rfl rfl) rfl fun b11 => ?_
        refine J.know (Know.one ((Lent.ar (Lent.res 1 rfl) FI64))) fun ho12 => ?_
        refine J.know (Know.one (Lent.sl (Lent.rows (i := 2) (j := 3) rfl rfl FI64I64p))) fun ho13 => ?_
        refine J.storeAll 0 (vs := [x10.1, x10.2.1]) rfl rfl (all1 ho12 (all1 ho13 rfl)) rfl rfl rfl ?_
        refine J.done ?_
        refine J.thenN ?_
        refine J.seq ?_
        refine J.midI (A := (List (List (Int × Int)))) (B := List Value) (fun a16 => ref03_FromParents_k3 r8 a16 = some r) (fun a16 b17 => [(2, Value.pointer (some ⟨b1, 0, none⟩)), (6, Value.pointer (some ⟨b11, 0, none⟩))]) (fun a16 b17 => [Blk b11 [x10.1, x10.2.1] 26, Ar EI64 x10.1 r8.1, Ar Enc.raw x10.2.1 b17, Rws EI64I64p b17 a16, Blk b1 [Value.slice none 0 0, Value.slice none 0 0] 26]) (fun a16 b17 => [Sl RI64 v0 p0]) ?_ ?_
        · refine J.seq ?_
          refine J.region ?_
          refine J.quiet (Y.assign rfl) rfl ?_
          refine J.done ?_
          refine J.thenN ?_
          refine J.block ?_
          refine J.loopI (A := Int × (List (List (Int × Int)))) (B := List Value) (ref03_FromParents_s1 fuel p0 r8) (fun a24 b25 => [(0, v0), (2, Value.pointer (some ⟨b1, 0, none⟩)), (4, Value.int .i64 (List.length p0 : Int)), (6, Value.pointer (some ⟨b11, 0, none⟩)), (7, Value.int .i64 (a24.1))]) (fun a24 b25 => [Blk b11 [x10.1, x10.2.1] 26, Ar EI64 x10.1 r8.1, Ar Enc.raw x10.2.1 b25, Rws EI64I64p b25 a24.2, Blk b1 [Value.slice none 0 0, Value.slice none 0 0] 26]) (fun a24 b25 => [Sl RI64 v0 p0]) ((0 : Int), r8.2) (x10.2.2) h (by repeat (first | exact SubF.nil | refine SubF.cons rfl ?_)) (SubM.refl _) (LentAll.refl _ _) ?_
          clear h
          intro k26 a24 b25 h
          unfold ref03_FromParents_s1 at h
          refine J.seq ?_
          refine J.seq ?_
          refine J.region ?_
          refine J.quiet (Y.move rfl) rfl ?_
          refine J.quiet (Y.move rfl) rfl ?_
          refine J.quiet (Y.lss rfl rfl) rfl ?_
          refine J.done ?_
          refine J.thenN ?_
          refine J.condD (by exact rfl) (fun hp27 => ?_) (fun hp27 => ?_)
          · replace h := ifP hp27 h
            refine J.skip ?_
            refine J.thenN ?_
            refine J.seq ?_
            refine J.midI (A := (List (List (Int × Int)))) (B := List Value) (fun a30 => ref03_FromParents_k4 a24 (iter (ref03_FromParents_s1 fuel p0 r8) k26) a30 = some r) (fun a30 b31 => [(0, v0), (2, Value.pointer (some ⟨b1, 0, none⟩)), (4, Value.int .i64 (List.length p0 : Int)), (6, Value.pointer (some ⟨b11, 0, none⟩)), (7, Value.int .i64 (a24.1))]) (fun a30 b31 => [Blk b11 [x10.1, x10.2.1] 26, Ar EI64 x10.1 r8.1, Ar Enc.raw x10.2.1 b31, Rws EI64I64p b31 a30, Blk b1 [Value.slice none 0 0, Value.slice none 0 0] 26]) (fun a30 b31 => [Sl RI64 v0 p0]) ?_ ?_
            · refine J.block ?_
              refine J.seq ?_
              refine J.region ?_
              refine J.quiet (Y.assign rfl) rfl ?_
              refine J.done ?_
              refine J.thenN ?_
              refine J.block ?_
              refine J.loopI (A := Int × (List (List (Int × Int)))) (B := List Value) (ref03_FromParents_s2 p0 a24 (iter (ref03_FromParents_s1 fuel p0 r8) k26)) (fun a36 b37 => [(0, v0), (2, Value.pointer (some ⟨b1, 0, none⟩)), (4, Value.int .i64 (List.length p0 : Int)), (6, Value.pointer (some ⟨b11, 0, none⟩)), (7, Value.int .i64 (a24.1)), (8, Value.int .i64 (a36.1))]) (fun a36 b37 => [Blk b11 [x10.1, x10.2.1] 26, Ar EI64 x10.1 r8.1, Ar Enc.raw x10.2.1 b37, Rws EI64I64p b37 a36.2, Blk b1 [Value.slice none 0 0, Value.slice none 0 0] 26]) (fun a36 b37 => [Sl RI64 v0 p0]) ((0 : Int), a24.2) (b25) h (by repeat (first | exact SubF.nil | refine SubF.cons rfl ?_)) (SubM.refl _) (LentAll.refl _ _) ?_
              clear h
              intro k38 a36 b37 h
              unfold ref03_FromParents_s2 at h
              refine J.seq ?_
              refine J.seq ?_
              refine J.region ?_
              refine J.quiet (Y.move rfl) rfl ?_
              refine J.quiet (Y.move rfl) rfl ?_
              refine J.quiet (Y.lss rfl rfl) rfl ?_
              refine J.done ?_
              refine J.thenN ?_
              refine J.condD (by exact rfl) (fun hp39 => ?_) (fun hp39 => ?_)
              · replace h := ifP hp39 h
                refine J.skip ?_
                refine J.thenN ?_
                refine J.seq ?_
                refine J.midI (A := (List (List (Int × Int)))) (B := List Value) (fun a42 => ref03_FromParents_k5 a36 (iter (ref03_FromParents_s2 p0 a24 (iter (ref03_FromParents_s1 fuel p0 r8) k26)) k38) a42 = some r) (fun a42 b43 => [(0, v0), (2, Value.pointer (some ⟨b1, 0, none⟩)), (4, Value.int .i64 (List.length p0 : Int)), (6, Value.pointer (some ⟨b11, 0, none⟩)), (7, Value.int .i64 (a24.1)), (8, Value.int .i64 (a36.1))]) (fun a42 b43 => [Blk b11 [x10.1, x10.2.1] 26, Ar EI64 x10.1 r8.1, Ar Enc.raw x10.2.1 b43, Rws EI64I64p b43 a42, Blk b1 [Value.slice none 0 0, Value.slice none 0 0] 26]) (fun a42 b43 => [Sl RI64 v0 p0]) ?_ ?_
                · refine J.block ?_
                  refine J.seq ?_
                  refine J.midI (A := Bool) (B := Unit) (fun a45 => ref03_FromParents_k6 a24 a36 (iter (ref03_FromParents_s2 p0 a24 (iter (ref03_FromParents_s1 fuel p0 r8) k26)) k38) a45 = some r) (fun a45 b46 => [(0, v0), (2, Value.pointer (some ⟨b1, 0, none⟩)), (4, Value.int .i64 (List.length p0 : Int)), (6, Value.pointer (some ⟨b11, 0, none⟩)), (7, Value.int .i64 (a24.1)), (8, Value.int .i64 (a36.1)), (68, Value.bool (a45))]) (fun a45 b46 => [Blk b11 [x10.1, x10.2.1] 26, Ar EI64 x10.1 r8.1, Ar Enc.raw x10.2.1 b37, Rws EI64I64p b37 a36.2, Blk b1 [Value.slice none 0 0, Value.slice none 0 0] 26]) (fun a45 b46 => [Sl RI64 v0 p0]) ?_ ?_
                  · refine J.region ?_
                    refine J.quiet (Y.move rfl) rfl ?_
                    refine J.quiet (Y.gtr rfl rfl) rfl ?_
                    refine J.quiet (Y.move rfl) rfl ?_
                    refine J.guardD (by exact rfl) (by exact rfl) (fun hp56 => ?_) (fun hp56 => ?_)
                    · replace h := ifP hp56 h
                      refine J.guardY rfl (Y.move rfl) rfl ?_
                      refine J.guardY rfl (Y.move rfl) rfl ?_
                      refine J.guardY rfl (Y.move rfl) rfl ?_
                      replace h := ck_some h; obtain ⟨hc57, h⟩ := h
                      refine J.guardY rfl (Y.indexS rfl rfl (Lent.fact 0 rfl) rfl rfl hc57) rfl ?_
                      refine J.guardY rfl (Y.loadS0 rfl (Lent.fact 0 rfl) rfl rfl rfl RI64c0 hc57) rfl ?_
                      refine J.guardY rfl (Y.eql rfl rfl) rfl ?_
                      refine J.quiet (Y.pickT rfl rfl) rfl ?_
                      refine J.quiet (Y.move rfl) rfl ?_
                      refine J.guardD (by exact rfl) (by exact rfl) (fun hp58 => ?_) (fun hp58 => ?_)
                      · replace h := ifP hp58 h
                        refine J.guardN rfl rfl rfl ?_
                        refine J.guardN rfl rfl rfl ?_
                        refine J.guardN rfl rfl rfl ?_
                        refine J.qu (h := ?_)
                        refine J.qu (h := ?_)
                        refine J.qu (h := ?_)
                        refine J.qu (h := ?_)
                        refine J.qu (h := ?_)
                        refine J.qu (h := ?_)
                        refine J.guardN rfl rfl rfl ?_
                        refine J.quiet (Y.pickT rfl rfl) rfl ?_
                        refine J.done ?_
                        refine J.thenN ?_
                        exact J.meetI (true) (()) h (by repeat (first | exact SubF.nil | refine SubF.cons rfl ?_)) (SubM.refl _) (LentAll.refl _ _)
                      · replace h := ifN hp58 h
                        refine J.guardY rfl (Y.move rfl) rfl ?_
                        refine J.guardY rfl (Y.gtr rfl rfl) rfl ?_
                        refine J.guardY rfl (Y.move rfl) rfl ?_
                        refine J.guardD (by exact rfl) (by exact rfl) (fun hp59 => ?_) (fun hp59 => ?_)
                        · replace h := ifP hp59 h
                          refine J.guardY rfl (Y.move rfl) rfl ?_
                          refine J.guardY rfl (Y.move rfl) rfl ?_
                          refine J.guardY rfl (Y.move rfl) rfl ?_
                          replace h := ck_some h; obtain ⟨hc60, h⟩ := h
                          refine J.guardY rfl (Y.indexS rfl rfl (Lent.fact 0 rfl) rfl rfl hc60) rfl ?_
                          refine J.guardY rfl (Y.loadS0 rfl (Lent.fact 0 rfl) rfl rfl rfl RI64c0 hc60) rfl ?_
                          refine J.guardY rfl (Y.eql rfl rfl) rfl ?_
                          refine J.guardY rfl (Y.pickT rfl rfl) rfl ?_
                          refine J.quiet (Y.pickF rfl rfl) rfl ?_
                          refine J.done ?_
                          refine J.thenN ?_
                          exact J.meetI (decide (a24.1 = (at' p0 a36.1))) (()) h (by repeat (first | exact SubF.nil | refine SubF.cons rfl ?_)) (SubM.refl _) (LentAll.refl _ _)
                        · replace h := ifN hp59 h
                          refine J.guardN rfl rfl rfl ?_
                          refine J.guardN rfl rfl rfl ?_
                          refine J.guardN rfl rfl rfl ?_
                          refine J.guardN rfl rfl rfl ?_
                          refine J.guardN rfl rfl rfl ?_
                          refine J.guardN rfl rfl rfl ?_
                          refine J.guardY rfl (Y.pickF rfl rfl) rfl ?_
                          refine J.quiet (Y.pickF rfl rfl) rfl ?_
                          refine J.done ?_
                          refine J.thenN ?_
                          exact J.meetI (false) (()) h (by repeat (first | exact SubF.nil | refine SubF.cons rfl ?_)) (SubM.refl _) (LentAll.refl _ _)
                    · replace h := ifN hp56 h
                      refine J.guardN rfl rfl rfl ?_
                      refine J.guardN rfl rfl rfl ?_
                      refine J.guardN rfl rfl rfl ?_
                      refine J.guardN rfl rfl rfl ?_
                      refine J.guardN rfl rfl rfl ?_
                      refine J.guardN rfl rfl rfl ?_
                      refine J.quiet (Y.pickF rfl rfl) rfl ?_
                      refine J.quiet (Y.move rfl) rfl ?_
                      refine J.guardY rfl (Y.move rfl) rfl ?_
                      refine J.guardY rfl (Y.gtr rfl rfl) rfl ?_
                      refine J.guardY rfl (Y.move rfl) rfl ?_
                      refine J.guardD (by exact rfl) (by exact rfl) (fun hp61 => ?_) (fun hp61 => ?_)
                      · replace h := ifP hp61 h
                        refine J.guardY rfl (Y.move rfl) rfl ?_
                        refine J.guardY rfl (Y.move rfl) rfl ?_
                        refine J.guardY rfl (Y.move rfl) rfl ?_
                        replace h := ck_some h; obtain ⟨hc62, h⟩ := h
                        refine J.guardY rfl (Y.indexS rfl rfl (Lent.fact 0 rfl) rfl rfl hc62) rfl ?_
                        refine J.guardY rfl (Y.loadS0 rfl (Lent.fact 0 rfl) rfl rfl rfl RI64c0 hc62) rfl ?_
                        refine J.guardY rfl (Y.eql rfl rfl) rfl ?_
                        refine J.guardY rfl (Y.pickT rfl rfl) rfl ?_
                        refine J.quiet (Y.pickF rfl rfl) rfl ?_
                        refine J.done ?_
                        refine J.thenN ?_
                        exact J.meetI (decide (a24.1 = (at' p0 a36.1))) (()) h (by repeat (first | exact SubF.nil | refine SubF.cons rfl ?_)) (SubM.refl _) (LentAll.refl _ _)
                      · replace h := ifN hp61 h
                        refine J.guardN rfl rfl rfl ?_
                        refine J.guardN rfl rfl rfl ?_
                        refine J.guardN rfl rfl rfl ?_
                        refine J.guardN rfl rfl rfl ?_
                        refine J.guardN rfl rfl rfl ?_
                        refine J.guardN rfl rfl rfl ?_
                        refine J.guardY rfl (Y.pickF rfl rfl) rfl ?_
                        refine J.quiet (Y.pickF rfl rfl) rfl ?_
                        refine J.done ?_
                        refine J.thenN ?_
                        exact J.meetI (false) (()) h (by repeat (first | exact SubF.nil | refine SubF.cons rfl ?_)) (SubM.refl _) (LentAll.refl _ _)
                  · clear h
                    intro a45 b46 h
                    unfold ref03_FromParents_k6 at h
                    refine J.cond (by exact rfl) (fun hp47 => ?_) (fun hp47 => ?_)
                    · replace h := ifP hp47 h
                      refine JR.start [0, 1, 0, 0, 8, 0, 56, 120, 0, 256, 768, 2040, 4095, 8191] 12 mixedOrders (by decide +kernel) ?_
                      refine JR.open (by exact rfl) ?_
                      refine JR.qt rfl (SubM.nil) (SubL.nil) (Y.fieldB rfl rfl rfl rfl rfl) HistOk.z ?_
                      refine JR.qt rfl (SubM.cons 0 rfl (SubM.nil)) (SubL.nil) (Y.loadB 0 rfl rfl rfl rfl rfl) HistOk.z ?_
                      refine JR.qt rfl (SubM.nil) (SubL.nil) (Y.move rfl) HistOk.z ?_
                      refine JR.qt rfl (SubM.nil) (SubL.nil) (Y.fieldB rfl rfl rfl rfl rfl) HistOk.z ?_
                      refine JR.qt rfl (SubM.cons 0 rfl (SubM.nil)) (SubL.nil) (Y.loadB 0 rfl rfl rfl rfl rfl) HistOk.z ?_
                      refine JR.qt rfl (SubM.nil) (SubL.nil) (Y.move rfl) HistOk.z ?_
                      replace h := ck_some h; obtain ⟨hc48, h⟩ := h
                      refine JR.qt rfl (SubM.cons 2 rfl (SubM.cons 2 rfl (SubM.nil))) (SubL.nil) (Y.indexN rfl rfl (Lent.rows (i := 0) (j := 1) rfl rfl FI64I64p) rfl rfl hc48) HistOk.z ?_
                      refine JR.know (Know.rws 3 rfl) fun hl49 => ?_
                      refine JR.qt rfl (SubM.cons 2 rfl (SubM.nil)) (SubL.nil) (Y.loadRaw 0 rfl rfl hl49 rfl rfl hc48) HistOk.z ?_
                      refine JR.qt rfl (SubM.nil) (SubL.nil) (Y.move rfl) HistOk.z ?_
                      refine JR.qt rfl (SubM.nil) (SubL.nil) (Y.bld2 (r := Value.agg #[Value.int .i64 (a36.1), Value.int .i64 (1 : Int)]) rfl rfl (by intro w; simp [Instr.build, Instr.fill, cells_intV, cells_boolV, cells_sliceV, cells_ptrV, cells_strV, cells_funcV, cells_agg])) HistOk.z ?_
                      refine JR.loud rfl rfl rfl (Loud.buildS (e := EI64I64p) [((a36.1, (1 : Int)))] [(0, Value.agg #[Value.int .i64 (a36.1), Value.int .i64 (1 : Int)])] rfl rfl rfl rfl (fill_1_2 (Value.int .i64 (a36.1)) (Value.int .i64 (1 : Int))) rfl rfl rfl) rfl (fun u50 => (BsOk.b rfl (BsOk.b rfl (BsOk.h (SubM.cons 3 rfl (SubM.nil)) (SubL.nil) (BsOk.h (SubM.cons 3 rfl (SubM.cons 3 rfl (SubM.nil))) (SubL.nil) (BsOk.h (SubM.nil) (SubL.nil) (BsOk.h (SubM.cons 1 rfl (SubM.nil)) (SubL.nil) (BsOk.h (SubM.nil) (SubL.nil) (BsOk.h (SubM.nil) (SubL.nil) (BsOk.h (SubM.cons 1 rfl (SubM.nil)) (SubL.nil) (BsOk.h (SubM.nil) (SubL.nil) BsOk.z))))))))))) fun u50 => ?_
                      replace h := ck_some h; obtain ⟨hc52, h⟩ := h
                      refine JR.loud rfl rfl rfl (Loud.appendRowL 4 FI64I64p rfl rfl rfl (Lent.ar (Lent.res 0 rfl) FI64I64p) rfl rfl rfl rfl hc48 hc52 rfl) rfl (fun u51 => (BsOk.b rfl (BsOk.b rfl (BsOk.b rfl (BsOk.b rfl (BsOk.b rfl (BsOk.b rfl (BsOk.b rfl (BsOk.h (SubM.nil) (SubL.nil) (BsOk.h (SubM.cons 1 rfl (SubM.nil)) (SubL.nil) (BsOk.h (SubM.nil) (SubL.nil) BsOk.z))))))))))) fun u51 => ?_
                      refine JR.tailD 12 rfl rfl ?_
                      replace h := ck_some h; obtain ⟨hc53, h⟩ := h
                      refine J.know (Know.rws 4 rfl) fun hl54 => ?_
                      refine J.quiet (Y.indexA 3 rfl rfl rfl rfl rfl hc53.1 (by have q1 := hc53.2; have q2 := hl54; simp only [List.length_set] at q1 q2; omega)) rfl ?_
                      refine J.know (Know.oneRow 4 (k := a24.1) rfl hc53) fun ho55 => ?_
                      refine J.storeRow 3 4 ⟨hc53.1, by simpa using hc53.2⟩ rfl rfl rfl rfl rfl (by simp) ho55 rfl ?_
                      refine J.done ?_
                      refine J.inN ?_
                      refine J.thenN ?_
                      exact J.meetI (List.set a36.2 (Int.toNat a24.1) ((at' a36.2 a24.1) ++ ([ (a36.1, (1 : Int))]))) (List.set b37 (Int.toNat a24.1) u51) h (by repeat (first | exact SubF.nil | refine SubF.cons rfl ?_)) (SubM.cons 1 rfl (SubM.cons 1 rfl (SubM.cons 1 rfl (SubM.cons 1 rfl (SubM.cons 1 rfl (SubM.nil)))))) (LentAll.refl _ _)
                    · replace h := ifBN hp47 h
                      refine J.skip ?_
                      refine J.inN ?_
                      refine J.thenN ?_
                      exact J.meetI (a36.2) (b37) h (by repeat (first | exact SubF.nil | refine SubF.cons rfl ?_)) (SubM.refl _) (LentAll.refl _ _)
                · clear h
                  intro a42 b43 h
                  unfold ref03_FromParents_k5 at h
                  refine J.region ?_
                  refine J.quiet (Y.move rfl) rfl ?_
                  refine J.quiet (Y.addW rfl rfl) rfl ?_
                  refine J.quiet (Y.assign rfl) rfl ?_
                  refine J.done ?_
                  refine J.thenN ?_
                  exact J.againI ((wI .i64 (a36.1 + (1 : Int))), a42) (b43) h (by repeat (first | exact SubF.nil | refine SubF.cons rfl ?_)) (SubM.refl _) (LentAll.refl _ _)
              · replace h := ifN hp39 h
                refine J.exit ?_
                refine J.thenX ?_
                refine J.thenX ?_
                refine J.inX ?_
                refine J.inN ?_
                refine J.thenN ?_
                exact J.meetI (a36.2) (b37) h (by repeat (first | exact SubF.nil | refine SubF.cons rfl ?_)) (SubM.refl _) (LentAll.refl _ _)
            · clear h
              intro a30 b31 h
              unfold ref03_FromParents_k4 at h
              refine J.region ?_
              refine J.quiet (Y.move rfl) rfl ?_
              refine J.quiet (Y.addW rfl rfl) rfl ?_
              refine J.quiet (Y.assign rfl) rfl ?_
              refine J.done ?_
              refine J.thenN ?_
              exact J.againI ((wI .i64 (a24.1 + (1 : Int))), a30) (b31) h (by repeat (first | exact SubF.nil | refine SubF.cons rfl ?_)) (SubM.refl _) (LentAll.refl _ _)
          · replace h := ifN hp27 h
            refine J.exit ?_
            refine J.thenX ?_
            refine J.thenX ?_
            refine J.inX ?_
            refine J.thenN ?_
            exact J.meetI (a24.2) (b25) h (by repeat (first | exact SubF.nil | refine SubF.cons rfl ?_)) (SubM.refl _) (LentAll.refl _ _)
        · clear h
          intro a16 b17 h
          unfold ref03_FromParents_k3 at h
          refine J.seq ?_
          refine J.region ?_
          refine J.quiet (Y.loadBAll 0 rfl rfl rfl rfl) rfl ?_
          refine J.know (Know.one ((Lent.ar (Lent.res 1 rfl) FI64))) fun ho18 => ?_
          refine J.know (Know.one (Lent.sl (Lent.rows (i := 2) (j := 3) rfl rfl FI64I64p))) fun ho19 => ?_
          refine J.storeAll 4 (vs := [x10.1, x10.2.1]) rfl rfl (all1 ho18 (all1 ho19 rfl)) rfl rfl rfl ?_
          refine J.quiet (Y.assign rfl) rfl ?_
          refine J.done ?_
          refine J.thenN ?_
          refine J.ret ?_
          obtain rfl := Option.some.inj h
          exact J.retG2 (x10.1, x10.2.1, b17) rfl rfl (RV.cell 4 rfl rfl rfl rfl) (RV.tmp rfl) (SubM.cons 1 rfl (SubM.cons 1 rfl (SubM.cons 1 rfl (SubM.nil)))) LentAll.nil

end Go.Proofs.Ytemhmmcakmidkaa
