/- The model of selfstabref03.plain and the proof that the function meets it, by program (gen/xt.py). Conditions: none. -/
import Derived.Test.YtemhmmcakmidkaaXp
namespace Go.Proofs.Ytemhmmcakmidkaa
open Go.Sx

def ref03_plain_k1 (p0 : Int) (a9 : List (Int)) : Option ((List (Int) × (List (List (Int × Int))))) :=
  some ((a9, (List.replicate (Int.toNat p0) ([] : List (Int × Int)))))
def ref03_plain_s1 (p0 : Int) (a17 : Int × List (Int)) (ag16 : (Int × List (Int)) → Option ((List (Int) × (List (List (Int × Int)))))) : Option ((List (Int) × (List (List (Int × Int))))) :=
  if a17.1 < p0 then (ck ((List.length a17.2 : Int) + (List.length ([a17.1]) : Int) ≤ 1099511627) (ag16 ((wI .i64 (a17.1 + (1 : Int))), (a17.2 ++ [a17.1])))) else (ref03_plain_k1 p0 (a17.2))
def m_ref03_plain (fuel : Nat) (p0 : Int) : Option ((List (Int) × (List (List (Int × Int))))) :=
  ck (0 ≤ p0 ∧ p0 ≤ 1099511627) (iter (ref03_plain_s1 p0) fuel ((0 : Int), ([] : List Int)))

theorem body73 : HasBody Try.prog 73 := Try.call73

set_option maxHeartbeats 4000000 in
set_option maxRecDepth 20000 in
theorem t_ref03_plain (fuel : Nat) {p0 : Int} (r : (List (Int) × (List (List (Int × Int))))) (h : m_ref03_plain fuel p0 = some r) :
    Meets Try.prog 73 #[Value.int .i64 (p0)] [] (fun x : Value × Value × List Value => Value.agg #[x.1, x.2.1]) (fun x l => Ar EI64 x.1 r.1 :: Ar Enc.raw x.2.1 x.2.2 :: Rws EI64I64p x.2.2 r.2 :: l) (fun _ l => l) := by
  refine Meets.of (vs := [Value.int .i64 (p0)]) Try.func73 rfl Try.ntmps73 rfl fun c => ?_
  unfold m_ref03_plain at h
  refine J.seq ?_
  refine J.region ?_
  refine J.loud (Loud.alloc (cs := [Value.slice none 0 0, Value.slice none 0 0]) rfl rfl) rfl fun b1 => ?_
  refine J.done ?_
  refine J.thenN ?_
  refine J.seq ?_
  refine J.region ?_
  refine J.quiet (Y.move rfl) rfl ?_
  replace h := ck_some h; obtain ⟨hc2, h⟩ := h
  refine J.stp (Stp.rowsNew EI64I64p (Int.toNat p0)) ?_
  refine J.loud (Loud.makeS (e := Enc.raw) (Value.slice none 0 0) rfl rfl rfl rfl hc2 rfl rfl rfl) rfl fun u3 => ?_
  refine J.know (Know.one (Lent.sl (Lent.rows (i := 0) (j := 1) rfl rfl FI64I64p))) fun ho4 => ?_
  refine J.quiet (Y.bld1 (r := Value.agg #[Value.slice none 0 0, u3]) rfl (by intro w; simp [Instr.build, Instr.fill, cells_intV, cells_boolV, cells_sliceV, cells_ptrV, cells_strV, cells_funcV, cells_agg, one_cells ho4])) rfl ?_
  refine J.loud (Loud.alloc (cs := [Value.slice none 0 0, Value.slice none 0 0]) rfl rfl) rfl fun b5 => ?_
  refine J.know (Know.one (Lent.sl (Lent.rows (i := 1) (j := 2) rfl rfl FI64I64p))) fun ho6 => ?_
  refine J.storeAll 0 (vs := [Value.slice none 0 0, u3]) rfl rfl (all1 rfl (all1 ho6 rfl)) rfl rfl rfl ?_
  refine J.done ?_
  refine J.thenN ?_
  refine J.seq ?_
  refine J.midI (A := List (Int)) (B := Value) (fun a9 => ref03_plain_k1 p0 a9 = some r) (fun a9 b10 => [(2, Value.pointer (some ⟨b1, 0, none⟩)), (3, Value.pointer (some ⟨b5, 0, none⟩))]) (fun a9 b10 => [Blk b5 [b10, u3] 26, Ar Enc.raw u3 (List.replicate (Int.toNat p0) (Value.slice none 0 0)), Rws EI64I64p (List.replicate (Int.toNat p0) (Value.slice none 0 0)) (List.replicate (Int.toNat p0) ([] : List (Int × Int))), Blk b1 [Value.slice none 0 0, Value.slice none 0 0] 26, Ar EI64 b10 a9]) (fun a9 b10 => []) ?_ ?_
  · refine J.seq ?_
    refine J.region ?_
    refine J.quiet (Y.assign rfl) rfl ?_
    refine J.done ?_
    refine J.thenN ?_
    refine J.block ?_
    refine J.stp (Stp.nilAr EI64) ?_
    refine J.loopI (A := Int × List (Int)) (B := Value) (ref03_plain_s1 p0) (fun a17 b18 => [(0, Value.int .i64 (p0)), (2, Value.pointer (some ⟨b1, 0, none⟩)), (3, Value.pointer (some ⟨b5, 0, none⟩)), (4, Value.int .i64 (a17.1))]) (fun a17 b18 => [Blk b5 [b18, u3] 26, Ar Enc.raw u3 (List.replicate (Int.toNat p0) (Value.slice none 0 0)), Rws EI64I64p (List.replicate (Int.toNat p0) (Value.slice none 0 0)) (List.replicate (Int.toNat p0) ([] : List (Int × Int))), Blk b1 [Value.slice none 0 0, Value.slice none 0 0] 26, Ar EI64 b18 a17.2]) (fun a17 b18 => []) ((0 : Int), ([] : List Int)) (Value.slice none 0 0) h (by repeat (first | exact SubF.nil | refine SubF.cons rfl ?_)) (SubM.cons 1 rfl (SubM.cons 1 rfl (SubM.cons 1 rfl (SubM.cons 1 rfl (SubM.cons 0 rfl (SubM.nil)))))) (LentAll.refl _ _) ?_
    clear h
    intro k19 a17 b18 h
    unfold ref03_plain_s1 at h
    refine J.seq ?_
    refine J.seq ?_
    refine J.region ?_
    refine J.quiet (Y.move rfl) rfl ?_
    refine J.quiet (Y.move rfl) rfl ?_
    refine J.quiet (Y.lss rfl rfl) rfl ?_
    refine J.done ?_
    refine J.thenN ?_
    refine J.condD (by exact rfl) (fun hp20 => ?_) (fun hp20 => ?_)
    · replace h := ifP hp20 h
      refine J.skip ?_
      refine J.thenN ?_
      refine J.seq ?_
      refine J.block ?_
      refine J.region ?_
      refine J.quiet (Y.fieldB rfl rfl rfl rfl rfl) rfl ?_
      refine J.quiet (Y.loadB 0 rfl rfl rfl rfl rfl) rfl ?_
      refine J.quiet (Y.move rfl) rfl ?_
      refine J.loud (Loud.buildS (e := EI64) [a17.1] [(0, Value.int .i64 (a17.1))] rfl rfl rfl rfl (fill_1_1 (Value.int .i64 (a17.1)) rfl) rfl rfl rfl) rfl fun u21 => ?_
      replace h := ck_some h; obtain ⟨hc23, h⟩ := h
      refine J.loud (Loud.appendL 5 FI64 rfl rfl rfl (Lent.ar (Lent.res 0 rfl) FI64) rfl rfl rfl rfl hc23 rfl) rfl fun u22 => ?_
      refine J.quiet (Y.fieldB rfl rfl rfl rfl rfl) rfl ?_
      refine J.know (Know.one ((Lent.ar (Lent.res 5 rfl) FI64))) fun ho24 => ?_
      refine J.store1 1 rfl rfl ho24 rfl rfl rfl ?_
      refine J.done ?_
      refine J.inN ?_
      refine J.thenN ?_
      refine J.region ?_
      refine J.quiet (Y.move rfl) rfl ?_
      refine J.quiet (Y.addW rfl rfl) rfl ?_
      refine J.quiet (Y.assign rfl) rfl ?_
      refine J.done ?_
      refine J.thenN ?_
      exact J.againI ((wI .i64 (a17.1 + (1 : Int))), (a17.2 ++ [a17.1])) (u22) h (by repeat (first | exact SubF.nil | refine SubF.cons rfl ?_)) (SubM.cons 1 rfl (SubM.cons 1 rfl (SubM.cons 1 rfl (SubM.cons 1 rfl (SubM.cons 1 rfl (SubM.nil)))))) (LentAll.refl _ _)
    · replace h := ifN hp20 h
      refine J.exit ?_
      refine J.thenX ?_
      refine J.thenX ?_
      refine J.inX ?_
      refine J.thenN ?_
      exact J.meetI (a17.2) (b18) h (by repeat (first | exact SubF.nil | refine SubF.cons rfl ?_)) (SubM.refl _) (LentAll.refl _ _)
  · clear h
    intro a9 b10 h
    unfold ref03_plain_k1 at h
    refine J.seq ?_
    refine J.region ?_
    refine J.quiet (Y.loadBAll 0 rfl rfl rfl rfl) rfl ?_
    refine J.know (Know.one ((Lent.ar (Lent.res 4 rfl) FI64))) fun ho11 => ?_
    refine J.know (Know.one (Lent.sl (Lent.rows (i := 1) (j := 2) rfl rfl FI64I64p))) fun ho12 => ?_
    refine J.storeAll 3 (vs := [b10, u3]) rfl rfl (all1 ho11 (all1 ho12 rfl)) rfl rfl rfl ?_
    refine J.done ?_
    refine J.thenN ?_
    refine J.ret ?_
    obtain rfl := Option.some.inj h
    exact J.retG1 (b10, u3, (List.replicate (Int.toNat p0) (Value.slice none 0 0))) rfl rfl (RV.cell 3 rfl rfl rfl rfl) (SubM.cons 4 rfl (SubM.cons 1 rfl (SubM.cons 1 rfl (SubM.nil)))) LentAll.nil

end Go.Proofs.Ytemhmmcakmidkaa
