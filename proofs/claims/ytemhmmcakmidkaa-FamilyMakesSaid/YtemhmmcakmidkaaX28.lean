/- The model of family.Grid and the proof that the function meets it, by program (gen/xt.py). Conditions: none. -/
import Derived.Test.YtemhmmcakmidkaaX74
import Derived.Test.YtemhmmcakmidkaaX78
namespace Go.Proofs.Ytemhmmcakmidkaa
open Go.Sx

def family_Grid_k1 (fuel : Nat) (p0 : Int) (p1 : Int) (a4 : Bool) : Option ((List (Int) × (List (List (Int × Int)))) × Int) :=
  if a4 = true then (some (((([] : List Int), ([] : List (List (Int × Int))))), (2 : Int))) else (Option.bind (m_family_ofSize fuel (wI .i64 (p0 * p1)) (fun y0 y1 => m_family_Grid_1 fuel y0 y1 p0)) fun r7 => (some (((r7.1.1, r7.1.2)), r7.2)))
def m_family_Grid (fuel : Nat) (p0 : Int) (p1 : Int) : Option ((List (Int) × (List (List (Int × Int)))) × Int) :=
  if p0 < (1 : Int) then (family_Grid_k1 fuel p0 p1 (true)) else (if (24 : Int) < p0 then (family_Grid_k1 fuel p0 p1 (true)) else (if p1 < (1 : Int) then (family_Grid_k1 fuel p0 p1 (true)) else (family_Grid_k1 fuel p0 p1 (decide ((24 : Int) < p1)))))

theorem body28 : HasBody Try.prog 28 := Try.call28

set_option maxHeartbeats 4000000 in
set_option maxRecDepth 20000 in
theorem t_family_Grid (fuel : Nat) {p0 : Int} {p1 : Int} (r : (List (Int) × (List (List (Int × Int)))) × Int) (h : m_family_Grid fuel p0 p1 = some r) :
    Meets Try.prog 28 #[Value.int .i64 (p0), Value.int .i64 (p1)] [] (fun x : Value × Value × List Value => Value.tuple #[Value.agg #[x.1, x.2.1], Value.int .i64 (r.2)]) (fun x l => Ar EI64 x.1 r.1.1 :: Ar Enc.raw x.2.1 x.2.2 :: Rws EI64I64p x.2.2 r.1.2 :: l) (fun _ l => l) := by
  refine Meets.of (vs := [Value.int .i64 (p0), Value.int .i64 (p1)]) Try.func28 rfl Try.ntmps28 rfl fun c => ?_
  unfold m_family_Grid at h
  refine J.seq ?_
  refine J.region ?_
  refine J.loud (Loud.box (cs := [Value.int .i64 (p0)]) rfl rfl) rfl fun b1 => ?_
  refine J.loud (Loud.alloc (cs := [Value.slice none 0 0, Value.slice none 0 0]) rfl rfl) rfl fun b2 => ?_
  refine J.quiet (Y.assign rfl) rfl ?_
  refine J.done ?_
  refine J.thenN ?_
  refine J.seq ?_
  refine J.seq ?_
  refine J.midI (A := Bool) (B := Unit) (fun a4 => family_Grid_k1 fuel p0 p1 a4 = some r) (fun a4 b5 => [(1, Value.int .i64 (p1)), (2, Value.pointer (some ⟨b1, 0, none⟩)), (4, Value.pointer (some ⟨b2, 0, none⟩)), (19, Value.bool (a4))]) (fun a4 b5 => [Blk b2 [Value.slice none 0 0, Value.slice none 0 0] 26, Blk b1 [Value.int .i64 (p0)] 3]) (fun a4 b5 => []) ?_ ?_
  · refine J.region ?_
    refine J.quiet (Y.loadB 1 rfl rfl rfl rfl rfl) rfl ?_
    refine J.quiet (Y.lss rfl rfl) rfl ?_
    refine J.quiet (Y.move rfl) rfl ?_
    refine J.guardD (by exact rfl) (by exact rfl) (fun hp12 => ?_) (fun hp12 => ?_)
    · replace h := ifP hp12 h
      refine J.guardN rfl rfl rfl ?_
      refine J.guardN rfl rfl rfl ?_
      refine J.quiet (Y.pickT rfl rfl) rfl ?_
      refine J.quiet (Y.move rfl) rfl ?_
      refine J.guardN rfl rfl rfl ?_
      refine J.guardN rfl rfl rfl ?_
      refine J.quiet (Y.pickT rfl rfl) rfl ?_
      refine J.quiet (Y.move rfl) rfl ?_
      refine J.guardN rfl rfl rfl ?_
      refine J.guardN rfl rfl rfl ?_
      refine J.quiet (Y.pickT rfl rfl) rfl ?_
      refine J.done ?_
      refine J.thenN ?_
      exact J.meetI (true) (()) h (by repeat (first | exact SubF.nil | refine SubF.cons rfl ?_)) (SubM.refl _) (LentAll.refl _ _)
    · replace h := ifN hp12 h
      refine J.guardY rfl (Y.loadB 1 rfl rfl rfl rfl rfl) rfl ?_
      refine J.guardY rfl (Y.gtr rfl rfl) rfl ?_
      refine J.quiet (Y.pickF rfl rfl) rfl ?_
      refine J.quiet (Y.move rfl) rfl ?_
      refine J.guardD (by exact rfl) (by exact rfl) (fun hp13 => ?_) (fun hp13 => ?_)
      · replace h := ifP hp13 h
        refine J.guardN rfl rfl rfl ?_
        refine J.guardN rfl rfl rfl ?_
        refine J.quiet (Y.pickT rfl rfl) rfl ?_
        refine J.quiet (Y.move rfl) rfl ?_
        refine J.guardN rfl rfl rfl ?_
        refine J.guardN rfl rfl rfl ?_
        refine J.quiet (Y.pickT rfl rfl) rfl ?_
        refine J.done ?_
        refine J.thenN ?_
        exact J.meetI (true) (()) h (by repeat (first | exact SubF.nil | refine SubF.cons rfl ?_)) (SubM.refl _) (LentAll.refl _ _)
      · replace h := ifN hp13 h
        refine J.guardY rfl (Y.move rfl) rfl ?_
        refine J.guardY rfl (Y.lss rfl rfl) rfl ?_
        refine J.quiet (Y.pickF rfl rfl) rfl ?_
        refine J.quiet (Y.move rfl) rfl ?_
        refine J.guardD (by exact rfl) (by exact rfl) (fun hp14 => ?_) (fun hp14 => ?_)
        · replace h := ifP hp14 h
          refine J.guardN rfl rfl rfl ?_
          refine J.guardN rfl rfl rfl ?_
          refine J.quiet (Y.pickT rfl rfl) rfl ?_
          refine J.done ?_
          refine J.thenN ?_
          exact J.meetI (true) (()) h (by repeat (first | exact SubF.nil | refine SubF.cons rfl ?_)) (SubM.refl _) (LentAll.refl _ _)
        · replace h := ifN hp14 h
          refine J.guardY rfl (Y.move rfl) rfl ?_
          refine J.guardY rfl (Y.gtr rfl rfl) rfl ?_
          refine J.quiet (Y.pickF rfl rfl) rfl ?_
          refine J.done ?_
          refine J.thenN ?_
          exact J.meetI (decide ((24 : Int) < p1)) (()) h (by repeat (first | exact SubF.nil | refine SubF.cons rfl ?_)) (SubM.refl _) (LentAll.refl _ _)
  · clear h
    intro a4 b5 h
    unfold family_Grid_k1 at h
    refine J.cond (by exact rfl) (fun hp6 => ?_) (fun hp6 => ?_)
    · replace h := ifP hp6 h
      refine J.seq ?_
      refine J.region ?_
      refine J.quiet (Y.bld0 (r := Value.agg #[Value.slice none 0 0, Value.slice none 0 0]) (by intro w; simp [Instr.build, Instr.fill, cells_intV, cells_boolV, cells_sliceV, cells_ptrV, cells_strV, cells_funcV, cells_agg])) rfl ?_
      refine J.storeAll 0 (vs := [Value.slice none 0 0, Value.slice none 0 0]) rfl rfl rfl rfl rfl rfl ?_
      refine J.quiet (Y.assign rfl) rfl ?_
      refine J.done ?_
      refine J.thenN ?_
      refine J.ret ?_
      refine J.thenR ?_
      refine J.stp (Stp.nilAr EI64) ?_
      refine J.stp (Stp.nilAr Enc.raw) (J.stp (Stp.rowsNil EI64I64p) ?_)
      obtain rfl := Option.some.inj h
      exact J.retG2 ((Value.slice none 0 0), (Value.slice none 0 0), ([] : List Value)) rfl rfl (RV.cell 3 rfl rfl rfl rfl) (RV.tmp rfl) (SubM.cons 2 rfl (SubM.cons 1 rfl (SubM.cons 0 rfl (SubM.nil)))) LentAll.nil
    · replace h := ifBN hp6 h
      refine J.skip ?_
      refine J.thenN ?_
      refine J.seq ?_
      refine J.region ?_
      refine J.quiet (Y.loadB 1 rfl rfl rfl rfl rfl) rfl ?_
      refine J.quiet (Y.move rfl) rfl ?_
      refine J.quiet (Y.mulW rfl rfl) rfl ?_
      refine J.quiet (Y.makeFunc (cs := [.tmp 2]) (vs := [Value.pointer (some ⟨b1, 0, none⟩)]) rfl) rfl ?_
      replace h := bnd h; obtain ⟨r7, hr8, h⟩ := h
      refine J.loud (Loud.callL body74 (t_family_ofSize fuel 78 [Value.pointer (some ⟨b1, 0, none⟩)] [Blk b1 [Value.int .i64 (p0)] 3] body78 (fun y0 y1 r h => t_family_Grid_1 fuel b1 r h) r7 hr8) rfl (LentAll.cons (Lent.res 1 rfl) (LentAll.nil)) (fun _ _ => rfl)) rfl fun x9 => ?_
      refine J.quiet (Y.extract rfl rfl) rfl ?_
      refine J.quiet (Y.extract rfl rfl) rfl ?_
      refine J.know (Know.one ((Lent.ar (Lent.res 0 rfl) FI64))) fun ho10 => ?_
      refine J.know (Know.one (Lent.sl (Lent.rows (i := 1) (j := 2) rfl rfl FI64I64p))) fun ho11 => ?_
      refine J.storeAll 3 (vs := [x9.1, x9.2.1]) rfl rfl (all1 ho10 (all1 ho11 rfl)) rfl rfl rfl ?_
      refine J.quiet (Y.assign rfl) rfl ?_
      refine J.done ?_
      refine J.thenN ?_
      refine J.ret ?_
      obtain rfl := Option.some.inj h
      exact J.retG2 (x9.1, x9.2.1, x9.2.2) rfl rfl (RV.cell 3 rfl rfl rfl rfl) (RV.tmp rfl) (SubM.cons 0 rfl (SubM.cons 0 rfl (SubM.cons 0 rfl (SubM.nil)))) LentAll.nil

end Go.Proofs.Ytemhmmcakmidkaa
