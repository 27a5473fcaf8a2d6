/- The model of family.ofSize and the proof that the function meets it, by program (gen/xt.py). Conditions: none. -/
import Derived.Test.YtemhmmcakmidkaaX79
namespace Go.Proofs.Ytemhmmcakmidkaa
open Go.Sx

def family_ofSize_k1 (fuel : Nat) (p0 : Int) (g1 : Int → Int → Option Bool) (a3 : Bool) : Option ((List (Int) × (List (List (Int × Int)))) × Int) :=
  if a3 = true then (some (((([] : List Int), ([] : List (List (Int × Int))))), (2 : Int))) else (Option.bind (m_family_related fuel p0 g1) fun r6 => (some (((r6.1, r6.2)), (0 : Int))))
def m_family_ofSize (fuel : Nat) (p0 : Int) (g1 : Int → Int → Option Bool) : Option ((List (Int) × (List (List (Int × Int)))) × Int) :=
  if p0 < (1 : Int) then (family_ofSize_k1 fuel p0 g1 (true)) else (family_ofSize_k1 fuel p0 g1 (decide ((24 : Int) < p0)))

theorem body74 : HasBody Try.prog 74 := Try.call74

set_option maxHeartbeats 4000000 in
set_option maxRecDepth 20000 in
theorem t_family_ofSize (fuel : Nat) {p0 : Int} {g1 : Int → Int → Option Bool} (f1 : FuncId) (cs1 : List Value) (Lf : List Fact) (hb_g1 : HasBody Try.prog f1) (hm_g1 : ∀ (y0 : Int) (y1 : Int) (r : Bool), g1 y0 y1 = some r → Meets Try.prog f1 ([Value.int .i64 (y0), Value.int .i64 (y1)] ++ cs1).toArray Lf (fun _ : Unit => Value.bool (r)) (fun _ l => l) (fun _ l => l)) (r : (List (Int) × (List (List (Int × Int)))) × Int) (h : m_family_ofSize fuel p0 g1 = some r) :
    Meets Try.prog 74 #[Value.int .i64 (p0), Value.func (.func f1) #[] (cs1).toArray] ([] ++ Lf) (fun x : Value × Value × List Value => Value.tuple #[Value.agg #[x.1, x.2.1], Value.int .i64 (r.2)]) (fun x l => Ar EI64 x.1 r.1.1 :: Ar Enc.raw x.2.1 x.2.2 :: Rws EI64I64p x.2.2 r.1.2 :: l) (fun _ l => l) := by
  refine Meets.of (vs := [Value.int .i64 (p0), Value.func (.func f1) #[] (cs1).toArray]) Try.func74 rfl Try.ntmps74 rfl fun c => ?_
  unfold m_family_ofSize at h
  refine J.seq ?_
  refine J.region ?_
  refine J.loud (Loud.alloc (cs := [Value.slice none 0 0, Value.slice none 0 0]) rfl rfl) rfl fun b1 => ?_
  refine J.quiet (Y.assign rfl) rfl ?_
  refine J.done ?_
  refine J.thenN ?_
  refine J.seq ?_
  refine J.seq ?_
  refine J.midI (A := Bool) (B := Unit) (fun a3 => family_ofSize_k1 fuel p0 g1 a3 = some r) (fun a3 b4 => [(0, Value.int .i64 (p0)), (1, Value.func (.func f1) #[] (cs1).toArray), (4, Value.pointer (some ⟨b1, 0, none⟩)), (11, Value.bool (a3))]) (fun a3 b4 => [Blk b1 [Value.slice none 0 0, Value.slice none 0 0] 26]) (fun a3 b4 => ([] ++ Lf)) ?_ ?_
  · refine J.region ?_
    refine J.quiet (Y.move rfl) rfl ?_
    refine J.quiet (Y.lss rfl rfl) rfl ?_
    refine J.quiet (Y.move rfl) rfl ?_
    refine J.guardD (by exact rfl) (by exact rfl) (fun hp11 => ?_) (fun hp11 => ?_)
    · replace h := ifP hp11 h
      refine J.guardN rfl rfl rfl ?_
      refine J.guardN rfl rfl rfl ?_
      refine J.quiet (Y.pickT rfl rfl) rfl ?_
      refine J.done ?_
      refine J.thenN ?_
      exact J.meetI (true) (()) h (by repeat (first | exact SubF.nil | refine SubF.cons rfl ?_)) (SubM.refl _) (LentAll.refl _ _)
    · replace h := ifN hp11 h
      refine J.guardY rfl (Y.move rfl) rfl ?_
      refine J.guardY rfl (Y.gtr rfl rfl) rfl ?_
      refine J.quiet (Y.pickF rfl rfl) rfl ?_
      refine J.done ?_
      refine J.thenN ?_
      exact J.meetI (decide ((24 : Int) < p0)) (()) h (by repeat (first | exact SubF.nil | refine SubF.cons rfl ?_)) (SubM.refl _) (LentAll.refl _ _)
  · clear h
    intro a3 b4 h
    unfold family_ofSize_k1 at h
    refine J.cond (by exact rfl) (fun hp5 => ?_) (fun hp5 => ?_)
    · replace h := ifP hp5 h
      refine J.seq ?_
      refine J.region ?_
      refine J.quiet (Y.bld0 (r := Value.agg #[Value.slice none 0 0, Value.slice none 0 0]) (by intro w; simp [Instr.build, Instr.fill, cells_intV, cells_boolV, cells_sliceV, cells_ptrV, cells_strV, cells_funcV, cells_agg])) rfl ?_
      refine J.storeAll 0 (vs := [Value.slice none 0 0, Value.slice none 0 0]) rfl rfl rfl rfl rfl rfl ?_
      refine J.quiet (Y.assign rfl) rfl ?_
      refine J.done ?_
      refine J.thenN ?_
      refine J.ret ?_
      refine J.thenR ?_
      refine J.stp (Stp.nilAr EI64) ?_
      refine J.stp (Stp.nilAr Enc.raw) (J.stp (Stp.rowsNil EI64I64p) ?_)
      obtain rfl := Option.some.inj h
      exact J.retG2 ((Value.slice none 0 0), (Value.slice none 0 0), ([] : List Value)) rfl rfl (RV.cell 3 rfl rfl rfl rfl) (RV.tmp rfl) (SubM.cons 2 rfl (SubM.cons 1 rfl (SubM.cons 0 rfl (SubM.nil)))) LentAll.nil
    · replace h := ifBN hp5 h
      refine J.skip ?_
      refine J.thenN ?_
      refine J.seq ?_
      refine J.region ?_
      refine J.quiet (Y.move rfl) rfl ?_
      refine J.quiet (Y.move rfl) rfl ?_
      replace h := bnd h; obtain ⟨r6, hr7, h⟩ := h
      refine J.loud (Loud.callL body79 (t_family_related fuel f1 cs1 Lf hb_g1 hm_g1 r6 hr7) rfl (LentAll.tail _) (fun _ _ => rfl)) rfl fun x8 => ?_
      refine J.know (Know.one ((Lent.ar (Lent.res 0 rfl) FI64))) fun ho9 => ?_
      refine J.know (Know.one (Lent.sl (Lent.rows (i := 1) (j := 2) rfl rfl FI64I64p))) fun ho10 => ?_
      refine J.storeAll 3 (vs := [x8.1, x8.2.1]) rfl rfl (all1 ho9 (all1 ho10 rfl)) rfl rfl rfl ?_
      refine J.quiet (Y.assign rfl) rfl ?_
      refine J.done ?_
      refine J.thenN ?_
      refine J.ret ?_
      obtain rfl := Option.some.inj h
      exact J.retG2 (x8.1, x8.2.1, x8.2.2) rfl rfl (RV.cell 3 rfl rfl rfl rfl) (RV.tmp rfl) (SubM.cons 0 rfl (SubM.cons 0 rfl (SubM.cons 0 rfl (SubM.nil)))) LentAll.nil

end Go.Proofs.Ytemhmmcakmidkaa
