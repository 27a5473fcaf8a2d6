/- The model of selfstabref01.All and the proof that the function meets it, by program (gen/xt.py). Conditions: none. -/
import Derived.Test.YtemhmmcakmidkaaXp
namespace Go.Proofs.Ytemhmmcakmidkaa
open Go.Sx
set_option linter.unusedVariables false
set_option linter.unusedSimpArgs false

def ref01_All_k1  (a2 : Int) : Option (Int) :=
  some (a2)
def ref01_All_k2 (a7 : Int × Int) (ag6 : (Int × Int) → Option (Int)) (a11 : Bool) : Option (Int) :=
  if a11 = true then (ck (0 ≤ (wI .u64 a7.2)) (ag6 ((bOr .u32 a7.1 (bShl .u32 (1 : Int) (wI .u64 a7.2))), (wI .i64 (a7.2 + (1 : Int)))))) else (ref01_All_k1  (a7.1))
def ref01_All_s1 (p0 : Int) (a7 : Int × Int) (ag6 : (Int × Int) → Option (Int)) : Option (Int) :=
  if a7.2 < p0 then (ref01_All_k2 a7 ag6 (decide (a7.2 < (32 : Int)))) else (ref01_All_k2 a7 ag6 (false))
def m_ref01_All (fuel : Nat) (p0 : Int) : Option (Int) :=
  iter (ref01_All_s1 p0) fuel ((0 : Int), (0 : Int))

theorem body43 : HasBody Try.prog 43 := Try.call43

set_option maxHeartbeats 4000000 in
set_option maxRecDepth 20000 in
theorem t_ref01_All (fuel : Nat) {p0 : Int} (r : Int) (h : m_ref01_All fuel p0 = some r) :
    Meets Try.prog 43 #[Value.int .i64 (p0)] [] (fun x : Unit => Value.int .u32 (r)) (fun x l => l) (fun _ l => l) := by
  refine Meets.of (vs := [Value.int .i64 (p0)]) Try.func43 rfl Try.ntmps43 rfl fun c => ?_
  unfold m_ref01_All at h
  refine J.seq ?_
  refine J.region ?_
  refine J.quiet (Y.assign rfl) rfl ?_
  refine J.done ?_
  refine J.thenN ?_
  refine J.seq ?_
  refine J.region ?_
  refine J.quiet (Y.assign rfl) rfl ?_
  refine J.done ?_
  refine J.thenN ?_
  refine J.seq ?_
  refine J.midI (A := Int) (B := Unit) (fun a2 => ref01_All_k1  a2 = some r) (fun a2 b3 => [(3, Value.int .u32 (a2))]) (fun a2 b3 => []) (fun a2 b3 => []) ?_ ?_
  · refine J.seq ?_
    refine J.region ?_
    refine J.quiet (Y.assign rfl) rfl ?_
    refine J.done ?_
    refine J.thenN ?_
    refine J.block ?_
    refine J.loopI (A := Int × Int) (B := Unit) (ref01_All_s1 p0) (fun a7 b8 => [(0, Value.int .i64 (p0)), (3, Value.int .u32 (a7.1)), (4, Value.int .i64 (a7.2))]) (fun a7 b8 => []) (fun a7 b8 => []) ((0 : Int), (0 : Int)) (()) h (by repeat (first | exact SubF.nil | refine SubF.cons rfl ?_)) (SubM.refl _) (LentAll.refl _ _) ?_
    clear h
    intro k9 a7 b8 h
    unfold ref01_All_s1 at h
    refine J.seq ?_
    refine J.seq ?_
    refine J.midI (A := Bool) (B := Unit) (fun a11 => ref01_All_k2 a7 (iter (ref01_All_s1 p0) k9) a11 = some r) (fun a11 b12 => [(0, Value.int .i64 (p0)), (3, Value.int .u32 (a7.1)), (4, Value.int .i64 (a7.2)), (11, Value.bool (a11))]) (fun a11 b12 => []) (fun a11 b12 => []) ?_ ?_
    · refine J.region ?_
      refine J.quiet (Y.move rfl) rfl ?_
      refine J.quiet (Y.move rfl) rfl ?_
      refine J.quiet (Y.lss rfl rfl) rfl ?_
      refine J.quiet (Y.move rfl) rfl ?_
      refine J.guardD (by exact rfl) (by exact rfl) (fun hp15 => ?_) (fun hp15 => ?_)
      · replace h := ifP hp15 h
        refine J.guardY rfl (Y.move rfl) rfl ?_
        refine J.guardY rfl (Y.lss rfl rfl) rfl ?_
        refine J.quiet (Y.pickT rfl rfl) rfl ?_
        refine J.done ?_
        refine J.thenN ?_
        exact J.meetI (decide (a7.2 < (32 : Int))) (()) h (by repeat (first | exact SubF.nil | refine SubF.cons rfl ?_)) (SubM.refl _) (LentAll.refl _ _)
      · replace h := ifN hp15 h
        refine J.guardN rfl rfl rfl ?_
        refine J.guardN rfl rfl rfl ?_
        refine J.quiet (Y.pickF rfl rfl) rfl ?_
        refine J.done ?_
        refine J.thenN ?_
        exact J.meetI (false) (()) h (by repeat (first | exact SubF.nil | refine SubF.cons rfl ?_)) (SubM.refl _) (LentAll.refl _ _)
    · clear h
      intro a11 b12 h
      unfold ref01_All_k2 at h
      refine J.cond (by exact rfl) (fun hp13 => ?_) (fun hp13 => ?_)
      · replace h := ifP hp13 h
        refine J.skip ?_
        refine J.thenN ?_
        refine J.seq ?_
        refine J.block ?_
        refine J.region ?_
        refine J.quiet (Y.move rfl) rfl ?_
        refine J.quiet (Y.move rfl) rfl ?_
        refine J.quiet (Y.conv rfl rfl rfl) rfl ?_
        replace h := ck_some h; obtain ⟨hc14, h⟩ := h
        refine J.quiet (Y.shl rfl rfl hc14) rfl ?_
        refine J.quiet (Y.or rfl rfl) rfl ?_
        refine J.quiet (Y.assign rfl) rfl ?_
        refine J.done ?_
        refine J.inN ?_
        refine J.thenN ?_
        refine J.region ?_
        refine J.quiet (Y.move rfl) rfl ?_
        refine J.quiet (Y.addW rfl rfl) rfl ?_
        refine J.quiet (Y.assign rfl) rfl ?_
        refine J.done ?_
        refine J.thenN ?_
        exact J.againI ((bOr .u32 a7.1 (bShl .u32 (1 : Int) (wI .u64 a7.2))), (wI .i64 (a7.2 + (1 : Int)))) (()) h (by repeat (first | exact SubF.nil | refine SubF.cons rfl ?_)) (SubM.refl _) (LentAll.refl _ _)
      · replace h := ifBN hp13 h
        refine J.exit ?_
        refine J.thenX ?_
        refine J.thenX ?_
        refine J.inX ?_
        refine J.thenN ?_
        exact J.meetI (a7.1) (()) h (by repeat (first | exact SubF.nil | refine SubF.cons rfl ?_)) (SubM.refl _) (LentAll.refl _ _)
  · clear h
    intro a2 b3 h
    unfold ref01_All_k1 at h
    refine J.seq ?_
    refine J.region ?_
    refine J.quiet (Y.move rfl) rfl ?_
    refine J.quiet (Y.assign rfl) rfl ?_
    refine J.done ?_
    refine J.thenN ?_
    refine J.ret ?_
    obtain rfl := Option.some.inj h
    exact J.retG1 (()) rfl rfl (RV.tmp rfl) (SubM.refl _) LentAll.nil

end Go.Proofs.Ytemhmmcakmidkaa
