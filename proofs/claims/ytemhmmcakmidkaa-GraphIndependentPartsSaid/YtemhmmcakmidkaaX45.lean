/- The model of selfstabref01.Has and the proof that the function meets it, by program (gen/xt.py). Conditions: none. -/
import Derived.Test.YtemhmmcakmidkaaXp
namespace Go.Proofs.Ytemhmmcakmidkaa
open Go.Sx
set_option linter.unusedVariables false
set_option linter.unusedSimpArgs false

def ref01_Has_k1  (a2 : Bool) : Option (Bool) :=
  some (a2)
def m_ref01_Has (fuel : Nat) (p0 : Int) (p1 : Int) : Option (Bool) :=
  if (0 : Int) ≤ p1 then (if p1 < (32 : Int) then (ck (0 ≤ (wI .u64 p1)) (ref01_Has_k1  (decide ((bAnd .u32 (bShr .u32 p0 (wI .u64 p1)) (1 : Int)) = (1 : Int))))) else (ref01_Has_k1  (false))) else (ref01_Has_k1  (false))

theorem body45 : HasBody Try.prog 45 := Try.call45

set_option maxHeartbeats 4000000 in
set_option maxRecDepth 20000 in
theorem t_ref01_Has (fuel : Nat) {p0 : Int} {p1 : Int} (r : Bool) (h : m_ref01_Has fuel p0 p1 = some r) :
    Meets Try.prog 45 #[Value.int .u32 (p0), Value.int .i64 (p1)] [] (fun x : Unit => Value.bool (r)) (fun x l => l) (fun _ l => l) := by
  refine Meets.of (vs := [Value.int .u32 (p0), Value.int .i64 (p1)]) Try.func45 rfl Try.ntmps45 rfl fun c => ?_
  unfold m_ref01_Has at h
  refine J.seq ?_
  refine J.region ?_
  refine J.quiet (Y.assign rfl) rfl ?_
  refine J.done ?_
  refine J.thenN ?_
  refine J.seq ?_
  refine J.midI (A := Bool) (B := Unit) (fun a2 => ref01_Has_k1  a2 = some r) (fun a2 b3 => [(4, Value.bool (a2))]) (fun a2 b3 => []) (fun a2 b3 => []) ?_ ?_
  · refine J.region ?_
    refine J.quiet (Y.move rfl) rfl ?_
    refine J.quiet (Y.geq rfl rfl) rfl ?_
    refine J.quiet (Y.move rfl) rfl ?_
    refine J.guardD (by exact rfl) (by exact rfl) (fun hp4 => ?_) (fun hp4 => ?_)
    · replace h := ifP hp4 h
      refine J.guardY rfl (Y.move rfl) rfl ?_
      refine J.guardY rfl (Y.lss rfl rfl) rfl ?_
      refine J.quiet (Y.pickT rfl rfl) rfl ?_
      refine J.quiet (Y.move rfl) rfl ?_
      refine J.guardD (by exact rfl) (by exact rfl) (fun hp5 => ?_) (fun hp5 => ?_)
      · replace h := ifP hp5 h
        refine J.guardY rfl (Y.move rfl) rfl ?_
        refine J.guardY rfl (Y.move rfl) rfl ?_
        refine J.guardY rfl (Y.conv rfl rfl rfl) rfl ?_
        replace h := ck_some h; obtain ⟨hc6, h⟩ := h
        refine J.guardY rfl (Y.shr rfl rfl hc6) rfl ?_
        refine J.guardY rfl (Y.and rfl rfl) rfl ?_
        refine J.guardY rfl (Y.eql rfl rfl) rfl ?_
        refine J.quiet (Y.pickT rfl rfl) rfl ?_
        refine J.quiet (Y.assign rfl) rfl ?_
        refine J.done ?_
        refine J.thenN ?_
        exact J.meetI (decide ((bAnd .u32 (bShr .u32 p0 (wI .u64 p1)) (1 : Int)) = (1 : Int))) (()) h (by repeat (first | exact SubF.nil | refine SubF.cons rfl ?_)) (SubM.refl _) (LentAll.refl _ _)
      · replace h := ifN hp5 h
        refine J.guardN rfl rfl rfl ?_
        refine J.guardN rfl rfl rfl ?_
        refine J.guardN rfl rfl rfl ?_
        refine J.guardN rfl rfl rfl ?_
        refine J.guardN rfl rfl rfl ?_
        refine J.guardN rfl rfl rfl ?_
        refine J.quiet (Y.pickF rfl rfl) rfl ?_
        refine J.quiet (Y.assign rfl) rfl ?_
        refine J.done ?_
        refine J.thenN ?_
        exact J.meetI (false) (()) h (by repeat (first | exact SubF.nil | refine SubF.cons rfl ?_)) (SubM.refl _) (LentAll.refl _ _)
    · replace h := ifN hp4 h
      refine J.guardN rfl rfl rfl ?_
      refine J.guardN rfl rfl rfl ?_
      refine J.quiet (Y.pickF rfl rfl) rfl ?_
      refine J.quiet (Y.move rfl) rfl ?_
      refine J.guardN rfl rfl rfl ?_
      refine J.guardN rfl rfl rfl ?_
      refine J.guardN rfl rfl rfl ?_
      refine J.guardN rfl rfl rfl ?_
      refine J.guardN rfl rfl rfl ?_
      refine J.guardN rfl rfl rfl ?_
      refine J.quiet (Y.pickF rfl rfl) rfl ?_
      refine J.quiet (Y.assign rfl) rfl ?_
      refine J.done ?_
      refine J.thenN ?_
      exact J.meetI (false) (()) h (by repeat (first | exact SubF.nil | refine SubF.cons rfl ?_)) (SubM.refl _) (LentAll.refl _ _)
  · clear h
    intro a2 b3 h
    unfold ref01_Has_k1 at h
    refine J.ret ?_
    obtain rfl := Option.some.inj h
    exact J.retG1 (()) rfl rfl (RV.tmp rfl) (SubM.refl _) LentAll.nil

end Go.Proofs.Ytemhmmcakmidkaa
