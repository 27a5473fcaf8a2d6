/- The model of selfstabref01.In and the proof that the function meets it, by program (gen/xt.py). Conditions: none. -/
import Derived.Test.YtemhmmcakmidkaaXp
namespace Go.Proofs.Ytemhmmcakmidkaa
open Go.Sx
set_option linter.unusedVariables false
set_option linter.unusedSimpArgs false

def ref01_In_k1  (a2 : Bool) : Option (Bool) :=
  some (a2)
def m_ref01_In (fuel : Nat) (p0 : Int) (p1 : Int) (p2 : Int) : Option (Bool) :=
  if p1 ≤ p0 then (ref01_In_k1  (decide (p0 ≤ p2))) else (ref01_In_k1  (false))

theorem body72 : HasBody Try.prog 72 := Try.call72

set_option maxHeartbeats 4000000 in
set_option maxRecDepth 20000 in
theorem t_ref01_In (fuel : Nat) {p0 : Int} {p1 : Int} {p2 : Int} (r : Bool) (h : m_ref01_In fuel p0 p1 p2 = some r) :
    Meets Try.prog 72 #[Value.int .i64 (p0), Value.int .i64 (p1), Value.int .i64 (p2)] [] (fun x : Unit => Value.bool (r)) (fun x l => l) (fun _ l => l) := by
  refine Meets.of (vs := [Value.int .i64 (p0), Value.int .i64 (p1), Value.int .i64 (p2)]) Try.func72 rfl Try.ntmps72 rfl fun c => ?_
  unfold m_ref01_In at h
  refine J.seq ?_
  refine J.region ?_
  refine J.quiet (Y.assign rfl) rfl ?_
  refine J.done ?_
  refine J.thenN ?_
  refine J.seq ?_
  refine J.midI (A := Bool) (B := Unit) (fun a2 => ref01_In_k1  a2 = some r) (fun a2 b3 => [(6, Value.bool (a2))]) (fun a2 b3 => []) (fun a2 b3 => []) ?_ ?_
  · refine J.region ?_
    refine J.quiet (Y.move rfl) rfl ?_
    refine J.quiet (Y.move rfl) rfl ?_
    refine J.quiet (Y.geq rfl rfl) rfl ?_
    refine J.quiet (Y.move rfl) rfl ?_
    refine J.guardD (by exact rfl) (by exact rfl) (fun hp4 => ?_) (fun hp4 => ?_)
    · replace h := ifP hp4 h
      refine J.guardY rfl (Y.move rfl) rfl ?_
      refine J.guardY rfl (Y.move rfl) rfl ?_
      refine J.guardY rfl (Y.leq rfl rfl) rfl ?_
      refine J.quiet (Y.pickT rfl rfl) rfl ?_
      refine J.quiet (Y.assign rfl) rfl ?_
      refine J.done ?_
      refine J.thenN ?_
      exact J.meetI (decide (p0 ≤ p2)) (()) h (by repeat (first | exact SubF.nil | refine SubF.cons rfl ?_)) (SubM.refl _) (LentAll.refl _ _)
    · replace h := ifN hp4 h
      refine J.guardN rfl rfl rfl ?_
      refine J.guardN rfl rfl rfl ?_
      refine J.guardN rfl rfl rfl ?_
      refine J.quiet (Y.pickF rfl rfl) rfl ?_
      refine J.quiet (Y.assign rfl) rfl ?_
      refine J.done ?_
      refine J.thenN ?_
      exact J.meetI (false) (()) h (by repeat (first | exact SubF.nil | refine SubF.cons rfl ?_)) (SubM.refl _) (LentAll.refl _ _)
  · clear h
    intro a2 b3 h
    unfold ref01_In_k1 at h
    refine J.ret ?_
    obtain rfl := Option.some.inj h
    exact J.retG1 (()) rfl rfl (RV.tmp rfl) (SubM.refl _) LentAll.nil

end Go.Proofs.Ytemhmmcakmidkaa
