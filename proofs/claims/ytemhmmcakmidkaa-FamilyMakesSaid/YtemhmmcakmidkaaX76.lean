/- The model of family.Star$1 and the proof that the function meets it, by program (gen/xt.py). Conditions: none. -/
import Derived.Test.YtemhmmcakmidkaaXp
namespace Go.Proofs.Ytemhmmcakmidkaa
open Go.Sx

def m_family_Star_1 (fuel : Nat) (p0 : Int) (p1 : Int) : Option (Bool) :=
  some (decide (p0 = (0 : Int)))

theorem body76 : HasBody Try.prog 76 := Try.call76

set_option maxHeartbeats 4000000 in
set_option maxRecDepth 20000 in
theorem t_family_Star_1 (fuel : Nat) {p0 : Int} {p1 : Int} (r : Bool) (h : m_family_Star_1 fuel p0 p1 = some r) :
    Meets Try.prog 76 #[Value.int .i64 (p0), Value.int .i64 (p1)] [] (fun x : Unit => Value.bool (r)) (fun x l => l) (fun _ l => l) := by
  refine Meets.of (vs := [Value.int .i64 (p0), Value.int .i64 (p1)]) Try.func76 rfl Try.ntmps76 rfl fun c => ?_
  unfold m_family_Star_1 at h
  refine J.seq ?_
  refine J.region ?_
  refine J.quiet (Y.assign rfl) rfl ?_
  refine J.done ?_
  refine J.thenN ?_
  refine J.seq ?_
  refine J.region ?_
  refine J.quiet (Y.move rfl) rfl ?_
  refine J.quiet (Y.eql rfl rfl) rfl ?_
  refine J.quiet (Y.assign rfl) rfl ?_
  refine J.done ?_
  refine J.thenN ?_
  refine J.ret ?_
  obtain rfl := Option.some.inj h
  exact J.retG1 (()) rfl rfl (RV.tmp rfl) (SubM.refl _) LentAll.nil

end Go.Proofs.Ytemhmmcakmidkaa
