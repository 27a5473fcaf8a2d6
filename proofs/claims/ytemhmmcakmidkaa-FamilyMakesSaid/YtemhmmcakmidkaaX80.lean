/- The model of family.FromParents$1 and the proof that the function meets it, by program (gen/xt.py). Conditions: none. -/
import Derived.Test.YtemhmmcakmidkaaXp
namespace Go.Proofs.Ytemhmmcakmidkaa
open Go.Sx

def m_family_FromParents_1 (fuel : Nat) (p0 : Int) (p1 : Int) (p2 : List (Int)) : Option (Bool) :=
  ck (0 ≤ p1 ∧ p1 < (List.length p2 : Int)) (some (decide ((at' p2 p1) = p0)))

theorem body80 : HasBody Try.prog 80 := Try.call80

set_option maxHeartbeats 4000000 in
set_option maxRecDepth 20000 in
theorem t_family_FromParents_1 (fuel : Nat) {p0 : Int} {p1 : Int} {p2 : List (Int)} (bx2 : Nat)  (v1 : Value) (r : Bool) (h : m_family_FromParents_1 fuel p0 p1 p2 = some r) :
    Meets Try.prog 80 #[Value.int .i64 (p0), Value.int .i64 (p1), Value.pointer (some ⟨bx2, 0, none⟩)] [Blk bx2 [v1] 22, Sl RI64 v1 p2] (fun x : Unit => Value.bool (r)) (fun x l => l) (fun _ l => l) := by
  refine Meets.of (vs := [Value.int .i64 (p0), Value.int .i64 (p1), Value.pointer (some ⟨bx2, 0, none⟩)]) Try.func80 rfl Try.ntmps80 rfl fun c => ?_
  unfold m_family_FromParents_1 at h
  refine J.seq ?_
  refine J.region ?_
  refine J.quiet (Y.assign rfl) rfl ?_
  refine J.done ?_
  refine J.thenN ?_
  refine J.seq ?_
  refine J.region ?_
  refine J.quiet (Y.loadBS rfl (Lent.fact 0 rfl) rfl rfl rfl) rfl ?_
  refine J.quiet (Y.move rfl) rfl ?_
  replace h := ck_some h; obtain ⟨hc1, h⟩ := h
  refine J.quiet (Y.indexS rfl rfl (Lent.fact 1 rfl) rfl rfl hc1) rfl ?_
  refine J.quiet (Y.loadS0 rfl (Lent.fact 1 rfl) rfl rfl rfl RI64c0 hc1) rfl ?_
  refine J.quiet (Y.move rfl) rfl ?_
  refine J.quiet (Y.eql rfl rfl) rfl ?_
  refine J.quiet (Y.assign rfl) rfl ?_
  refine J.done ?_
  refine J.thenN ?_
  refine J.ret ?_
  obtain rfl := Option.some.inj h
  exact J.retG1 (()) rfl rfl (RV.tmp rfl) (SubM.refl _) LentAll.nil

end Go.Proofs.Ytemhmmcakmidkaa
