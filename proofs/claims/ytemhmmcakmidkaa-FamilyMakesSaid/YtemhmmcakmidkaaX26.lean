/- The model of family.Complete and the proof that the function meets it, by program (gen/xt.py). Conditions: none. -/
import Derived.Test.YtemhmmcakmidkaaX74
import Derived.Test.YtemhmmcakmidkaaX77
namespace Go.Proofs.Ytemhmmcakmidkaa
open Go.Sx

def m_family_Complete (fuel : Nat) (p0 : Int) : Option ((List (Int) × (List (List (Int × Int)))) × Int) :=
  Option.bind (m_family_ofSize fuel p0 (fun y0 y1 => m_family_Complete_1 fuel y0 y1)) fun r2 => (some (((r2.1.1, r2.1.2)), r2.2))

theorem body26 : HasBody Try.prog 26 := Try.call26

set_option maxHeartbeats 4000000 in
set_option maxRecDepth 20000 in
theorem t_family_Complete (fuel : Nat) {p0 : Int} (r : (List (Int) × (List (List (Int × Int)))) × Int) (h : m_family_Complete fuel p0 = some r) :
    Meets Try.prog 26 #[Value.int .i64 (p0)] [] (fun x : Value × Value × List Value => Value.tuple #[Value.agg #[x.1, x.2.1], Value.int .i64 (r.2)]) (fun x l => Ar EI64 x.1 r.1.1 :: Ar Enc.raw x.2.1 x.2.2 :: Rws EI64I64p x.2.2 r.1.2 :: l) (fun _ l => l) := by
  refine Meets.of (vs := [Value.int .i64 (p0)]) Try.func26 rfl Try.ntmps26 rfl fun c => ?_
  unfold m_family_Complete at h
  refine J.seq ?_
  refine J.region ?_
  refine J.loud (Loud.alloc (cs := [Value.slice none 0 0, Value.slice none 0 0]) rfl rfl) rfl fun b1 => ?_
  refine J.quiet (Y.assign rfl) rfl ?_
  refine J.done ?_
  refine J.thenN ?_
  refine J.seq ?_
  refine J.region ?_
  refine J.quiet (Y.move rfl) rfl ?_
  replace h := bnd h; obtain ⟨r2, hr3, h⟩ := h
  refine J.loud (Loud.callL body74 (t_family_ofSize fuel 77 [] [] body77 (fun y0 y1 r h => t_family_Complete_1 fuel  r h) r2 hr3) rfl (LentAll.nil) (fun _ _ => rfl)) rfl fun x4 => ?_
  refine J.quiet (Y.extract rfl rfl) rfl ?_
  refine J.quiet (Y.extract rfl rfl) rfl ?_
  refine J.know (Know.one ((Lent.ar (Lent.res 0 rfl) FI64))) fun ho5 => ?_
  refine J.know (Know.one (Lent.sl (Lent.rows (i := 1) (j := 2) rfl rfl FI64I64p))) fun ho6 => ?_
  refine J.storeAll 3 (vs := [x4.1, x4.2.1]) rfl rfl (all1 ho5 (all1 ho6 rfl)) rfl rfl rfl ?_
  refine J.quiet (Y.assign rfl) rfl ?_
  refine J.done ?_
  refine J.thenN ?_
  refine J.ret ?_
  obtain rfl := Option.some.inj h
  exact J.retG2 (x4.1, x4.2.1, x4.2.2) rfl rfl (RV.cell 3 rfl rfl rfl rfl) (RV.tmp rfl) (SubM.cons 0 rfl (SubM.cons 0 rfl (SubM.cons 0 rfl (SubM.nil)))) LentAll.nil

end Go.Proofs.Ytemhmmcakmidkaa
