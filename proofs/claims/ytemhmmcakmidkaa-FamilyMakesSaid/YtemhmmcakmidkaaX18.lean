/- The model of selfstablaw03.awake and the proof that the function meets it, by program (gen/xt.py). Conditions: none. -/
import Derived.Test.YtemhmmcakmidkaaX19
namespace Go.Proofs.Ytemhmmcakmidkaa
open Go.Sx

def law03_awake_k1  (a8 : Bool) : Option (Bool) :=
  some (a8)
def m_law03_awake (fuel : Nat)  : Option (Bool) :=
  Option.bind (m_family_Ring fuel (3 : Int)) fun r1 => (if r1.2 = (0 : Int) then (if (List.length r1.1.2 : Int) = (3 : Int) then (ck (0 ≤ (0 : Int) ∧ (0 : Int) < (List.length r1.1.2 : Int)) (if (List.length (at' r1.1.2 (0 : Int)) : Int) = (2 : Int) then (ck (0 ≤ (0 : Int) ∧ (0 : Int) < (List.length r1.1.2 : Int)) (ck (0 ≤ (0 : Int) ∧ (0 : Int) < (List.length (at' r1.1.2 (0 : Int)) : Int)) (if ((at' (at' r1.1.2 (0 : Int)) (0 : Int)).1) = (2 : Int) then (ck (0 ≤ (0 : Int) ∧ (0 : Int) < (List.length r1.1.2 : Int)) (ck (0 ≤ (1 : Int) ∧ (1 : Int) < (List.length (at' r1.1.2 (0 : Int)) : Int)) (law03_awake_k1  (decide (((at' (at' r1.1.2 (0 : Int)) (1 : Int)).1) = (1 : Int)))))) else (law03_awake_k1  (false))))) else (law03_awake_k1  (false)))) else (law03_awake_k1  (false))) else (law03_awake_k1  (false)))

theorem body18 : HasBody Try.prog 18 := Try.call18

set_option maxHeartbeats 4000000 in
set_option maxRecDepth 20000 in
theorem t_law03_awake (fuel : Nat)  (r : Bool) (h : m_law03_awake fuel  = some r) :
    Meets Try.prog 18 #[] [] (fun x : Unit => Value.bool (r)) (fun x l => l) (fun _ l => l) := by
  refine Meets.of (vs := []) Try.func18 rfl Try.ntmps18 rfl fun c => ?_
  unfold m_law03_awake at h
  refine J.seq ?_
  refine J.region ?_
  refine J.quiet (Y.assign rfl) rfl ?_
  refine J.done ?_
  refine J.thenN ?_
  refine J.seq ?_
  refine J.region ?_
  replace h := bnd h; obtain ⟨r1, hr2, h⟩ := h
  refine J.loud (Loud.callL body19 (t_family_Ring fuel  r1 hr2) rfl (LentAll.nil) (fun _ _ => rfl)) rfl fun x3 => ?_
  refine J.quiet (Y.move rfl) rfl ?_
  refine J.quiet (Y.extract rfl rfl) rfl ?_
  refine J.quiet (Y.extract rfl rfl) rfl ?_
  refine J.loud (Loud.alloc (cs := [Value.slice none 0 0, Value.slice none 0 0]) rfl rfl) rfl fun b4 => ?_
  refine J.know (Know.one ((Lent.ar (Lent.res 1 rfl) FI64))) fun ho5 => ?_
  refine J.know (Know.one (Lent.sl (Lent.rows (i := 2) (j := 3) rfl rfl FI64I64p))) fun ho6 => ?_
  refine J.storeAll 0 (vs := [x3.1, x3.2.1]) rfl rfl (all1 ho5 (all1 ho6 rfl)) rfl rfl rfl ?_
  refine J.quiet (Y.assign rfl) rfl ?_
  refine J.done ?_
  refine J.thenN ?_
  refine J.seq ?_
  refine J.midI (A := Bool) (B := Unit) (fun a8 => law03_awake_k1  a8 = some r) (fun a8 b9 => [(0, Value.bool (a8))]) (fun a8 b9 => []) (fun a8 b9 => []) ?_ ?_
  · refine J.region ?_
    refine J.quiet (Y.move rfl) rfl ?_
    refine J.quiet (Y.eql rfl rfl) rfl ?_
    refine J.quiet (Y.move rfl) rfl ?_
    refine J.guardD (by exact rfl) (by exact rfl) (fun hp10 => ?_) (fun hp10 => ?_)
    · replace h := ifP hp10 h
      refine J.guardY rfl (Y.fieldB rfl rfl rfl rfl rfl) rfl ?_
      refine J.guardY rfl (Y.loadB 0 rfl rfl rfl rfl rfl) rfl ?_
      refine J.guardY rfl (Y.lenN rfl (Lent.rows (i := 2) (j := 3) rfl rfl FI64I64p) rfl) rfl ?_
      refine J.guardY rfl (Y.eql rfl rfl) rfl ?_
      refine J.quiet (Y.pickT rfl rfl) rfl ?_
      refine J.quiet (Y.move rfl) rfl ?_
      refine J.guardD (by exact rfl) (by exact rfl) (fun hp11 => ?_) (fun hp11 => ?_)
      · replace h := ifP hp11 h
        refine J.guardY rfl (Y.fieldB rfl rfl rfl rfl rfl) rfl ?_
        refine J.guardY rfl (Y.loadB 0 rfl rfl rfl rfl rfl) rfl ?_
        replace h := ck_some h; obtain ⟨hc12, h⟩ := h
        refine J.guardY rfl (Y.indexN rfl rfl (Lent.rows (i := 2) (j := 3) rfl rfl FI64I64p) rfl rfl hc12) rfl ?_
        refine J.know (Know.rws 3 rfl) fun hl13 => ?_
        refine J.guardY rfl (Y.loadRaw 2 rfl rfl hl13 rfl rfl hc12) rfl ?_
        refine J.guardY rfl (Y.lenS rfl (Lent.row (j := 3) rfl FI64I64p hc12.1 hc12.2) rfl) rfl ?_
        refine J.guardY rfl (Y.eql rfl rfl) rfl ?_
        refine J.quiet (Y.pickT rfl rfl) rfl ?_
        refine J.quiet (Y.move rfl) rfl ?_
        refine J.guardD (by exact rfl) (by exact rfl) (fun hp14 => ?_) (fun hp14 => ?_)
        · replace h := ifP hp14 h
          refine J.guardY rfl (Y.fieldB rfl rfl rfl rfl rfl) rfl ?_
          refine J.guardY rfl (Y.loadB 0 rfl rfl rfl rfl rfl) rfl ?_
          replace h := ck_some h; obtain ⟨hc15, h⟩ := h
          refine J.guardY rfl (Y.indexN rfl rfl (Lent.rows (i := 2) (j := 3) rfl rfl FI64I64p) rfl rfl hc15) rfl ?_
          refine J.know (Know.rws 3 rfl) fun hl16 => ?_
          refine J.guardY rfl (Y.loadRaw 2 rfl rfl hl16 rfl rfl hc15) rfl ?_
          replace h := ck_some h; obtain ⟨hc17, h⟩ := h
          refine J.guardY rfl (Y.indexS rfl rfl (Lent.row (j := 3) rfl FI64I64p hc15.1 hc15.2) rfl rfl hc17) rfl ?_
          refine J.guardY rfl (Y.fieldEl rfl rfl rfl rfl rfl) rfl ?_
          refine J.guardY rfl (Y.loadS rfl (Lent.row (j := 3) rfl FI64I64p hc15.1 hc15.2) rfl rfl rfl RI64I64pc0 hc17) rfl ?_
          refine J.guardY rfl (Y.eql rfl rfl) rfl ?_
          refine J.quiet (Y.pickT rfl rfl) rfl ?_
          refine J.quiet (Y.move rfl) rfl ?_
          refine J.guardD (by exact rfl) (by exact rfl) (fun hp18 => ?_) (fun hp18 => ?_)
          · replace h := ifP hp18 h
            refine J.guardY rfl (Y.fieldB rfl rfl rfl rfl rfl) rfl ?_
            refine J.guardY rfl (Y.loadB 0 rfl rfl rfl rfl rfl) rfl ?_
            replace h := ck_some h; obtain ⟨hc19, h⟩ := h
            refine J.guardY rfl (Y.indexN rfl rfl (Lent.rows (i := 2) (j := 3) rfl rfl FI64I64p) rfl rfl hc19) rfl ?_
            refine J.know (Know.rws 3 rfl) fun hl20 => ?_
            refine J.guardY rfl (Y.loadRaw 2 rfl rfl hl20 rfl rfl hc19) rfl ?_
            replace h := ck_some h; obtain ⟨hc21, h⟩ := h
            refine J.guardY rfl (Y.indexS rfl rfl (Lent.row (j := 3) rfl FI64I64p hc19.1 hc19.2) rfl rfl hc21) rfl ?_
            refine J.guardY rfl (Y.fieldEl rfl rfl rfl rfl rfl) rfl ?_
            refine J.guardY rfl (Y.loadS rfl (Lent.row (j := 3) rfl FI64I64p hc19.1 hc19.2) rfl rfl rfl RI64I64pc0 hc21) rfl ?_
            refine J.guardY rfl (Y.eql rfl rfl) rfl ?_
            refine J.quiet (Y.pickT rfl rfl) rfl ?_
            refine J.quiet (Y.assign rfl) rfl ?_
            refine J.done ?_
            refine J.thenN ?_
            exact J.meetI (decide (((at' (at' r1.1.2 (0 : Int)) (1 : Int)).1) = (1 : Int))) (()) h (by repeat (first | exact SubF.nil | refine SubF.cons rfl ?_)) (SubM.nil) (LentAll.refl _ _)
          · replace h := ifN hp18 h
            refine J.guardN rfl rfl rfl ?_
            refine J.guardN rfl rfl rfl ?_
            refine J.guardN rfl rfl rfl ?_
            refine J.guardN rfl rfl rfl ?_
            refine J.guardN rfl rfl rfl ?_
            refine J.guardN rfl rfl rfl ?_
            refine J.guardN rfl rfl rfl ?_
            refine J.guardN rfl rfl rfl ?_
            refine J.quiet (Y.pickF rfl rfl) rfl ?_
            refine J.quiet (Y.assign rfl) rfl ?_
            refine J.done ?_
            refine J.thenN ?_
            exact J.meetI (false) (()) h (by repeat (first | exact SubF.nil | refine SubF.cons rfl ?_)) (SubM.nil) (LentAll.refl _ _)
        · replace h := ifN hp14 h
          refine J.guardN rfl rfl rfl ?_
          refine J.guardN rfl rfl rfl ?_
          refine J.guardN rfl rfl rfl ?_
          refine J.guardN rfl rfl rfl ?_
          refine J.guardN rfl rfl rfl ?_
          refine J.guardN rfl rfl rfl ?_
          refine J.guardN rfl rfl rfl ?_
          refine J.guardN rfl rfl rfl ?_
          refine J.quiet (Y.pickF rfl rfl) rfl ?_
          refine J.quiet (Y.move rfl) rfl ?_
          refine J.guardN rfl rfl rfl ?_
          refine J.guardN rfl rfl rfl ?_
          refine J.guardN rfl rfl rfl ?_
          refine J.guardN rfl rfl rfl ?_
          refine J.guardN rfl rfl rfl ?_
          refine J.guardN rfl rfl rfl ?_
          refine J.guardN rfl rfl rfl ?_
          refine J.guardN rfl rfl rfl ?_
          refine J.quiet (Y.pickF rfl rfl) rfl ?_
          refine J.quiet (Y.assign rfl) rfl ?_
          refine J.done ?_
          refine J.thenN ?_
          exact J.meetI (false) (()) h (by repeat (first | exact SubF.nil | refine SubF.cons rfl ?_)) (SubM.nil) (LentAll.refl _ _)
      · replace h := ifN hp11 h
        refine J.guardN rfl rfl rfl ?_
        refine J.guardN rfl rfl rfl ?_
        refine J.guardN rfl rfl rfl ?_
        refine J.guardN rfl rfl rfl ?_
        refine J.guardN rfl rfl rfl ?_
        refine J.guardN rfl rfl rfl ?_
        refine J.quiet (Y.pickF rfl rfl) rfl ?_
        refine J.quiet (Y.move rfl) rfl ?_
        refine J.guardN rfl rfl rfl ?_
        refine J.guardN rfl rfl rfl ?_
        refine J.guardN rfl rfl rfl ?_
        refine J.guardN rfl rfl rfl ?_
        refine J.guardN rfl rfl rfl ?_
        refine J.guardN rfl rfl rfl ?_
        refine J.guardN rfl rfl rfl ?_
        refine J.guardN rfl rfl rfl ?_
        refine J.quiet (Y.pickF rfl rfl) rfl ?_
        refine J.quiet (Y.move rfl) rfl ?_
        refine J.guardN rfl rfl rfl ?_
        refine J.guardN rfl rfl rfl ?_
        refine J.guardN rfl rfl rfl ?_
        refine J.guardN rfl rfl rfl ?_
        refine J.guardN rfl rfl rfl ?_
        refine J.guardN rfl rfl rfl ?_
        refine J.guardN rfl rfl rfl ?_
        refine J.guardN rfl rfl rfl ?_
        refine J.quiet (Y.pickF rfl rfl) rfl ?_
        refine J.quiet (Y.assign rfl) rfl ?_
        refine J.done ?_
        refine J.thenN ?_
        exact J.meetI (false) (()) h (by repeat (first | exact SubF.nil | refine SubF.cons rfl ?_)) (SubM.nil) (LentAll.refl _ _)
    · replace h := ifN hp10 h
      refine J.guardN rfl rfl rfl ?_
      refine J.guardN rfl rfl rfl ?_
      refine J.guardN rfl rfl rfl ?_
      refine J.guardN rfl rfl rfl ?_
      refine J.quiet (Y.pickF rfl rfl) rfl ?_
      refine J.quiet (Y.move rfl) rfl ?_
      refine J.guardN rfl rfl rfl ?_
      refine J.guardN rfl rfl rfl ?_
      refine J.guardN rfl rfl rfl ?_
      refine J.guardN rfl rfl rfl ?_
      refine J.guardN rfl rfl rfl ?_
      refine J.guardN rfl rfl rfl ?_
      refine J.quiet (Y.pickF rfl rfl) rfl ?_
      refine J.quiet (Y.move rfl) rfl ?_
      refine J.guardN rfl rfl rfl ?_
      refine J.guardN rfl rfl rfl ?_
      refine J.guardN rfl rfl rfl ?_
      refine J.guardN rfl rfl rfl ?_
      refine J.guardN rfl rfl rfl ?_
      refine J.guardN rfl rfl rfl ?_
      refine J.guardN rfl rfl rfl ?_
      refine J.guardN rfl rfl rfl ?_
      refine J.quiet (Y.pickF rfl rfl) rfl ?_
      refine J.quiet (Y.move rfl) rfl ?_
      refine J.guardN rfl rfl rfl ?_
      refine J.guardN rfl rfl rfl ?_
      refine J.guardN rfl rfl rfl ?_
      refine J.guardN rfl rfl rfl ?_
      refine J.guardN rfl rfl rfl ?_
      refine J.guardN rfl rfl rfl ?_
      refine J.guardN rfl rfl rfl ?_
      refine J.guardN rfl rfl rfl ?_
      refine J.quiet (Y.pickF rfl rfl) rfl ?_
      refine J.quiet (Y.assign rfl) rfl ?_
      refine J.done ?_
      refine J.thenN ?_
      exact J.meetI (false) (()) h (by repeat (first | exact SubF.nil | refine SubF.cons rfl ?_)) (SubM.nil) (LentAll.refl _ _)
  · clear h
    intro a8 b9 h
    unfold law03_awake_k1 at h
    refine J.ret ?_
    obtain rfl := Option.some.inj h
    exact J.retG1 (()) rfl rfl (RV.tmp rfl) (SubM.refl _) LentAll.nil

end Go.Proofs.Ytemhmmcakmidkaa
