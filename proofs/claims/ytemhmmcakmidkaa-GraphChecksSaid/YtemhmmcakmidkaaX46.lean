/- The model of selfstabmade.LightGraph and the proof that the function meets it, by program (gen/xt.py). Conditions: none. -/
import Derived.Test.YtemhmmcakmidkaaXp
namespace Go.Proofs.Ytemhmmcakmidkaa
open Go.Sx
set_option linter.unusedVariables false
set_option linter.unusedSimpArgs false

def made_LightGraph_k2  (a6 : Unit) : Option (Bool) :=
  some (true)
def made_LightGraph_s1 (p0 : List (Int) × (List (List (Int × Int)))) (a10 : Int) (ag9 : (Int) → Option (Bool)) : Option (Bool) :=
  if a10 < (List.length p0.2 : Int) then (ck (0 ≤ a10 ∧ a10 < (List.length p0.2 : Int)) (if (30 : Int) < (List.length (at' p0.2 a10) : Int) then (some (false)) else (ag9 (wI .i64 (a10 + (1 : Int)))))) else (made_LightGraph_k2  (()))
def made_LightGraph_k1 (fuel : Nat) (p0 : List (Int) × (List (List (Int × Int)))) (a3 : Bool) : Option (Bool) :=
  if a3 = true then (some (false)) else (iter (made_LightGraph_s1 p0) fuel (0 : Int))
def m_made_LightGraph (fuel : Nat) (p0 : List (Int) × (List (List (Int × Int)))) : Option (Bool) :=
  if (30 : Int) < (List.length p0.1 : Int) then (made_LightGraph_k1 fuel p0 (true)) else (made_LightGraph_k1 fuel p0 (decide ((30 : Int) < (List.length p0.2 : Int))))

theorem body46 : HasBody Try.prog 46 := Try.call46

set_option maxHeartbeats 4000000 in
set_option maxRecDepth 20000 in
theorem t_made_LightGraph (fuel : Nat) {p0 : List (Int) × (List (List (Int × Int)))} (v0 : Value)  (v1 : Value)  (z2 : List (Value × List (Int × Int))) (r : Bool) (h : m_made_LightGraph fuel p0 = some r) :
    Meets Try.prog 46 #[Value.agg #[v0, v1]] [Sl RI64 v0 p0.1, S2 RI64I64p v1 z2 p0.2] (fun x : Unit => Value.bool (r)) (fun x l => l) (fun _ l => l) := by
  refine Meets.of (vs := [Value.agg #[v0, v1]]) Try.func46 rfl Try.ntmps46 rfl fun c => ?_
  unfold m_made_LightGraph at h
  refine J.seq ?_
  refine J.region ?_
  refine J.loud (Loud.box (cs := [v0, v1]) rfl rfl) rfl fun b1 => ?_
  refine J.quiet (Y.assign rfl) rfl ?_
  refine J.done ?_
  refine J.thenN ?_
  refine J.seq ?_
  refine J.seq ?_
  refine J.midI (A := Bool) (B := Unit) (fun a3 => made_LightGraph_k1 fuel p0 a3 = some r) (fun a3 b4 => [(1, Value.pointer (some ⟨b1, 0, none⟩)), (13, Value.bool (a3))]) (fun a3 b4 => [Blk b1 [v0, v1] 26]) (fun a3 b4 => [Sl RI64 v0 p0.1, S2 RI64I64p v1 z2 p0.2]) ?_ ?_
  · refine J.region ?_
    refine J.quiet (Y.fieldB rfl rfl rfl rfl rfl) rfl ?_
    refine J.quiet (Y.loadB 0 rfl rfl rfl rfl rfl) rfl ?_
    refine J.quiet (Y.lenS rfl (Lent.fact 0 rfl) rfl) rfl ?_
    refine J.quiet (Y.gtr rfl rfl) rfl ?_
    refine J.quiet (Y.move rfl) rfl ?_
    refine J.guardD (by exact rfl) (by exact rfl) (fun hp16 => ?_) (fun hp16 => ?_)
    · replace h := ifP hp16 h
      refine J.guardN rfl rfl rfl ?_
      refine J.guardN rfl rfl rfl ?_
      refine J.guardN rfl rfl rfl ?_
      refine J.guardN rfl rfl rfl ?_
      refine J.quiet (Y.pickT rfl rfl) rfl ?_
      refine J.done ?_
      refine J.thenN ?_
      exact J.meetI (true) (()) h (by repeat (first | exact SubF.nil | refine SubF.cons rfl ?_)) (SubM.refl _) (LentAll.refl _ _)
    · replace h := ifN hp16 h
      refine J.guardY rfl (Y.fieldB rfl rfl rfl rfl rfl) rfl ?_
      refine J.guardY rfl (Y.loadB 0 rfl rfl rfl rfl rfl) rfl ?_
      refine J.guardY rfl (Y.lenN rfl (Lent.fact 1 rfl) rfl) rfl ?_
      refine J.guardY rfl (Y.gtr rfl rfl) rfl ?_
      refine J.quiet (Y.pickF rfl rfl) rfl ?_
      refine J.done ?_
      refine J.thenN ?_
      exact J.meetI (decide ((30 : Int) < (List.length p0.2 : Int))) (()) h (by repeat (first | exact SubF.nil | refine SubF.cons rfl ?_)) (SubM.refl _) (LentAll.refl _ _)
  · clear h
    intro a3 b4 h
    unfold made_LightGraph_k1 at h
    refine J.cond (by exact rfl) (fun hp5 => ?_) (fun hp5 => ?_)
    · replace h := ifP hp5 h
      refine J.seq ?_
      refine J.region ?_
      refine J.quiet (Y.assign rfl) rfl ?_
      refine J.done ?_
      refine J.thenN ?_
      refine J.ret ?_
      refine J.thenR ?_
      obtain rfl := Option.some.inj h
      exact J.retG1 (()) rfl rfl (RV.tmp rfl) (SubM.nil) LentAll.nil
    · replace h := ifBN hp5 h
      refine J.skip ?_
      refine J.thenN ?_
      refine J.seq ?_
      refine J.midI (A := Unit) (B := Unit) (fun a6 => made_LightGraph_k2  a6 = some r) (fun a6 b7 => []) (fun a6 b7 => []) (fun a6 b7 => [Sl RI64 v0 p0.1, S2 RI64I64p v1 z2 p0.2]) ?_ ?_
      · refine J.seq ?_
        refine J.region ?_
        refine J.quiet (Y.assign rfl) rfl ?_
        refine J.done ?_
        refine J.thenN ?_
        refine J.block ?_
        refine J.loopI (A := Int) (B := Unit) (made_LightGraph_s1 p0) (fun a10 b11 => [(1, Value.pointer (some ⟨b1, 0, none⟩)), (3, Value.int .i64 (a10))]) (fun a10 b11 => [Blk b1 [v0, v1] 26]) (fun a10 b11 => [Sl RI64 v0 p0.1, S2 RI64I64p v1 z2 p0.2]) (0 : Int) (()) h (by repeat (first | exact SubF.nil | refine SubF.cons rfl ?_)) (SubM.refl _) (LentAll.refl _ _) ?_
        clear h
        intro k12 a10 b11 h
        unfold made_LightGraph_s1 at h
        refine J.seq ?_
        refine J.seq ?_
        refine J.region ?_
        refine J.quiet (Y.move rfl) rfl ?_
        refine J.quiet (Y.fieldB rfl rfl rfl rfl rfl) rfl ?_
        refine J.quiet (Y.loadB 0 rfl rfl rfl rfl rfl) rfl ?_
        refine J.quiet (Y.lenN rfl (Lent.fact 1 rfl) rfl) rfl ?_
        refine J.quiet (Y.lss rfl rfl) rfl ?_
        refine J.done ?_
        refine J.thenN ?_
        refine J.condD (by exact rfl) (fun hp13 => ?_) (fun hp13 => ?_)
        · replace h := ifP hp13 h
          refine J.skip ?_
          refine J.thenN ?_
          refine J.seq ?_
          refine J.block ?_
          refine J.seq ?_
          refine J.region ?_
          refine J.quiet (Y.fieldB rfl rfl rfl rfl rfl) rfl ?_
          refine J.quiet (Y.loadB 0 rfl rfl rfl rfl rfl) rfl ?_
          refine J.quiet (Y.move rfl) rfl ?_
          replace h := ck_some h; obtain ⟨hc14, h⟩ := h
          refine J.quiet (Y.indexN rfl rfl (Lent.fact 1 rfl) rfl rfl hc14) rfl ?_
          refine J.quiet (Y.loadRow rfl (Lent.fact 1 rfl) rfl rfl hc14) rfl ?_
          refine J.quiet (Y.lenS rfl (Lent.el (Lent.fact 1 rfl) hc14.1 hc14.2) rfl) rfl ?_
          refine J.quiet (Y.gtr rfl rfl) rfl ?_
          refine J.done ?_
          refine J.thenN ?_
          refine J.condD (by exact rfl) (fun hp15 => ?_) (fun hp15 => ?_)
          · replace h := ifP hp15 h
            refine J.seq ?_
            refine J.region ?_
            refine J.quiet (Y.assign rfl) rfl ?_
            refine J.done ?_
            refine J.thenN ?_
            refine J.ret ?_
            refine J.inR ?_
            refine J.thenR ?_
            refine J.thenR ?_
            refine J.inR ?_
            refine J.thenR ?_
            obtain rfl := Option.some.inj h
            exact J.retG1 (()) rfl rfl (RV.tmp rfl) (SubM.nil) LentAll.nil
          · replace h := ifN hp15 h
            refine J.skip ?_
            refine J.inN ?_
            refine J.thenN ?_
            refine J.region ?_
            refine J.quiet (Y.move rfl) rfl ?_
            refine J.quiet (Y.addW rfl rfl) rfl ?_
            refine J.quiet (Y.assign rfl) rfl ?_
            refine J.done ?_
            refine J.thenN ?_
            exact J.againI (wI .i64 (a10 + (1 : Int))) (()) h (by repeat (first | exact SubF.nil | refine SubF.cons rfl ?_)) (SubM.refl _) (LentAll.refl _ _)
        · replace h := ifN hp13 h
          refine J.exit ?_
          refine J.thenX ?_
          refine J.thenX ?_
          refine J.inX ?_
          refine J.thenN ?_
          exact J.meetI (()) (()) h (by repeat (first | exact SubF.nil | refine SubF.cons rfl ?_)) (SubM.nil) (LentAll.refl _ _)
      · clear h
        intro a6 b7 h
        unfold made_LightGraph_k2 at h
        refine J.seq ?_
        refine J.region ?_
        refine J.quiet (Y.assign rfl) rfl ?_
        refine J.done ?_
        refine J.thenN ?_
        refine J.ret ?_
        obtain rfl := Option.some.inj h
        exact J.retG1 (()) rfl rfl (RV.tmp rfl) (SubM.refl _) LentAll.nil

end Go.Proofs.Ytemhmmcakmidkaa
