/- The model of family.Grid$1 and the proof that the function meets it, by program (gen/xt.py). Conditions: none. -/
import Derived.Test.YtemhmmcakmidkaaXp
namespace Go.Proofs.Ytemhmmcakmidkaa
open Go.Sx

def family_Grid_1_k1  (a2 : Bool) : Option (Bool) :=
  some (a2)
def m_family_Grid_1 (fuel : Nat) (p0 : Int) (p1 : Int) (p2 : Int) : Option (Bool) :=
  if (wI .i64 (p0 + p2)) = p1 then (family_Grid_1_k1  (true)) else (if (wI .i64 (p0 + (1 : Int))) = p1 then (ck (p2 ≠ 0) (ck (p2 ≠ 0) (family_Grid_1_k1  (decide ((wI .i64 (Int.tdiv p0 p2)) = (wI .i64 (Int.tdiv p1 p2))))))) else (family_Grid_1_k1  (false)))

theorem body78 : HasBody Try.prog 78 := Try.call78

set_option maxHeartbeats 4000000 in
set_option maxRecDepth 20000 in
theorem t_family_Grid_1 (fuel : Nat) {p0 : Int} {p1 : Int} {p2 : Int} (bx2 : Nat) (r : Bool) (h : m_family_Grid_1 fuel p0 p1 p2 = some r) :
    Meets Try.prog 78 #[Value.int .i64 (p0), Value.int .i64 (p1), Value.pointer (some ⟨bx2, 0, none⟩)] [Blk bx2 [Value.int .i64 (p2)] 3] (fun x : Unit => Value.bool (r)) (fun x l => l) (fun _ l => l) := by
  refine Meets.of (vs := [Value.int .i64 (p0), Value.int .i64 (p1), Value.pointer (some ⟨bx2, 0, none⟩)]) Try.func78 rfl Try.ntmps78 rfl fun c => ?_
  unfold m_family_Grid_1 at h
  refine J.seq ?_
  refine J.region ?_
  refine J.quiet (Y.assign rfl) rfl ?_
  refine J.done ?_
  refine J.thenN ?_
  refine J.seq ?_
  refine J.midI (A := Bool) (B := Unit) (fun a2 => family_Grid_1_k1  a2 = some r) (fun a2 b3 => [(5, Value.bool (a2))]) (fun a2 b3 => []) (fun a2 b3 => [Blk bx2 [Value.int .i64 (p2)] 3]) ?_ ?_
  · refine JR.start [0, 0, 3, 0, 15, 31, 63, 127, 63, 511, 1023, 2047, 2047, 8191, 2047, 2047, 51199, 131071, 262143, 524287, 1048575] 17 mixedOrders (by decide +kernel) ?_
    refine JR.open (by exact rfl) ?_
    refine JR.qt rfl (SubM.refl _) (SubL.nil) (Y.move rfl) HistOk.z ?_
    refine JR.qt rfl (SubM.refl _) (SubL.cons (List.mem_of_getElem? (i := 0) rfl) (SubL.nil)) (Y.loadBS rfl (Lent.fact 0 rfl) rfl rfl rfl) HistOk.z ?_
    refine JR.qt rfl (SubM.refl _) (SubL.nil) (Y.addW rfl rfl) HistOk.z ?_
    refine JR.qt rfl (SubM.refl _) (SubL.nil) (Y.move rfl) HistOk.z ?_
    refine JR.qt rfl (SubM.refl _) (SubL.nil) (Y.eql rfl rfl) HistOk.z ?_
    refine JR.qt rfl (SubM.refl _) (SubL.nil) (Y.move rfl) HistOk.z ?_
    refine JR.guardD (by exact rfl) (by exact rfl) (by exact rfl) (fun hp4 => ?_) (fun hp4 => ?_)
    · replace h := ifP hp4 h
      refine JR.guardN rfl rfl rfl rfl ?_
      refine JR.guardN rfl rfl rfl rfl ?_
      refine JR.guardN rfl rfl rfl rfl ?_
      refine JR.guardN rfl rfl rfl rfl ?_
      refine JR.guardN rfl rfl rfl rfl ?_
      refine JR.qu (h := ?_)
      refine JR.qu (h := ?_)
      refine JR.qu (h := ?_)
      refine JR.qu (h := ?_)
      refine JR.qu (h := ?_)
      refine JR.qu (h := ?_)
      refine JR.tailD 17 rfl rfl ?_
      refine J.qu (h := ?_)
      refine J.guardN rfl rfl rfl ?_
      refine J.quiet (Y.pickT rfl rfl) rfl ?_
      refine J.quiet (Y.assign rfl) rfl ?_
      refine J.done ?_
      refine J.thenN ?_
      exact J.meetI (true) (()) h (by repeat (first | exact SubF.nil | refine SubF.cons rfl ?_)) (SubM.refl _) (LentAll.refl _ _)
    · replace h := ifN hp4 h
      refine JR.qtG rfl (SubM.refl _) (SubL.nil) (Y.move rfl) HistOk.z ?_
      refine JR.qtG rfl (SubM.refl _) (SubL.nil) (Y.addW rfl rfl) HistOk.z ?_
      refine JR.qtG rfl (SubM.refl _) (SubL.nil) (Y.move rfl) HistOk.z ?_
      refine JR.qtG rfl (SubM.refl _) (SubL.nil) (Y.eql rfl rfl) HistOk.z ?_
      refine JR.qtG rfl (SubM.refl _) (SubL.nil) (Y.move rfl) HistOk.z ?_
      refine JR.guardD (by exact rfl) (by exact rfl) (by exact rfl) (fun hp5 => ?_) (fun hp5 => ?_)
      · replace h := ifP hp5 h
        refine JR.qtG rfl (SubM.refl _) (SubL.nil) (Y.move rfl) HistOk.z ?_
        refine JR.qtG rfl (SubM.refl _) (SubL.cons (List.mem_of_getElem? (i := 0) rfl) (SubL.nil)) (Y.loadBS rfl (Lent.fact 0 rfl) rfl rfl rfl) HistOk.z ?_
        replace h := ck_some h; obtain ⟨hc6, h⟩ := h
        refine JR.qtG rfl (SubM.refl _) (SubL.nil) (Y.quoW rfl rfl hc6) HistOk.z ?_
        refine JR.qtG rfl (SubM.refl _) (SubL.nil) (Y.move rfl) HistOk.z ?_
        refine JR.qtG rfl (SubM.refl _) (SubL.cons (List.mem_of_getElem? (i := 0) rfl) (SubL.nil)) (Y.loadBS rfl (Lent.fact 0 rfl) rfl rfl rfl) HistOk.z ?_
        replace h := ck_some h; obtain ⟨hc7, h⟩ := h
        refine JR.qtG rfl (SubM.refl _) (SubL.nil) (Y.quoW rfl rfl hc7) HistOk.z ?_
        refine JR.tailD 17 rfl rfl ?_
        refine J.guardY rfl (Y.eql rfl rfl) rfl ?_
        refine J.guardY rfl (Y.pickT rfl rfl) rfl ?_
        refine J.quiet (Y.pickF rfl rfl) rfl ?_
        refine J.quiet (Y.assign rfl) rfl ?_
        refine J.done ?_
        refine J.thenN ?_
        exact J.meetI (decide ((wI .i64 (Int.tdiv p0 p2)) = (wI .i64 (Int.tdiv p1 p2)))) (()) h (by repeat (first | exact SubF.nil | refine SubF.cons rfl ?_)) (SubM.refl _) (LentAll.refl _ _)
      · replace h := ifN hp5 h
        refine JR.guardN rfl rfl rfl rfl ?_
        refine JR.guardN rfl rfl rfl rfl ?_
        refine JR.guardN rfl rfl rfl rfl ?_
        refine JR.guardN rfl rfl rfl rfl ?_
        refine JR.guardN rfl rfl rfl rfl ?_
        refine JR.guardN rfl rfl rfl rfl ?_
        refine JR.tailD 17 rfl rfl ?_
        refine J.guardN rfl rfl rfl ?_
        refine J.guardY rfl (Y.pickF rfl rfl) rfl ?_
        refine J.quiet (Y.pickF rfl rfl) rfl ?_
        refine J.quiet (Y.assign rfl) rfl ?_
        refine J.done ?_
        refine J.thenN ?_
        exact J.meetI (false) (()) h (by repeat (first | exact SubF.nil | refine SubF.cons rfl ?_)) (SubM.refl _) (LentAll.refl _ _)
  · clear h
    intro a2 b3 h
    unfold family_Grid_1_k1 at h
    refine J.ret ?_
    obtain rfl := Option.some.inj h
    exact J.retG1 (()) rfl rfl (RV.tmp rfl) (SubM.refl _) LentAll.nil

end Go.Proofs.Ytemhmmcakmidkaa
