/- The model of graph.DifferentIDs and the proof that the function meets it, by program (gen/xt.py). Conditions: none. -/
import Derived.Test.YtemhmmcakmidkaaXp
namespace Go.Proofs.Ytemhmmcakmidkaa
open Go.Sx
set_option linter.unusedVariables false
set_option linter.unusedSimpArgs false

def graph_DifferentIDs_k1  (a2 : Unit) : Option (Bool) :=
  some (true)
def graph_DifferentIDs_k2 (p0 : List (Int)) (a7 : Int × List (Bool)) (ag6 : (Int × List (Bool)) → Option (Bool)) (a13 : Bool) : Option (Bool) :=
  if a13 = true then (some (false)) else (ck ((0 ≤ (at' p0 a7.1) ∧ (at' p0 a7.1) < ((256 : Nat) : Int)) ∧ List.length a7.2 = 256) (ag6 ((wI .i64 (a7.1 + (1 : Int))), (List.set a7.2 (Int.toNat (at' p0 a7.1)) true))))
def graph_DifferentIDs_s1 (p0 : List (Int)) (a7 : Int × List (Bool)) (ag6 : (Int × List (Bool)) → Option (Bool)) : Option (Bool) :=
  if a7.1 < (List.length p0 : Int) then (ck (0 ≤ a7.1 ∧ a7.1 < (List.length p0 : Int)) (if (at' p0 a7.1) < (0 : Int) then (graph_DifferentIDs_k2 p0 a7 ag6 (true)) else (if (255 : Int) < (at' p0 a7.1) then (graph_DifferentIDs_k2 p0 a7 ag6 (true)) else (ck ((0 ≤ (at' p0 a7.1) ∧ (at' p0 a7.1) < ((256 : Nat) : Int)) ∧ List.length a7.2 = 256) (graph_DifferentIDs_k2 p0 a7 ag6 ((at' a7.2 (at' p0 a7.1)))))))) else (graph_DifferentIDs_k1  (()))
def m_graph_DifferentIDs (fuel : Nat) (p0 : List (Int)) : Option (Bool) :=
  iter (graph_DifferentIDs_s1 p0) fuel ((0 : Int), (List.replicate 256 false))

theorem body87 : HasBody Try.prog 87 := Try.call87

set_option maxHeartbeats 4000000 in
set_option maxRecDepth 20000 in
theorem t_graph_DifferentIDs (fuel : Nat) {p0 : List (Int)} (v0 : Value) (r : Bool) (h : m_graph_DifferentIDs fuel p0 = some r) :
    Meets Try.prog 87 #[v0] [Sl RI64 v0 p0] (fun x : Unit => Value.bool (r)) (fun x l => l) (fun _ l => l) := by
  refine Meets.of (vs := [v0]) Try.func87 rfl Try.ntmps87 rfl fun c => ?_
  unfold m_graph_DifferentIDs at h
  refine J.seq ?_
  refine J.region ?_
  refine J.quiet (Y.assign rfl) rfl ?_
  refine J.done ?_
  refine J.thenN ?_
  refine J.seq ?_
  refine J.region ?_
  refine J.loud (Loud.alloc (cs := cellsOf EBo (List.replicate 256 false)) rfl (by kernel_rfl)) rfl fun b1 => ?_
  refine J.done ?_
  refine J.thenN ?_
  refine J.seq ?_
  refine J.midI (A := Unit) (B := Unit) (fun a2 => graph_DifferentIDs_k1  a2 = some r) (fun a2 b3 => []) (fun a2 b3 => []) (fun a2 b3 => [Sl RI64 v0 p0]) ?_ ?_
  · refine J.seq ?_
    refine J.region ?_
    refine J.quiet (Y.move rfl) rfl ?_
    refine J.quiet (Y.lenS rfl (Lent.fact 0 rfl) rfl) rfl ?_
    refine J.quiet (Y.move rfl) rfl ?_
    refine J.done ?_
    refine J.thenN ?_
    refine J.block ?_
    refine J.loopI (A := Int × List (Bool)) (B := Unit) (graph_DifferentIDs_s1 p0) (fun a7 b8 => [(3, Value.pointer (some ⟨b1, 0, none⟩)), (6, v0), (7, Value.int .i64 (List.length p0 : Int)), (8, Value.int .i64 (a7.1))]) (fun a7 b8 => [Blk b1 (cellsOf EBo a7.2) 84]) (fun a7 b8 => [Sl RI64 v0 p0]) ((0 : Int), (List.replicate 256 false)) (()) h (by repeat (first | exact SubF.nil | refine SubF.cons rfl ?_)) (SubM.refl _) (LentAll.refl _ _) ?_
    clear h
    intro k9 a7 b8 h
    unfold graph_DifferentIDs_s1 at h
    refine J.seq ?_
    refine J.region ?_
    refine J.quiet (Y.lss rfl rfl) rfl ?_
    refine J.done ?_
    refine J.thenN ?_
    refine J.seq ?_
    refine J.condD (by exact rfl) (fun hp10 => ?_) (fun hp10 => ?_)
    · replace h := ifP hp10 h
      refine J.skip ?_
      refine J.thenN ?_
      refine J.seq ?_
      refine J.block ?_
      refine J.seq ?_
      refine J.region ?_
      replace h := ck_some h; obtain ⟨hc11, h⟩ := h
      refine J.quiet (Y.indexS rfl rfl (Lent.fact 0 rfl) rfl rfl hc11) rfl ?_
      refine J.quiet (Y.loadS0 rfl (Lent.fact 0 rfl) rfl rfl rfl RI64c0 hc11) rfl ?_
      refine J.quiet (Y.assign rfl) rfl ?_
      refine J.done ?_
      refine J.thenN ?_
      refine J.seq ?_
      refine J.seq ?_
      refine J.midI (A := Bool) (B := Unit) (fun a13 => graph_DifferentIDs_k2 p0 a7 (iter (graph_DifferentIDs_s1 p0) k9) a13 = some r) (fun a13 b14 => [(3, Value.pointer (some ⟨b1, 0, none⟩)), (5, Value.int .i64 (at' p0 a7.1)), (6, v0), (7, Value.int .i64 (List.length p0 : Int)), (8, Value.int .i64 (a7.1)), (22, Value.bool (a13))]) (fun a13 b14 => [Blk b1 (cellsOf EBo a7.2) 84]) (fun a13 b14 => [Sl RI64 v0 p0]) ?_ ?_
      · refine J.region ?_
        refine J.quiet (Y.move rfl) rfl ?_
        refine J.quiet (Y.lss rfl rfl) rfl ?_
        refine J.quiet (Y.move rfl) rfl ?_
        refine J.guardD (by exact rfl) (by exact rfl) (fun hp17 => ?_) (fun hp17 => ?_)
        · replace h := ifP hp17 h
          refine J.guardN rfl rfl rfl ?_
          refine J.guardN rfl rfl rfl ?_
          refine J.quiet (Y.pickT rfl rfl) rfl ?_
          refine J.quiet (Y.move rfl) rfl ?_
          refine J.guardN rfl rfl rfl ?_
          refine J.guardN rfl rfl rfl ?_
          refine J.guardN rfl rfl rfl ?_
          refine J.quiet (Y.pickT rfl rfl) rfl ?_
          refine J.done ?_
          refine J.thenN ?_
          exact J.meetI (true) (()) h (by repeat (first | exact SubF.nil | refine SubF.cons rfl ?_)) (SubM.refl _) (LentAll.refl _ _)
        · replace h := ifN hp17 h
          refine J.guardY rfl (Y.move rfl) rfl ?_
          refine J.guardY rfl (Y.gtr rfl rfl) rfl ?_
          refine J.quiet (Y.pickF rfl rfl) rfl ?_
          refine J.quiet (Y.move rfl) rfl ?_
          refine J.guardD (by exact rfl) (by exact rfl) (fun hp18 => ?_) (fun hp18 => ?_)
          · replace h := ifP hp18 h
            refine J.guardN rfl rfl rfl ?_
            refine J.guardN rfl rfl rfl ?_
            refine J.guardN rfl rfl rfl ?_
            refine J.quiet (Y.pickT rfl rfl) rfl ?_
            refine J.done ?_
            refine J.thenN ?_
            exact J.meetI (true) (()) h (by repeat (first | exact SubF.nil | refine SubF.cons rfl ?_)) (SubM.refl _) (LentAll.refl _ _)
          · replace h := ifN hp18 h
            refine J.guardY rfl (Y.move rfl) rfl ?_
            replace h := ck_some h; obtain ⟨hc19, h⟩ := h
            refine J.guardY rfl (Y.indexArr rfl rfl rfl rfl rfl hc19.1) rfl ?_
            refine J.guardY rfl (Y.loadArr (e := EBo) rfl (Lent.res 0 rfl) rfl rfl rfl rfl hc19) rfl ?_
            refine J.quiet (Y.pickF rfl rfl) rfl ?_
            refine J.done ?_
            refine J.thenN ?_
            exact J.meetI ((at' a7.2 (at' p0 a7.1))) (()) h (by repeat (first | exact SubF.nil | refine SubF.cons rfl ?_)) (SubM.refl _) (LentAll.refl _ _)
      · clear h
        intro a13 b14 h
        unfold graph_DifferentIDs_k2 at h
        refine J.cond (by exact rfl) (fun hp15 => ?_) (fun hp15 => ?_)
        · replace h := ifP hp15 h
          refine J.seq ?_
          refine J.region ?_
          refine J.quiet (Y.assign rfl) rfl ?_
          refine J.done ?_
          refine J.thenN ?_
          refine J.ret ?_
          refine J.thenR ?_
          refine J.inR ?_
          refine J.thenR ?_
          refine J.thenR ?_
          refine J.inR ?_
          refine J.thenR ?_
          obtain rfl := Option.some.inj h
          exact J.retG1 (()) rfl rfl (RV.tmp rfl) (SubM.nil) LentAll.nil
        · replace h := ifBN hp15 h
          refine J.skip ?_
          refine J.thenN ?_
          refine J.region ?_
          refine J.quiet (Y.move rfl) rfl ?_
          replace h := ck_some h; obtain ⟨hc16, h⟩ := h
          refine J.quiet (Y.indexArr rfl rfl rfl rfl rfl hc16.1) rfl ?_
          refine J.storeArr 0 (e := EBo) true hc16 rfl rfl rfl rfl rfl rfl rfl ?_
          refine J.done ?_
          refine J.inN ?_
          refine J.thenN ?_
          refine J.region ?_
          refine J.quiet (Y.addW rfl rfl) rfl ?_
          refine J.quiet (Y.move rfl) rfl ?_
          refine J.done ?_
          refine J.thenN ?_
          exact J.againI ((wI .i64 (a7.1 + (1 : Int))), (List.set a7.2 (Int.toNat (at' p0 a7.1)) true)) (()) h (by repeat (first | exact SubF.nil | refine SubF.cons rfl ?_)) (SubM.refl _) (LentAll.refl _ _)
    · replace h := ifN hp10 h
      refine J.exit ?_
      refine J.thenX ?_
      refine J.thenX ?_
      refine J.inX ?_
      refine J.thenN ?_
      exact J.meetI (()) (()) h (by repeat (first | exact SubF.nil | refine SubF.cons rfl ?_)) (SubM.nil) (LentAll.refl _ _)
  · clear h
    intro a2 b3 h
    unfold graph_DifferentIDs_k1 at h
    refine J.seq ?_
    refine J.region ?_
    refine J.quiet (Y.assign rfl) rfl ?_
    refine J.done ?_
    refine J.thenN ?_
    refine J.ret ?_
    obtain rfl := Option.some.inj h
    exact J.retG1 (()) rfl rfl (RV.tmp rfl) (SubM.refl _) LentAll.nil

end Go.Proofs.Ytemhmmcakmidkaa
