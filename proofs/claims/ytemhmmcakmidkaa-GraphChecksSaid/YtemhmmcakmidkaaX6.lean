/- The model of selfstablaw01.GraphEccentricities and the proof that the function meets it, by program (gen/xt.py). Conditions: none. -/
import Derived.Test.YtemhmmcakmidkaaX32
import Derived.Test.YtemhmmcakmidkaaX33
import Derived.Test.YtemhmmcakmidkaaX36
import Derived.Test.YtemhmmcakmidkaaX37
import Derived.Test.YtemhmmcakmidkaaX38
namespace Go.Proofs.Ytemhmmcakmidkaa
open Go.Sx
set_option linter.unusedVariables false
set_option linter.unusedSimpArgs false

def law01_GraphEccentricities_k1  (a17 : Bool) : Option (Bool) :=
  some (a17)
def law01_GraphEccentricities_k3  (a31 : Bool) : Option (Bool) :=
  some (a31)
def law01_GraphEccentricities_k2 (fuel : Nat) (a28 : Bool) : Option (Bool) :=
  Option.bind (m_law01_awake fuel ) fun r33 => (if r33 = true then (law01_GraphEccentricities_k3  (a28)) else (law01_GraphEccentricities_k3  (false)))
def law01_GraphEccentricities_k4 (a40 : Bool × Int) (ag39 : (Bool × Int) → Option (Bool)) (a45 : Bool) : Option (Bool) :=
  ag39 (a45, (wI .i64 (a40.2 + (1 : Int))))
def law01_GraphEccentricities_k5 (r9 : Int) (a40 : Bool × Int) (ag39 : (Bool × Int) → Option (Bool)) (r47 : Int) (a51 : Bool) : Option (Bool) :=
  if a51 = true then (some (false)) else (if a40.1 = true then (law01_GraphEccentricities_k4 a40 ag39 (true)) else (law01_GraphEccentricities_k4 a40 ag39 (decide (r47 = r9))))
def law01_GraphEccentricities_s1 (fuel : Nat) (p0 : List (Int) × (List (List (Int × Int)))) (r9 : Int) (a40 : Bool × Int) (ag39 : (Bool × Int) → Option (Bool)) : Option (Bool) :=
  if a40.2 < (List.length p0.2 : Int) then (Option.bind (m_graph_Eccentricity fuel ((p0.1, p0.2)) a40.2) fun r47 => (if r47 < (0 : Int) then (law01_GraphEccentricities_k5 r9 a40 ag39 r47 (true)) else (if r9 < r47 then (law01_GraphEccentricities_k5 r9 a40 ag39 r47 (true)) else (law01_GraphEccentricities_k5 r9 a40 ag39 r47 (decide ((wI .i64 ((2 : Int) * r47)) < r9)))))) else (law01_GraphEccentricities_k2 fuel (a40.1))
def m_law01_GraphEccentricities (fuel : Nat) (p0 : List (Int) × (List (List (Int × Int)))) : Option (Bool) :=
  Option.bind (m_law01_fair fuel ((p0.1, p0.2))) fun r2 => (if (!r2) = true then (Option.bind (m_law01_awake fuel ) fun r6 => (some (r6))) else (Option.bind (m_graph_Diameter fuel ((p0.1, p0.2))) fun r9 => (Option.bind (m_graph_Connected fuel ((p0.1, p0.2))) fun r12 => (if (!r12) = true then (Option.bind (m_law01_awake fuel ) fun r19 => (if r19 = true then (if r9 = (-1 : Int) then (Option.bind (m_graph_Eccentricity fuel ((p0.1, p0.2)) (0 : Int)) fun r24 => (law01_GraphEccentricities_k1  (decide (r24 = (-1 : Int))))) else (law01_GraphEccentricities_k1  (false))) else (law01_GraphEccentricities_k1  (false)))) else (iter (law01_GraphEccentricities_s1 fuel p0 r9) fuel (false, (0 : Int)))))))

theorem body6 : HasBody Try.prog 6 := Try.call6

set_option maxHeartbeats 4000000 in
set_option maxRecDepth 20000 in
theorem t_law01_GraphEccentricities (fuel : Nat) {p0 : List (Int) × (List (List (Int × Int)))} (v0 : Value)  (v1 : Value)  (z2 : List (Value × List (Int × Int))) (r : Bool) (h : m_law01_GraphEccentricities fuel p0 = some r) :
    Meets Try.prog 6 #[Value.agg #[v0, v1]] [Sl RI64 v0 p0.1, S2 RI64I64p v1 z2 p0.2] (fun x : Unit => Value.bool (r)) (fun x l => l) (fun _ l => l) := by
  refine Meets.of (vs := [Value.agg #[v0, v1]]) Try.func6 rfl Try.ntmps6 rfl fun c => ?_
  unfold m_law01_GraphEccentricities at h
  refine J.seq ?_
  refine J.region ?_
  refine J.loud (Loud.box (cs := [v0, v1]) rfl rfl) rfl fun b1 => ?_
  refine J.quiet (Y.assign rfl) rfl ?_
  refine J.done ?_
  refine J.thenN ?_
  refine J.seq ?_
  refine J.seq ?_
  refine J.region ?_
  refine J.quiet (Y.loadBAll 0 rfl rfl rfl rfl) rfl ?_
  replace h := bnd h; obtain ⟨r2, hr3, h⟩ := h
  refine J.loud (Loud.callL body32 (t_law01_fair fuel v0 v1 z2 r2 hr3) rfl (LentAll.cons (Lent.fact 0 rfl) (LentAll.cons (Lent.fact 1 rfl) (LentAll.nil))) (fun _ _ => rfl)) rfl fun x4 => ?_
  refine J.quiet (Y.not rfl) rfl ?_
  refine J.done ?_
  refine J.thenN ?_
  refine J.cond (by exact rfl) (fun hp5 => ?_) (fun hp5 => ?_)
  · replace h := ifP hp5 h
    refine J.seq ?_
    refine J.region ?_
    replace h := bnd h; obtain ⟨r6, hr7, h⟩ := h
    refine J.loud (Loud.callL body33 (t_law01_awake fuel  r6 hr7) rfl (LentAll.nil) (fun _ _ => rfl)) rfl fun x8 => ?_
    refine J.quiet (Y.assign rfl) rfl ?_
    refine J.done ?_
    refine J.thenN ?_
    refine J.ret ?_
    refine J.thenR ?_
    obtain rfl := Option.some.inj h
    exact J.retG1 (()) rfl rfl (RV.tmp rfl) (SubM.nil) LentAll.nil
  · replace h := ifBN hp5 h
    refine J.skip ?_
    refine J.thenN ?_
    refine J.seq ?_
    refine J.region ?_
    refine J.quiet (Y.loadBAll 0 rfl rfl rfl rfl) rfl ?_
    replace h := bnd h; obtain ⟨r9, hr10, h⟩ := h
    refine J.loud (Loud.callL body36 (t_graph_Diameter fuel v0 v1 z2 r9 hr10) rfl (LentAll.cons (Lent.fact 0 rfl) (LentAll.cons (Lent.fact 1 rfl) (LentAll.nil))) (fun _ _ => rfl)) rfl fun x11 => ?_
    refine J.quiet (Y.assign rfl) rfl ?_
    refine J.done ?_
    refine J.thenN ?_
    refine J.seq ?_
    refine J.seq ?_
    refine J.region ?_
    refine J.quiet (Y.loadBAll 0 rfl rfl rfl rfl) rfl ?_
    replace h := bnd h; obtain ⟨r12, hr13, h⟩ := h
    refine J.loud (Loud.callL body37 (t_graph_Connected fuel v0 v1 z2 r12 hr13) rfl (LentAll.cons (Lent.fact 0 rfl) (LentAll.cons (Lent.fact 1 rfl) (LentAll.nil))) (fun _ _ => rfl)) rfl fun x14 => ?_
    refine J.quiet (Y.not rfl) rfl ?_
    refine J.done ?_
    refine J.thenN ?_
    refine J.cond (by exact rfl) (fun hp15 => ?_) (fun hp15 => ?_)
    · replace h := ifP hp15 h
      refine J.seq ?_
      refine J.midI (A := Bool) (B := Unit) (fun a17 => law01_GraphEccentricities_k1  a17 = some r) (fun a17 b18 => [(2, Value.bool (a17))]) (fun a17 b18 => []) (fun a17 b18 => [Sl RI64 v0 p0.1, S2 RI64I64p v1 z2 p0.2]) ?_ ?_
      · refine J.region ?_
        replace h := bnd h; obtain ⟨r19, hr20, h⟩ := h
        refine J.loud (Loud.callL body33 (t_law01_awake fuel  r19 hr20) rfl (LentAll.nil) (fun _ _ => rfl)) rfl fun x21 => ?_
        refine J.quiet (Y.move rfl) rfl ?_
        refine J.guard (by exact rfl) (by exact rfl) (fun hp22 => ?_) (fun hp22 => ?_)
        · replace h := ifP hp22 h
          refine J.guardY rfl (Y.move rfl) rfl ?_
          refine J.guardY rfl (Y.eql rfl rfl) rfl ?_
          refine J.quiet (Y.pickT rfl rfl) rfl ?_
          refine J.quiet (Y.move rfl) rfl ?_
          refine J.guardD (by exact rfl) (by exact rfl) (fun hp23 => ?_) (fun hp23 => ?_)
          · replace h := ifP hp23 h
            refine J.guardY rfl (Y.loadBAll 0 rfl rfl rfl rfl) rfl ?_
            replace h := bnd h; obtain ⟨r24, hr25, h⟩ := h
            refine J.loudG rfl (Loud.callL body38 (t_graph_Eccentricity fuel v0 v1 z2 r24 hr25) rfl (LentAll.cons (Lent.fact 0 rfl) (LentAll.cons (Lent.fact 1 rfl) (LentAll.nil))) (fun _ _ => rfl)) rfl fun x26 => ?_
            refine J.guardY rfl (Y.eql rfl rfl) rfl ?_
            refine J.quiet (Y.pickT rfl rfl) rfl ?_
            refine J.quiet (Y.assign rfl) rfl ?_
            refine J.done ?_
            refine J.thenN ?_
            exact J.meetI (decide (r24 = (-1 : Int))) (()) h (by repeat (first | exact SubF.nil | refine SubF.cons rfl ?_)) (SubM.nil) (LentAll.refl _ _)
          · replace h := ifN hp23 h
            refine J.guardN rfl rfl rfl ?_
            refine J.guardN rfl rfl rfl ?_
            refine J.guardN rfl rfl rfl ?_
            refine J.quiet (Y.pickF rfl rfl) rfl ?_
            refine J.quiet (Y.assign rfl) rfl ?_
            refine J.done ?_
            refine J.thenN ?_
            exact J.meetI (false) (()) h (by repeat (first | exact SubF.nil | refine SubF.cons rfl ?_)) (SubM.nil) (LentAll.refl _ _)
        · replace h := ifBN hp22 h
          refine J.guardN rfl rfl rfl ?_
          refine J.guardN rfl rfl rfl ?_
          refine J.quiet (Y.pickF rfl rfl) rfl ?_
          refine J.quiet (Y.move rfl) rfl ?_
          refine J.guardN rfl rfl rfl ?_
          refine J.guardN rfl rfl rfl ?_
          refine J.guardN rfl rfl rfl ?_
          refine J.quiet (Y.pickF rfl rfl) rfl ?_
          refine J.quiet (Y.assign rfl) rfl ?_
          refine J.done ?_
          refine J.thenN ?_
          exact J.meetI (false) (()) h (by repeat (first | exact SubF.nil | refine SubF.cons rfl ?_)) (SubM.nil) (LentAll.refl _ _)
      · clear h
        intro a17 b18 h
        unfold law01_GraphEccentricities_k1 at h
        refine J.ret ?_
        refine J.thenR ?_
        obtain rfl := Option.some.inj h
        exact J.retG1 (()) rfl rfl (RV.tmp rfl) (SubM.refl _) LentAll.nil
    · replace h := ifBN hp15 h
      refine J.skip ?_
      refine J.thenN ?_
      refine J.seq ?_
      refine J.region ?_
      refine J.quiet (Y.assign rfl) rfl ?_
      refine J.done ?_
      refine J.thenN ?_
      refine J.seq ?_
      refine J.midI (A := Bool) (B := Unit) (fun a28 => law01_GraphEccentricities_k2 fuel a28 = some r) (fun a28 b29 => [(4, Value.bool (a28))]) (fun a28 b29 => []) (fun a28 b29 => [Sl RI64 v0 p0.1, S2 RI64I64p v1 z2 p0.2]) ?_ ?_
      · refine J.seq ?_
        refine J.region ?_
        refine J.quiet (Y.assign rfl) rfl ?_
        refine J.done ?_
        refine J.thenN ?_
        refine J.block ?_
        refine J.loopI (A := Bool × Int) (B := Unit) (law01_GraphEccentricities_s1 fuel p0 r9) (fun a40 b41 => [(1, Value.pointer (some ⟨b1, 0, none⟩)), (3, Value.int .i64 (r9)), (4, Value.bool (a40.1)), (5, Value.int .i64 (a40.2))]) (fun a40 b41 => [Blk b1 [v0, v1] 26]) (fun a40 b41 => [Sl RI64 v0 p0.1, S2 RI64I64p v1 z2 p0.2]) (false, (0 : Int)) (()) h (by repeat (first | exact SubF.nil | refine SubF.cons rfl ?_)) (SubM.refl _) (LentAll.refl _ _) ?_
        clear h
        intro k42 a40 b41 h
        unfold law01_GraphEccentricities_s1 at h
        refine J.seq ?_
        refine J.seq ?_
        refine J.region ?_
        refine J.quiet (Y.move rfl) rfl ?_
        refine J.quiet (Y.fieldB rfl rfl rfl rfl rfl) rfl ?_
        refine J.quiet (Y.loadB 0 rfl rfl rfl rfl rfl) rfl ?_
        refine J.quiet (Y.lenN rfl (Lent.fact 1 rfl) rfl) rfl ?_
        refine J.quiet (Y.lss rfl rfl) rfl ?_
        refine J.done ?_
        refine J.thenN ?_
        refine J.condD (by exact rfl) (fun hp43 => ?_) (fun hp43 => ?_)
        · replace h := ifP hp43 h
          refine J.skip ?_
          refine J.thenN ?_
          refine J.seq ?_
          refine J.midI (A := Bool) (B := Unit) (fun a45 => law01_GraphEccentricities_k4 a40 (iter (law01_GraphEccentricities_s1 fuel p0 r9) k42) a45 = some r) (fun a45 b46 => [(1, Value.pointer (some ⟨b1, 0, none⟩)), (3, Value.int .i64 (r9)), (4, Value.bool (a45)), (5, Value.int .i64 (a40.2))]) (fun a45 b46 => [Blk b1 [v0, v1] 26]) (fun a45 b46 => [Sl RI64 v0 p0.1, S2 RI64I64p v1 z2 p0.2]) ?_ ?_
          · refine J.block ?_
            refine J.seq ?_
            refine J.region ?_
            refine J.quiet (Y.loadBAll 0 rfl rfl rfl rfl) rfl ?_
            refine J.quiet (Y.move rfl) rfl ?_
            replace h := bnd h; obtain ⟨r47, hr48, h⟩ := h
            refine J.loud (Loud.callL body38 (t_graph_Eccentricity fuel v0 v1 z2 r47 hr48) rfl (LentAll.cons (Lent.fact 0 rfl) (LentAll.cons (Lent.fact 1 rfl) (LentAll.nil))) (fun _ _ => rfl)) rfl fun x49 => ?_
            refine J.quiet (Y.assign rfl) rfl ?_
            refine J.done ?_
            refine J.thenN ?_
            refine J.seq ?_
            refine J.seq ?_
            refine J.midI (A := Bool) (B := Unit) (fun a51 => law01_GraphEccentricities_k5 r9 a40 (iter (law01_GraphEccentricities_s1 fuel p0 r9) k42) r47 a51 = some r) (fun a51 b52 => [(1, Value.pointer (some ⟨b1, 0, none⟩)), (3, Value.int .i64 (r9)), (4, Value.bool (a40.1)), (5, Value.int .i64 (a40.2)), (6, Value.int .i64 (r47)), (48, Value.bool (a51))]) (fun a51 b52 => [Blk b1 [v0, v1] 26]) (fun a51 b52 => [Sl RI64 v0 p0.1, S2 RI64I64p v1 z2 p0.2]) ?_ ?_
            · refine J.region ?_
              refine J.quiet (Y.move rfl) rfl ?_
              refine J.quiet (Y.lss rfl rfl) rfl ?_
              refine J.quiet (Y.move rfl) rfl ?_
              refine J.guardD (by exact rfl) (by exact rfl) (fun hp55 => ?_) (fun hp55 => ?_)
              · replace h := ifP hp55 h
                refine J.guardN rfl rfl rfl ?_
                refine J.guardN rfl rfl rfl ?_
                refine J.guardN rfl rfl rfl ?_
                refine J.quiet (Y.pickT rfl rfl) rfl ?_
                refine J.quiet (Y.move rfl) rfl ?_
                refine J.guardN rfl rfl rfl ?_
                refine J.guardN rfl rfl rfl ?_
                refine J.guardN rfl rfl rfl ?_
                refine J.guardN rfl rfl rfl ?_
                refine J.quiet (Y.pickT rfl rfl) rfl ?_
                refine J.done ?_
                refine J.thenN ?_
                exact J.meetI (true) (()) h (by repeat (first | exact SubF.nil | refine SubF.cons rfl ?_)) (SubM.refl _) (LentAll.refl _ _)
              · replace h := ifN hp55 h
                refine J.guardY rfl (Y.move rfl) rfl ?_
                refine J.guardY rfl (Y.move rfl) rfl ?_
                refine J.guardY rfl (Y.gtr rfl rfl) rfl ?_
                refine J.quiet (Y.pickF rfl rfl) rfl ?_
                refine J.quiet (Y.move rfl) rfl ?_
                refine J.guardD (by exact rfl) (by exact rfl) (fun hp56 => ?_) (fun hp56 => ?_)
                · replace h := ifP hp56 h
                  refine J.guardN rfl rfl rfl ?_
                  refine J.guardN rfl rfl rfl ?_
                  refine J.guardN rfl rfl rfl ?_
                  refine J.guardN rfl rfl rfl ?_
                  refine J.quiet (Y.pickT rfl rfl) rfl ?_
                  refine J.done ?_
                  refine J.thenN ?_
                  exact J.meetI (true) (()) h (by repeat (first | exact SubF.nil | refine SubF.cons rfl ?_)) (SubM.refl _) (LentAll.refl _ _)
                · replace h := ifN hp56 h
                  refine J.guardY rfl (Y.move rfl) rfl ?_
                  refine J.guardY rfl (Y.mulW rfl rfl) rfl ?_
                  refine J.guardY rfl (Y.move rfl) rfl ?_
                  refine J.guardY rfl (Y.lss rfl rfl) rfl ?_
                  refine J.quiet (Y.pickF rfl rfl) rfl ?_
                  refine J.done ?_
                  refine J.thenN ?_
                  exact J.meetI (decide ((wI .i64 ((2 : Int) * r47)) < r9)) (()) h (by repeat (first | exact SubF.nil | refine SubF.cons rfl ?_)) (SubM.refl _) (LentAll.refl _ _)
            · clear h
              intro a51 b52 h
              unfold law01_GraphEccentricities_k5 at h
              refine J.cond (by exact rfl) (fun hp53 => ?_) (fun hp53 => ?_)
              · replace h := ifP hp53 h
                refine J.seq ?_
                refine J.region ?_
                refine J.quiet (Y.assign rfl) rfl ?_
                refine J.done ?_
                refine J.thenN ?_
                refine J.ret ?_
                refine J.thenR ?_
                refine J.inR ?_
                refine J.thenR ?_
                refine J.thenR ?_
                refine J.inR ?_
                refine J.thenR ?_
                obtain rfl := Option.some.inj h
                exact J.retG1 (()) rfl rfl (RV.tmp rfl) (SubM.nil) LentAll.nil
              · replace h := ifBN hp53 h
                refine J.skip ?_
                refine J.thenN ?_
                refine J.region ?_
                refine J.quiet (Y.move rfl) rfl ?_
                refine J.quiet (Y.move rfl) rfl ?_
                refine J.guard (by exact rfl) (by exact rfl) (fun hp54 => ?_) (fun hp54 => ?_)
                · replace h := ifP hp54 h
                  refine J.guardN rfl rfl rfl ?_
                  refine J.guardN rfl rfl rfl ?_
                  refine J.guardN rfl rfl rfl ?_
                  refine J.quiet (Y.pickT rfl rfl) rfl ?_
                  refine J.quiet (Y.assign rfl) rfl ?_
                  refine J.done ?_
                  refine J.inN ?_
                  refine J.thenN ?_
                  exact J.meetI (true) (()) h (by repeat (first | exact SubF.nil | refine SubF.cons rfl ?_)) (SubM.refl _) (LentAll.refl _ _)
                · replace h := ifBN hp54 h
                  refine J.guardY rfl (Y.move rfl) rfl ?_
                  refine J.guardY rfl (Y.move rfl) rfl ?_
                  refine J.guardY rfl (Y.eql rfl rfl) rfl ?_
                  refine J.quiet (Y.pickF rfl rfl) rfl ?_
                  refine J.quiet (Y.assign rfl) rfl ?_
                  refine J.done ?_
                  refine J.inN ?_
                  refine J.thenN ?_
                  exact J.meetI (decide (r47 = r9)) (()) h (by repeat (first | exact SubF.nil | refine SubF.cons rfl ?_)) (SubM.refl _) (LentAll.refl _ _)
          · clear h
            intro a45 b46 h
            unfold law01_GraphEccentricities_k4 at h
            refine J.region ?_
            refine J.quiet (Y.move rfl) rfl ?_
            refine J.quiet (Y.addW rfl rfl) rfl ?_
            refine J.quiet (Y.assign rfl) rfl ?_
            refine J.done ?_
            refine J.thenN ?_
            exact J.againI (a45, (wI .i64 (a40.2 + (1 : Int)))) (()) h (by repeat (first | exact SubF.nil | refine SubF.cons rfl ?_)) (SubM.refl _) (LentAll.refl _ _)
        · replace h := ifN hp43 h
          refine J.exit ?_
          refine J.thenX ?_
          refine J.thenX ?_
          refine J.inX ?_
          refine J.thenN ?_
          exact J.meetI (a40.1) (()) h (by repeat (first | exact SubF.nil | refine SubF.cons rfl ?_)) (SubM.nil) (LentAll.refl _ _)
      · clear h
        intro a28 b29 h
        unfold law01_GraphEccentricities_k2 at h
        refine J.seq ?_
        refine J.midI (A := Bool) (B := Unit) (fun a31 => law01_GraphEccentricities_k3  a31 = some r) (fun a31 b32 => [(2, Value.bool (a31))]) (fun a31 b32 => []) (fun a31 b32 => [Sl RI64 v0 p0.1, S2 RI64I64p v1 z2 p0.2]) ?_ ?_
        · refine J.region ?_
          replace h := bnd h; obtain ⟨r33, hr34, h⟩ := h
          refine J.loud (Loud.callL body33 (t_law01_awake fuel  r33 hr34) rfl (LentAll.nil) (fun _ _ => rfl)) rfl fun x35 => ?_
          refine J.quiet (Y.move rfl) rfl ?_
          refine J.guard (by exact rfl) (by exact rfl) (fun hp36 => ?_) (fun hp36 => ?_)
          · replace h := ifP hp36 h
            refine J.guardY rfl (Y.move rfl) rfl ?_
            refine J.quiet (Y.pickT rfl rfl) rfl ?_
            refine J.quiet (Y.assign rfl) rfl ?_
            refine J.done ?_
            refine J.thenN ?_
            exact J.meetI (a28) (()) h (by repeat (first | exact SubF.nil | refine SubF.cons rfl ?_)) (SubM.refl _) (LentAll.refl _ _)
          · replace h := ifBN hp36 h
            refine J.guardN rfl rfl rfl ?_
            refine J.quiet (Y.pickF rfl rfl) rfl ?_
            refine J.quiet (Y.assign rfl) rfl ?_
            refine J.done ?_
            refine J.thenN ?_
            exact J.meetI (false) (()) h (by repeat (first | exact SubF.nil | refine SubF.cons rfl ?_)) (SubM.refl _) (LentAll.refl _ _)
        · clear h
          intro a31 b32 h
          unfold law01_GraphEccentricities_k3 at h
          refine J.ret ?_
          obtain rfl := Option.some.inj h
          exact J.retG1 (()) rfl rfl (RV.tmp rfl) (SubM.refl _) LentAll.nil

end Go.Proofs.Ytemhmmcakmidkaa
