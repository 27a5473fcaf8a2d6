/- The model of selfstablaw01.GraphBackIsMutual and the proof that the function meets it, by program (gen/xt.py). Conditions: none. -/
import Derived.Test.YtemhmmcakmidkaaX32
import Derived.Test.YtemhmmcakmidkaaX33
import Derived.Test.YtemhmmcakmidkaaX40
import Derived.Test.YtemhmmcakmidkaaX42
namespace Go.Proofs.Ytemhmmcakmidkaa
open Go.Sx
set_option linter.unusedVariables false
set_option linter.unusedSimpArgs false

def law01_GraphBackIsMutual_k1 (fuel : Nat) (a9 : Unit) : Option (Bool) :=
  Option.bind (m_law01_awake fuel ) fun r11 => (some (r11))
def law01_GraphBackIsMutual_k3 (a16 : Int) (ag15 : (Int) → Option (Bool)) (a23 : Bool) : Option (Bool) :=
  if a23 = true then (some (false)) else (ag15 (wI .i64 (a16 + (1 : Int))))
def law01_GraphBackIsMutual_k2 (fuel : Nat) (p0 : List (Int) × (List (List (Int × Int)))) (a16 : Int) (ag15 : (Int) → Option (Bool)) (a20 : Unit) : Option (Bool) :=
  ck (0 ≤ a16 ∧ a16 < (List.length p0.2 : Int)) (Option.bind (m_graph_Back fuel ((p0.1, p0.2)) a16 (List.length (at' p0.2 a16) : Int)) fun r27 => (if r27 ≠ (-1 : Int) then (law01_GraphBackIsMutual_k3 a16 ag15 (true)) else (Option.bind (m_graph_Back fuel ((p0.1, p0.2)) a16 (-1 : Int)) fun r31 => (if r31 ≠ (-1 : Int) then (law01_GraphBackIsMutual_k3 a16 ag15 (true)) else (Option.bind (m_graph_Degree fuel ((p0.1, p0.2)) a16) fun r35 => (ck (0 ≤ a16 ∧ a16 < (List.length p0.2 : Int)) (law01_GraphBackIsMutual_k3 a16 ag15 (decide (r35 ≠ (List.length (at' p0.2 a16) : Int))))))))))
def law01_GraphBackIsMutual_k4 (a41 : Int) (ag40 : (Int) → Option (Bool)) (a52 : Bool) : Option (Bool) :=
  if a52 = true then (some (false)) else (ag40 (wI .i64 (a41 + (1 : Int))))
def law01_GraphBackIsMutual_s2 (fuel : Nat) (p0 : List (Int) × (List (List (Int × Int)))) (a16 : Int) (ag15 : (Int) → Option (Bool)) (a41 : Int) (ag40 : (Int) → Option (Bool)) : Option (Bool) :=
  ck (0 ≤ a16 ∧ a16 < (List.length p0.2 : Int)) (if a41 < (List.length (at' p0.2 a16) : Int) then (ck (0 ≤ a16 ∧ a16 < (List.length p0.2 : Int)) (ck (0 ≤ a41 ∧ a41 < (List.length (at' p0.2 a16) : Int)) (Option.bind (m_graph_Back fuel ((p0.1, p0.2)) a16 a41) fun r48 => (if r48 < (0 : Int) then (law01_GraphBackIsMutual_k4 a41 ag40 (true)) else (ck (0 ≤ ((at' (at' p0.2 a16) a41).1) ∧ ((at' (at' p0.2 a16) a41).1) < (List.length p0.2 : Int)) (if (List.length (at' p0.2 ((at' (at' p0.2 a16) a41).1)) : Int) ≤ r48 then (law01_GraphBackIsMutual_k4 a41 ag40 (true)) else (ck (0 ≤ ((at' (at' p0.2 a16) a41).1) ∧ ((at' (at' p0.2 a16) a41).1) < (List.length p0.2 : Int)) (ck (0 ≤ r48 ∧ r48 < (List.length (at' p0.2 ((at' (at' p0.2 a16) a41).1)) : Int)) (if ((at' (at' p0.2 ((at' (at' p0.2 a16) a41).1)) r48).1) ≠ a16 then (law01_GraphBackIsMutual_k4 a41 ag40 (true)) else (Option.bind (m_graph_Back fuel ((p0.1, p0.2)) ((at' (at' p0.2 a16) a41).1) r48) fun r61 => (law01_GraphBackIsMutual_k4 a41 ag40 (decide (r61 ≠ a41))))))))))))) else (law01_GraphBackIsMutual_k2 fuel p0 a16 ag15 (())))
def law01_GraphBackIsMutual_s1 (fuel : Nat) (p0 : List (Int) × (List (List (Int × Int)))) (a16 : Int) (ag15 : (Int) → Option (Bool)) : Option (Bool) :=
  if a16 < (List.length p0.2 : Int) then (iter (law01_GraphBackIsMutual_s2 fuel p0 a16 ag15) fuel (0 : Int)) else (law01_GraphBackIsMutual_k1 fuel (()))
def m_law01_GraphBackIsMutual (fuel : Nat) (p0 : List (Int) × (List (List (Int × Int)))) : Option (Bool) :=
  Option.bind (m_law01_fair fuel ((p0.1, p0.2))) fun r2 => (if (!r2) = true then (Option.bind (m_law01_awake fuel ) fun r6 => (some (r6))) else (iter (law01_GraphBackIsMutual_s1 fuel p0) fuel (0 : Int)))

theorem body8 : HasBody Try.prog 8 := Try.call8

set_option maxHeartbeats 4000000 in
set_option maxRecDepth 20000 in
theorem t_law01_GraphBackIsMutual (fuel : Nat) {p0 : List (Int) × (List (List (Int × Int)))} (v0 : Value)  (v1 : Value)  (z2 : List (Value × List (Int × Int))) (r : Bool) (h : m_law01_GraphBackIsMutual fuel p0 = some r) :
    Meets Try.prog 8 #[Value.agg #[v0, v1]] [Sl RI64 v0 p0.1, S2 RI64I64p v1 z2 p0.2] (fun x : Unit => Value.bool (r)) (fun x l => l) (fun _ l => l) := by
  refine Meets.of (vs := [Value.agg #[v0, v1]]) Try.func8 rfl Try.ntmps8 rfl fun c => ?_
  unfold m_law01_GraphBackIsMutual at h
  refine J.seq ?_
  refine J.region ?_
  refine J.loud (Loud.box (cs := [v0, v1]) rfl rfl) rfl fun b1 => ?_
  refine J.quiet (Y.assign rfl) rfl ?_
  refine J.done ?_
  refine J.thenN ?_
  refine J.seq ?_
  refine J.seq ?_
  refine J.region ?_
  refine J.quiet (Y.loadBAll 0 rfl rfl rfl rfl) rfl ?_
  replace h := bnd h; obtain ⟨r2, hr3, h⟩ := h
  refine J.loud (Loud.callL body32 (t_law01_fair fuel v0 v1 z2 r2 hr3) rfl (LentAll.cons (Lent.fact 0 rfl) (LentAll.cons (Lent.fact 1 rfl) (LentAll.nil))) (fun _ _ => rfl)) rfl fun x4 => ?_
  refine J.quiet (Y.not rfl) rfl ?_
  refine J.done ?_
  refine J.thenN ?_
  refine J.cond (by exact rfl) (fun hp5 => ?_) (fun hp5 => ?_)
  · replace h := ifP hp5 h
    refine J.seq ?_
    refine J.region ?_
    replace h := bnd h; obtain ⟨r6, hr7, h⟩ := h
    refine J.loud (Loud.callL body33 (t_law01_awake fuel  r6 hr7) rfl (LentAll.nil) (fun _ _ => rfl)) rfl fun x8 => ?_
    refine J.quiet (Y.assign rfl) rfl ?_
    refine J.done ?_
    refine J.thenN ?_
    refine J.ret ?_
    refine J.thenR ?_
    obtain rfl := Option.some.inj h
    exact J.retG1 (()) rfl rfl (RV.tmp rfl) (SubM.nil) LentAll.nil
  · replace h := ifBN hp5 h
    refine J.skip ?_
    refine J.thenN ?_
    refine J.seq ?_
    refine J.midI (A := Unit) (B := Unit) (fun a9 => law01_GraphBackIsMutual_k1 fuel a9 = some r) (fun a9 b10 => []) (fun a9 b10 => []) (fun a9 b10 => [Sl RI64 v0 p0.1, S2 RI64I64p v1 z2 p0.2]) ?_ ?_
    · refine J.seq ?_
      refine J.region ?_
      refine J.quiet (Y.assign rfl) rfl ?_
      refine J.done ?_
      refine J.thenN ?_
      refine J.block ?_
      refine J.loopI (A := Int) (B := Unit) (law01_GraphBackIsMutual_s1 fuel p0) (fun a16 b17 => [(1, Value.pointer (some ⟨b1, 0, none⟩)), (3, Value.int .i64 (a16))]) (fun a16 b17 => [Blk b1 [v0, v1] 26]) (fun a16 b17 => [Sl RI64 v0 p0.1, S2 RI64I64p v1 z2 p0.2]) (0 : Int) (()) h (by repeat (first | exact SubF.nil | refine SubF.cons rfl ?_)) (SubM.refl _) (LentAll.refl _ _) ?_
      clear h
      intro k18 a16 b17 h
      unfold law01_GraphBackIsMutual_s1 at h
      refine J.seq ?_
      refine J.seq ?_
      refine J.region ?_
      refine J.quiet (Y.move rfl) rfl ?_
      refine J.quiet (Y.fieldB rfl rfl rfl rfl rfl) rfl ?_
      refine J.quiet (Y.loadB 0 rfl rfl rfl rfl rfl) rfl ?_
      refine J.quiet (Y.lenN rfl (Lent.fact 1 rfl) rfl) rfl ?_
      refine J.quiet (Y.lss rfl rfl) rfl ?_
      refine J.done ?_
      refine J.thenN ?_
      refine J.condD (by exact rfl) (fun hp19 => ?_) (fun hp19 => ?_)
      · replace h := ifP hp19 h
        refine J.skip ?_
        refine J.thenN ?_
        refine J.seq ?_
        refine J.block ?_
        refine J.seq ?_
        refine J.midI (A := Unit) (B := Unit) (fun a20 => law01_GraphBackIsMutual_k2 fuel p0 a16 (iter (law01_GraphBackIsMutual_s1 fuel p0) k18) a20 = some r) (fun a20 b21 => [(1, Value.pointer (some ⟨b1, 0, none⟩)), (3, Value.int .i64 (a16))]) (fun a20 b21 => [Blk b1 [v0, v1] 26]) (fun a20 b21 => [Sl RI64 v0 p0.1, S2 RI64I64p v1 z2 p0.2]) ?_ ?_
        · refine J.seq ?_
          refine J.region ?_
          refine J.quiet (Y.assign rfl) rfl ?_
          refine J.done ?_
          refine J.thenN ?_
          refine J.block ?_
          refine J.loopI (A := Int) (B := Unit) (law01_GraphBackIsMutual_s2 fuel p0 a16 (iter (law01_GraphBackIsMutual_s1 fuel p0) k18)) (fun a41 b42 => [(1, Value.pointer (some ⟨b1, 0, none⟩)), (3, Value.int .i64 (a16)), (4, Value.int .i64 (a41))]) (fun a41 b42 => [Blk b1 [v0, v1] 26]) (fun a41 b42 => [Sl RI64 v0 p0.1, S2 RI64I64p v1 z2 p0.2]) (0 : Int) (()) h (by repeat (first | exact SubF.nil | refine SubF.cons rfl ?_)) (SubM.refl _) (LentAll.refl _ _) ?_
          clear h
          intro k43 a41 b42 h
          unfold law01_GraphBackIsMutual_s2 at h
          refine J.seq ?_
          refine J.seq ?_
          refine J.region ?_
          refine J.quiet (Y.move rfl) rfl ?_
          refine J.quiet (Y.fieldB rfl rfl rfl rfl rfl) rfl ?_
          refine J.quiet (Y.loadB 0 rfl rfl rfl rfl rfl) rfl ?_
          refine J.quiet (Y.move rfl) rfl ?_
          replace h := ck_some h; obtain ⟨hc44, h⟩ := h
          refine J.quiet (Y.indexN rfl rfl (Lent.fact 1 rfl) rfl rfl hc44) rfl ?_
          refine J.quiet (Y.loadRow rfl (Lent.fact 1 rfl) rfl rfl hc44) rfl ?_
          refine J.quiet (Y.lenS rfl (Lent.el (Lent.fact 1 rfl) hc44.1 hc44.2) rfl) rfl ?_
          refine J.quiet (Y.lss rfl rfl) rfl ?_
          refine J.done ?_
          refine J.thenN ?_
          refine J.condD (by exact rfl) (fun hp45 => ?_) (fun hp45 => ?_)
          · replace h := ifP hp45 h
            refine J.skip ?_
            refine J.thenN ?_
            refine J.seq ?_
            refine J.block ?_
            refine J.seq ?_
            refine J.region ?_
            refine J.quiet (Y.fieldB rfl rfl rfl rfl rfl) rfl ?_
            refine J.quiet (Y.loadB 0 rfl rfl rfl rfl rfl) rfl ?_
            refine J.quiet (Y.move rfl) rfl ?_
            replace h := ck_some h; obtain ⟨hc46, h⟩ := h
            refine J.quiet (Y.indexN rfl rfl (Lent.fact 1 rfl) rfl rfl hc46) rfl ?_
            refine J.quiet (Y.loadRow rfl (Lent.fact 1 rfl) rfl rfl hc46) rfl ?_
            refine J.quiet (Y.move rfl) rfl ?_
            replace h := ck_some h; obtain ⟨hc47, h⟩ := h
            refine J.quiet (Y.indexS rfl rfl (Lent.el (Lent.fact 1 rfl) hc46.1 hc46.2) rfl rfl hc47) rfl ?_
            refine J.quiet (Y.fieldEl rfl rfl rfl rfl rfl) rfl ?_
            refine J.quiet (Y.loadS rfl (Lent.el (Lent.fact 1 rfl) hc46.1 hc46.2) rfl rfl rfl RI64I64pc0 hc47) rfl ?_
            refine J.quiet (Y.assign rfl) rfl ?_
            refine J.done ?_
            refine J.thenN ?_
            refine J.seq ?_
            refine J.region ?_
            refine J.quiet (Y.loadBAll 0 rfl rfl rfl rfl) rfl ?_
            refine J.quiet (Y.move rfl) rfl ?_
            refine J.quiet (Y.move rfl) rfl ?_
            replace h := bnd h; obtain ⟨r48, hr49, h⟩ := h
            refine J.loud (Loud.callL body42 (t_graph_Back fuel v0 v1 z2 r48 hr49) rfl (LentAll.cons (Lent.fact 0 rfl) (LentAll.cons (Lent.fact 1 rfl) (LentAll.nil))) (fun _ _ => rfl)) rfl fun x50 => ?_
            refine J.quiet (Y.assign rfl) rfl ?_
            refine J.done ?_
            refine J.thenN ?_
            refine J.seq ?_
            refine J.midI (A := Bool) (B := Unit) (fun a52 => law01_GraphBackIsMutual_k4 a41 (iter (law01_GraphBackIsMutual_s2 fuel p0 a16 (iter (law01_GraphBackIsMutual_s1 fuel p0) k18)) k43) a52 = some r) (fun a52 b53 => [(1, Value.pointer (some ⟨b1, 0, none⟩)), (3, Value.int .i64 (a16)), (4, Value.int .i64 (a41)), (73, Value.bool (a52))]) (fun a52 b53 => [Blk b1 [v0, v1] 26]) (fun a52 b53 => [Sl RI64 v0 p0.1, S2 RI64I64p v1 z2 p0.2]) ?_ ?_
            · refine J.region ?_
              refine J.quiet (Y.move rfl) rfl ?_
              refine J.quiet (Y.lss rfl rfl) rfl ?_
              refine J.quiet (Y.move rfl) rfl ?_
              refine J.guardD (by exact rfl) (by exact rfl) (fun hp55 => ?_) (fun hp55 => ?_)
              · replace h := ifP hp55 h
                refine J.guardN rfl rfl rfl ?_
                refine J.guardN rfl rfl rfl ?_
                refine J.guardN rfl rfl rfl ?_
                refine J.guardN rfl rfl rfl ?_
                refine J.guardN rfl rfl rfl ?_
                refine J.guardN rfl rfl rfl ?_
                refine J.guardN rfl rfl rfl ?_
                refine J.guardN rfl rfl rfl ?_
                refine J.quiet (Y.pickT rfl rfl) rfl ?_
                refine J.quiet (Y.move rfl) rfl ?_
                refine J.guardN rfl rfl rfl ?_
                refine J.guardN rfl rfl rfl ?_
                refine J.guardN rfl rfl rfl ?_
                refine J.guardN rfl rfl rfl ?_
                refine J.guardN rfl rfl rfl ?_
                refine J.guardN rfl rfl rfl ?_
                refine J.guardN rfl rfl rfl ?_
                refine J.guardN rfl rfl rfl ?_
                refine J.guardN rfl rfl rfl ?_
                refine J.guardN rfl rfl rfl ?_
                refine J.guardN rfl rfl rfl ?_
                refine J.quiet (Y.pickT rfl rfl) rfl ?_
                refine J.quiet (Y.move rfl) rfl ?_
                refine J.guardN rfl rfl rfl ?_
                refine J.guardN rfl rfl rfl ?_
                refine J.guardN rfl rfl rfl ?_
                refine J.guardN rfl rfl rfl ?_
                refine J.guardN rfl rfl rfl ?_
                refine J.guardN rfl rfl rfl ?_
                refine J.quiet (Y.pickT rfl rfl) rfl ?_
                refine J.done ?_
                refine J.thenN ?_
                exact J.meetI (true) (()) h (by repeat (first | exact SubF.nil | refine SubF.cons rfl ?_)) (SubM.refl _) (LentAll.refl _ _)
              · replace h := ifN hp55 h
                refine J.guardY rfl (Y.move rfl) rfl ?_
                refine J.guardY rfl (Y.fieldB rfl rfl rfl rfl rfl) rfl ?_
                refine J.guardY rfl (Y.loadB 0 rfl rfl rfl rfl rfl) rfl ?_
                refine J.guardY rfl (Y.move rfl) rfl ?_
                replace h := ck_some h; obtain ⟨hc56, h⟩ := h
                refine J.guardY rfl (Y.indexN rfl rfl (Lent.fact 1 rfl) rfl rfl hc56) rfl ?_
                refine J.guardY rfl (Y.loadRow rfl (Lent.fact 1 rfl) rfl rfl hc56) rfl ?_
                refine J.guardY rfl (Y.lenS rfl (Lent.el (Lent.fact 1 rfl) hc56.1 hc56.2) rfl) rfl ?_
                refine J.guardY rfl (Y.geq rfl rfl) rfl ?_
                refine J.quiet (Y.pickF rfl rfl) rfl ?_
                refine J.quiet (Y.move rfl) rfl ?_
                refine J.guardD (by exact rfl) (by exact rfl) (fun hp57 => ?_) (fun hp57 => ?_)
                · replace h := ifP hp57 h
                  refine J.guardN rfl rfl rfl ?_
                  refine J.guardN rfl rfl rfl ?_
                  refine J.guardN rfl rfl rfl ?_
                  refine J.guardN rfl rfl rfl ?_
                  refine J.guardN rfl rfl rfl ?_
                  refine J.guardN rfl rfl rfl ?_
                  refine J.guardN rfl rfl rfl ?_
                  refine J.guardN rfl rfl rfl ?_
                  refine J.guardN rfl rfl rfl ?_
                  refine J.guardN rfl rfl rfl ?_
                  refine J.guardN rfl rfl rfl ?_
                  refine J.quiet (Y.pickT rfl rfl) rfl ?_
                  refine J.quiet (Y.move rfl) rfl ?_
                  refine J.guardN rfl rfl rfl ?_
                  refine J.guardN rfl rfl rfl ?_
                  refine J.guardN rfl rfl rfl ?_
                  refine J.guardN rfl rfl rfl ?_
                  refine J.guardN rfl rfl rfl ?_
                  refine J.guardN rfl rfl rfl ?_
                  refine J.quiet (Y.pickT rfl rfl) rfl ?_
                  refine J.done ?_
                  refine J.thenN ?_
                  exact J.meetI (true) (()) h (by repeat (first | exact SubF.nil | refine SubF.cons rfl ?_)) (SubM.refl _) (LentAll.refl _ _)
                · replace h := ifN hp57 h
                  refine J.guardY rfl (Y.fieldB rfl rfl rfl rfl rfl) rfl ?_
                  refine J.guardY rfl (Y.loadB 0 rfl rfl rfl rfl rfl) rfl ?_
                  refine J.guardY rfl (Y.move rfl) rfl ?_
                  replace h := ck_some h; obtain ⟨hc58, h⟩ := h
                  refine J.guardY rfl (Y.indexN rfl rfl (Lent.fact 1 rfl) rfl rfl hc58) rfl ?_
                  refine J.guardY rfl (Y.loadRow rfl (Lent.fact 1 rfl) rfl rfl hc58) rfl ?_
                  refine J.guardY rfl (Y.move rfl) rfl ?_
                  replace h := ck_some h; obtain ⟨hc59, h⟩ := h
                  refine J.guardY rfl (Y.indexS rfl rfl (Lent.el (Lent.fact 1 rfl) hc58.1 hc58.2) rfl rfl hc59) rfl ?_
                  refine J.guardY rfl (Y.fieldEl rfl rfl rfl rfl rfl) rfl ?_
                  refine J.guardY rfl (Y.loadS rfl (Lent.el (Lent.fact 1 rfl) hc58.1 hc58.2) rfl rfl rfl RI64I64pc0 hc59) rfl ?_
                  refine J.guardY rfl (Y.move rfl) rfl ?_
                  refine J.guardY rfl (Y.neq rfl rfl) rfl ?_
                  refine J.quiet (Y.pickF rfl rfl) rfl ?_
                  refine J.quiet (Y.move rfl) rfl ?_
                  refine J.guardD (by exact rfl) (by exact rfl) (fun hp60 => ?_) (fun hp60 => ?_)
                  · replace h := ifP hp60 h
                    refine J.guardN rfl rfl rfl ?_
                    refine J.guardN rfl rfl rfl ?_
                    refine J.guardN rfl rfl rfl ?_
                    refine J.guardN rfl rfl rfl ?_
                    refine J.guardN rfl rfl rfl ?_
                    refine J.guardN rfl rfl rfl ?_
                    refine J.quiet (Y.pickT rfl rfl) rfl ?_
                    refine J.done ?_
                    refine J.thenN ?_
                    exact J.meetI (true) (()) h (by repeat (first | exact SubF.nil | refine SubF.cons rfl ?_)) (SubM.refl _) (LentAll.refl _ _)
                  · replace h := ifN hp60 h
                    refine J.guardY rfl (Y.loadBAll 0 rfl rfl rfl rfl) rfl ?_
                    refine J.guardY rfl (Y.move rfl) rfl ?_
                    refine J.guardY rfl (Y.move rfl) rfl ?_
                    replace h := bnd h; obtain ⟨r61, hr62, h⟩ := h
                    refine J.loudG rfl (Loud.callL body42 (t_graph_Back fuel v0 v1 z2 r61 hr62) rfl (LentAll.cons (Lent.fact 0 rfl) (LentAll.cons (Lent.fact 1 rfl) (LentAll.nil))) (fun _ _ => rfl)) rfl fun x63 => ?_
                    refine J.guardY rfl (Y.move rfl) rfl ?_
                    refine J.guardY rfl (Y.neq rfl rfl) rfl ?_
                    refine J.quiet (Y.pickF rfl rfl) rfl ?_
                    refine J.done ?_
                    refine J.thenN ?_
                    exact J.meetI (decide (r61 ≠ a41)) (()) h (by repeat (first | exact SubF.nil | refine SubF.cons rfl ?_)) (SubM.refl _) (LentAll.refl _ _)
            · clear h
              intro a52 b53 h
              unfold law01_GraphBackIsMutual_k4 at h
              refine J.cond (by exact rfl) (fun hp54 => ?_) (fun hp54 => ?_)
              · replace h := ifP hp54 h
                refine J.seq ?_
                refine J.region ?_
                refine J.quiet (Y.assign rfl) rfl ?_
                refine J.done ?_
                refine J.thenN ?_
                refine J.ret ?_
                refine J.inR ?_
                refine J.thenR ?_
                refine J.thenR ?_
                refine J.inR ?_
                refine J.thenR ?_
                refine J.inR ?_
                refine J.thenR ?_
                refine J.thenR ?_
                refine J.inR ?_
                refine J.thenR ?_
                obtain rfl := Option.some.inj h
                exact J.retG1 (()) rfl rfl (RV.tmp rfl) (SubM.nil) LentAll.nil
              · replace h := ifBN hp54 h
                refine J.skip ?_
                refine J.inN ?_
                refine J.thenN ?_
                refine J.region ?_
                refine J.quiet (Y.move rfl) rfl ?_
                refine J.quiet (Y.addW rfl rfl) rfl ?_
                refine J.quiet (Y.assign rfl) rfl ?_
                refine J.done ?_
                refine J.thenN ?_
                exact J.againI (wI .i64 (a41 + (1 : Int))) (()) h (by repeat (first | exact SubF.nil | refine SubF.cons rfl ?_)) (SubM.refl _) (LentAll.refl _ _)
          · replace h := ifN hp45 h
            refine J.exit ?_
            refine J.thenX ?_
            refine J.thenX ?_
            refine J.inX ?_
            refine J.thenN ?_
            exact J.meetI (()) (()) h (by repeat (first | exact SubF.nil | refine SubF.cons rfl ?_)) (SubM.refl _) (LentAll.refl _ _)
        · clear h
          intro a20 b21 h
          unfold law01_GraphBackIsMutual_k2 at h
          refine J.seq ?_
          refine J.midI (A := Bool) (B := Unit) (fun a23 => law01_GraphBackIsMutual_k3 a16 (iter (law01_GraphBackIsMutual_s1 fuel p0) k18) a23 = some r) (fun a23 b24 => [(1, Value.pointer (some ⟨b1, 0, none⟩)), (3, Value.int .i64 (a16)), (101, Value.bool (a23))]) (fun a23 b24 => [Blk b1 [v0, v1] 26]) (fun a23 b24 => [Sl RI64 v0 p0.1, S2 RI64I64p v1 z2 p0.2]) ?_ ?_
          · refine JR.start [0, 0, 0, 4, 0, 28, 60, 124, 255, 511, 1023, 2047, 2047, 8191, 16383, 32767, 65535, 131071, 131071, 524287, 131071, 1179647, 131071, 7471103, 15859711, 32636927, 67108863, 134217727] 26 mixedOrders (by decide +kernel) ?_
            refine JR.open (by exact rfl) ?_
            refine JR.qt rfl (SubM.refl _) (SubL.nil) (Y.loadBAll 0 rfl rfl rfl rfl) HistOk.z ?_
            refine JR.qt rfl (SubM.nil) (SubL.nil) (Y.move rfl) HistOk.z ?_
            refine JR.qt rfl (SubM.nil) (SubL.nil) (Y.fieldB rfl rfl rfl rfl rfl) HistOk.z ?_
            refine JR.qt rfl (SubM.refl _) (SubL.nil) (Y.loadB 0 rfl rfl rfl rfl rfl) HistOk.z ?_
            refine JR.qt rfl (SubM.nil) (SubL.nil) (Y.move rfl) HistOk.z ?_
            replace h := ck_some h; obtain ⟨hc26, h⟩ := h
            refine JR.qt rfl (SubM.nil) (SubL.cons (List.mem_of_getElem? (i := 1) rfl) (SubL.nil)) (Y.indexN rfl rfl (Lent.fact 0 rfl) rfl rfl hc26) HistOk.z ?_
            refine JR.qt rfl (SubM.nil) (SubL.cons (List.mem_of_getElem? (i := 1) rfl) (SubL.nil)) (Y.loadRow rfl (Lent.fact 0 rfl) rfl rfl hc26) HistOk.z ?_
            refine JR.qt rfl (SubM.nil) (SubL.cons (List.mem_of_getElem? (i := 1) rfl) (SubL.nil)) (Y.lenS rfl (Lent.el (Lent.fact 0 rfl) hc26.1 hc26.2) rfl) HistOk.z ?_
            replace h := bnd h; obtain ⟨r27, hr28, h⟩ := h
            refine JR.loud rfl rfl rfl (Loud.callL body42 (t_graph_Back fuel v0 v1 z2 r27 hr28) rfl (LentAll.cons (Lent.fact 0 rfl) (LentAll.cons (Lent.fact 1 rfl) (LentAll.nil))) (fun _ _ => rfl)) rfl (fun x29 => (BsOk.b rfl (BsOk.b rfl (BsOk.b rfl (BsOk.b rfl (BsOk.b rfl (BsOk.b rfl (BsOk.b rfl (BsOk.b rfl BsOk.z))))))))) fun x29 => ?_
            refine JR.qt rfl (SubM.nil) (SubL.nil) (Y.neq rfl rfl) (HistOk.b rfl HistOk.z) ?_
            refine JR.qt rfl (SubM.nil) (SubL.nil) (Y.move rfl) (HistOk.b rfl HistOk.z) ?_
            refine JR.guardD (by exact rfl) (by exact rfl) (by exact rfl) (fun hp30 => ?_) (fun hp30 => ?_)
            · replace h := ifP hp30 h
              refine JR.guardN rfl rfl rfl rfl ?_
              refine JR.guardN rfl rfl rfl rfl ?_
              refine JR.guardN rfl rfl rfl rfl ?_
              refine JR.guardN rfl rfl rfl rfl ?_
              refine JR.qt rfl (SubM.nil) (SubL.nil) (Y.pickT rfl rfl) (HistOk.b rfl HistOk.z) ?_
              refine JR.qt rfl (SubM.nil) (SubL.nil) (Y.move rfl) (HistOk.b rfl HistOk.z) ?_
              refine JR.guardN rfl rfl rfl rfl ?_
              refine JR.guardN rfl rfl rfl rfl ?_
              refine JR.guardN rfl rfl rfl rfl ?_
              refine JR.guardN rfl rfl rfl rfl ?_
              refine JR.guardN rfl rfl rfl rfl ?_
              refine JR.guardN rfl rfl rfl rfl ?_
              refine JR.guardN rfl rfl rfl rfl ?_
              refine JR.guardN rfl rfl rfl rfl ?_
              refine JR.guardN rfl rfl rfl rfl ?_
              refine JR.tailD 26 rfl rfl ?_
              refine J.guardN rfl rfl rfl ?_
              refine J.quiet (Y.pickT rfl rfl) rfl ?_
              refine J.done ?_
              refine J.thenN ?_
              exact J.meetI (true) (()) h (by repeat (first | exact SubF.nil | refine SubF.cons rfl ?_)) (SubM.refl _) (LentAll.refl _ _)
            · replace h := ifN hp30 h
              refine JR.qtG rfl (SubM.refl _) (SubL.nil) (Y.loadBAll 0 rfl rfl rfl rfl) (HistOk.b rfl HistOk.z) ?_
              refine JR.qtG rfl (SubM.nil) (SubL.nil) (Y.move rfl) (HistOk.b rfl HistOk.z) ?_
              replace h := bnd h; obtain ⟨r31, hr32, h⟩ := h
              refine JR.loudG rfl rfl rfl rfl (Loud.callL body42 (t_graph_Back fuel v0 v1 z2 r31 hr32) rfl (LentAll.cons (Lent.fact 0 rfl) (LentAll.cons (Lent.fact 1 rfl) (LentAll.nil))) (fun _ _ => rfl)) rfl (fun x33 => (BsOk.b rfl (BsOk.b rfl (BsOk.b rfl (BsOk.b rfl (BsOk.b rfl (BsOk.b rfl (BsOk.b rfl (BsOk.b rfl (BsOk.b rfl (BsOk.b rfl (BsOk.b rfl (BsOk.b rfl BsOk.z))))))))))))) fun x33 => ?_
              refine JR.qtG rfl (SubM.nil) (SubL.nil) (Y.neq rfl rfl) (HistOk.b rfl (HistOk.b rfl HistOk.z)) ?_
              refine JR.qt rfl (SubM.nil) (SubL.nil) (Y.pickF rfl rfl) (HistOk.b rfl (HistOk.b rfl HistOk.z)) ?_
              refine JR.qt rfl (SubM.nil) (SubL.nil) (Y.move rfl) (HistOk.b rfl (HistOk.b rfl HistOk.z)) ?_
              refine JR.guardD (by exact rfl) (by exact rfl) (by exact rfl) (fun hp34 => ?_) (fun hp34 => ?_)
              · replace h := ifP hp34 h
                refine JR.guardN rfl rfl rfl rfl ?_
                refine JR.guardN rfl rfl rfl rfl ?_
                refine JR.guardN rfl rfl rfl rfl ?_
                refine JR.guardN rfl rfl rfl rfl ?_
                refine JR.guardN rfl rfl rfl rfl ?_
                refine JR.guardN rfl rfl rfl rfl ?_
                refine JR.guardN rfl rfl rfl rfl ?_
                refine JR.guardN rfl rfl rfl rfl ?_
                refine JR.guardN rfl rfl rfl rfl ?_
                refine JR.tailD 26 rfl rfl ?_
                refine J.guardN rfl rfl rfl ?_
                refine J.quiet (Y.pickT rfl rfl) rfl ?_
                refine J.done ?_
                refine J.thenN ?_
                exact J.meetI (true) (()) h (by repeat (first | exact SubF.nil | refine SubF.cons rfl ?_)) (SubM.refl _) (LentAll.refl _ _)
              · replace h := ifN hp34 h
                refine JR.qtG rfl (SubM.refl _) (SubL.nil) (Y.loadBAll 0 rfl rfl rfl rfl) (HistOk.b rfl (HistOk.b rfl HistOk.z)) ?_
                refine JR.qtG rfl (SubM.nil) (SubL.nil) (Y.move rfl) (HistOk.b rfl (HistOk.b rfl HistOk.z)) ?_
                replace h := bnd h; obtain ⟨r35, hr36, h⟩ := h
                refine JR.loudG rfl rfl rfl rfl (Loud.callL body40 (t_graph_Degree fuel v0 v1 z2 r35 hr36) rfl (LentAll.cons (Lent.fact 0 rfl) (LentAll.cons (Lent.fact 1 rfl) (LentAll.nil))) (fun _ _ => rfl)) rfl (fun x37 => (BsOk.b rfl (BsOk.b rfl (BsOk.b rfl (BsOk.b rfl (BsOk.b rfl (BsOk.b rfl (BsOk.b rfl (BsOk.b rfl (BsOk.b rfl (BsOk.b rfl (BsOk.b rfl (BsOk.b rfl (BsOk.b rfl (BsOk.b rfl (BsOk.b rfl (BsOk.b rfl (BsOk.b rfl BsOk.z)))))))))))))))))) fun x37 => ?_
                refine JR.qtG rfl (SubM.nil) (SubL.nil) (Y.fieldB rfl rfl rfl rfl rfl) (HistOk.h (SubM.nil) (SubL.nil) (HistOk.b rfl (HistOk.b rfl HistOk.z))) ?_
                refine JR.qtG rfl (SubM.refl _) (SubL.nil) (Y.loadB 0 rfl rfl rfl rfl rfl) (HistOk.h (SubM.cons 0 rfl (SubM.nil)) (SubL.nil) (HistOk.b rfl (HistOk.b rfl HistOk.z))) ?_
                refine JR.qtG rfl (SubM.nil) (SubL.nil) (Y.move rfl) (HistOk.h (SubM.nil) (SubL.nil) (HistOk.b rfl (HistOk.b rfl HistOk.z))) ?_
                replace h := ck_some h; obtain ⟨hc38, h⟩ := h
                refine JR.qtG rfl (SubM.nil) (SubL.cons (List.mem_of_getElem? (i := 1) rfl) (SubL.nil)) (Y.indexN rfl rfl (Lent.fact 0 rfl) rfl rfl hc38) (HistOk.h (SubM.nil) (SubL.cons (List.mem_of_getElem? (i := 1) rfl) (SubL.nil)) (HistOk.b rfl (HistOk.b rfl HistOk.z))) ?_
                refine JR.qtG rfl (SubM.nil) (SubL.cons (List.mem_of_getElem? (i := 1) rfl) (SubL.nil)) (Y.loadRow rfl (Lent.fact 0 rfl) rfl rfl hc38) (HistOk.h (SubM.nil) (SubL.cons (List.mem_of_getElem? (i := 1) rfl) (SubL.nil)) (HistOk.b rfl (HistOk.b rfl HistOk.z))) ?_
                refine JR.qtG rfl (SubM.nil) (SubL.cons (List.mem_of_getElem? (i := 1) rfl) (SubL.nil)) (Y.lenS rfl (Lent.el (Lent.fact 0 rfl) hc38.1 hc38.2) rfl) (HistOk.h (SubM.nil) (SubL.cons (List.mem_of_getElem? (i := 1) rfl) (SubL.nil)) (HistOk.b rfl (HistOk.b rfl HistOk.z))) ?_
                refine JR.tailD 26 rfl rfl ?_
                refine J.guardY rfl (Y.neq rfl rfl) rfl ?_
                refine J.quiet (Y.pickF rfl rfl) rfl ?_
                refine J.done ?_
                refine J.thenN ?_
                exact J.meetI (decide (r35 ≠ (List.length (at' p0.2 a16) : Int))) (()) h (by repeat (first | exact SubF.nil | refine SubF.cons rfl ?_)) (SubM.refl _) (LentAll.refl _ _)
          · clear h
            intro a23 b24 h
            unfold law01_GraphBackIsMutual_k3 at h
            refine J.cond (by exact rfl) (fun hp25 => ?_) (fun hp25 => ?_)
            · replace h := ifP hp25 h
              refine J.seq ?_
              refine J.region ?_
              refine J.quiet (Y.assign rfl) rfl ?_
              refine J.done ?_
              refine J.thenN ?_
              refine J.ret ?_
              refine J.inR ?_
              refine J.thenR ?_
              refine J.thenR ?_
              refine J.inR ?_
              refine J.thenR ?_
              obtain rfl := Option.some.inj h
              exact J.retG1 (()) rfl rfl (RV.tmp rfl) (SubM.nil) LentAll.nil
            · replace h := ifBN hp25 h
              refine J.skip ?_
              refine J.inN ?_
              refine J.thenN ?_
              refine J.region ?_
              refine J.quiet (Y.move rfl) rfl ?_
              refine J.quiet (Y.addW rfl rfl) rfl ?_
              refine J.quiet (Y.assign rfl) rfl ?_
              refine J.done ?_
              refine J.thenN ?_
              exact J.againI (wI .i64 (a16 + (1 : Int))) (()) h (by repeat (first | exact SubF.nil | refine SubF.cons rfl ?_)) (SubM.refl _) (LentAll.refl _ _)
      · replace h := ifN hp19 h
        refine J.exit ?_
        refine J.thenX ?_
        refine J.thenX ?_
        refine J.inX ?_
        refine J.thenN ?_
        exact J.meetI (()) (()) h (by repeat (first | exact SubF.nil | refine SubF.cons rfl ?_)) (SubM.nil) (LentAll.refl _ _)
    · clear h
      intro a9 b10 h
      unfold law01_GraphBackIsMutual_k1 at h
      refine J.seq ?_
      refine J.region ?_
      replace h := bnd h; obtain ⟨r11, hr12, h⟩ := h
      refine J.loud (Loud.callL body33 (t_law01_awake fuel  r11 hr12) rfl (LentAll.nil) (fun _ _ => rfl)) rfl fun x13 => ?_
      refine J.quiet (Y.assign rfl) rfl ?_
      refine J.done ?_
      refine J.thenN ?_
      refine J.ret ?_
      obtain rfl := Option.some.inj h
      exact J.retG1 (()) rfl rfl (RV.tmp rfl) (SubM.refl _) LentAll.nil

end Go.Proofs.Ytemhmmcakmidkaa
