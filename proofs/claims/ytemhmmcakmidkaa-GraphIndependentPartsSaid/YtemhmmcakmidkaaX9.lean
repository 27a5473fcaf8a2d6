/- The model of selfstablaw01.GraphIndependentParts and the proof that the function meets it, by program (gen/xt.py). Conditions: none. -/
import Derived.Test.YtemhmmcakmidkaaX32
import Derived.Test.YtemhmmcakmidkaaX33
import Derived.Test.YtemhmmcakmidkaaX43
import Derived.Test.YtemhmmcakmidkaaX44
import Derived.Test.YtemhmmcakmidkaaX45
namespace Go.Proofs.Ytemhmmcakmidkaa
open Go.Sx
set_option linter.unusedVariables false
set_option linter.unusedSimpArgs false

def law01_GraphIndependentParts_k3  (a23 : Bool) : Option (Bool) :=
  some (a23)
def law01_GraphIndependentParts_k2 (fuel : Nat) (r12 : Bool) (a20 : Bool) : Option (Bool) :=
  Option.bind (m_law01_awake fuel ) fun r25 => (if r25 = true then (law01_GraphIndependentParts_k3  ((r12 == (!a20)))) else (law01_GraphIndependentParts_k3  (false)))
def law01_GraphIndependentParts_k4 (a32 : Bool × Int) (ag31 : (Bool × Int) → Option (Bool)) (a37 : Bool) : Option (Bool) :=
  ag31 (a37, (wI .i64 (a32.2 + (1 : Int))))
def law01_GraphIndependentParts_k5 (a42 : Bool × Int) (ag41 : (Bool × Int) → Option (Bool)) (a48 : Bool) : Option (Bool) :=
  ag41 (a48, (wI .i64 (a42.2 + (1 : Int))))
def law01_GraphIndependentParts_s2 (fuel : Nat) (p0 : List (Int) × (List (List (Int × Int)))) (p1 : Int) (r9 : Int) (a32 : Bool × Int) (ag31 : (Bool × Int) → Option (Bool)) (a42 : Bool × Int) (ag41 : (Bool × Int) → Option (Bool)) : Option (Bool) :=
  ck (0 ≤ a32.2 ∧ a32.2 < (List.length p0.2 : Int)) (if a42.2 < (List.length (at' p0.2 a32.2) : Int) then (if a42.1 = true then (law01_GraphIndependentParts_k5 a42 ag41 (true)) else (Option.bind (m_ref01_Has fuel (bAnd .u32 p1 r9) a32.2) fun r51 => (if r51 = true then (ck (0 ≤ a32.2 ∧ a32.2 < (List.length p0.2 : Int)) (ck (0 ≤ a42.2 ∧ a42.2 < (List.length (at' p0.2 a32.2) : Int)) (Option.bind (m_ref01_Has fuel (bAnd .u32 p1 r9) ((at' (at' p0.2 a32.2) a42.2).1)) fun r57 => (law01_GraphIndependentParts_k5 a42 ag41 (r57))))) else (law01_GraphIndependentParts_k5 a42 ag41 (false))))) else (law01_GraphIndependentParts_k4 a32 ag31 (a42.1)))
def law01_GraphIndependentParts_s1 (fuel : Nat) (p0 : List (Int) × (List (List (Int × Int)))) (p1 : Int) (r9 : Int) (r12 : Bool) (a32 : Bool × Int) (ag31 : (Bool × Int) → Option (Bool)) : Option (Bool) :=
  if a32.2 < (List.length p0.2 : Int) then (iter (law01_GraphIndependentParts_s2 fuel p0 p1 r9 a32 ag31) fuel (a32.1, (0 : Int))) else (law01_GraphIndependentParts_k2 fuel r12 (a32.1))
def law01_GraphIndependentParts_k1 (fuel : Nat) (p0 : List (Int) × (List (List (Int × Int)))) (p1 : Int) (r9 : Int) (r12 : Bool) (a16 : Bool) : Option (Bool) :=
  if a16 = true then (some (false)) else (iter (law01_GraphIndependentParts_s1 fuel p0 p1 r9 r12) fuel (false, (0 : Int)))
def m_law01_GraphIndependentParts (fuel : Nat) (p0 : List (Int) × (List (List (Int × Int)))) (p1 : Int) (p2 : Int) : Option (Bool) :=
  Option.bind (m_law01_fair fuel ((p0.1, p0.2))) fun r2 => (if (!r2) = true then (Option.bind (m_law01_awake fuel ) fun r6 => (some (r6))) else (Option.bind (m_ref01_All fuel (List.length p0.2 : Int)) fun r9 => (Option.bind (m_graph_Independent fuel ((p0.1, p0.2)) (bAnd .u32 p1 r9)) fun r12 => (if r12 = true then (Option.bind (m_graph_Independent fuel ((p0.1, p0.2)) (bAnd .u32 (bAnd .u32 p1 r9) p2)) fun r61 => (law01_GraphIndependentParts_k1 fuel p0 p1 r9 r12 ((!r61)))) else (law01_GraphIndependentParts_k1 fuel p0 p1 r9 r12 (false))))))

theorem body9 : HasBody Try.prog 9 := Try.call9

set_option maxHeartbeats 4000000 in
set_option maxRecDepth 20000 in
theorem t_law01_GraphIndependentParts (fuel : Nat) {p0 : List (Int) × (List (List (Int × Int)))} {p1 : Int} {p2 : Int} (v0 : Value)  (v1 : Value)  (z2 : List (Value × List (Int × Int))) (r : Bool) (h : m_law01_GraphIndependentParts fuel p0 p1 p2 = some r) :
    Meets Try.prog 9 #[Value.agg #[v0, v1], Value.int .u32 (p1), Value.int .u32 (p2)] [Sl RI64 v0 p0.1, S2 RI64I64p v1 z2 p0.2] (fun x : Unit => Value.bool (r)) (fun x l => l) (fun _ l => l) := by
  refine Meets.of (vs := [Value.agg #[v0, v1], Value.int .u32 (p1), Value.int .u32 (p2)]) Try.func9 rfl Try.ntmps9 rfl fun c => ?_
  unfold m_law01_GraphIndependentParts at h
  refine J.seq ?_
  refine J.region ?_
  refine J.loud (Loud.box (cs := [v0, v1]) rfl rfl) rfl fun b1 => ?_
  refine J.quiet (Y.assign rfl) rfl ?_
  refine J.done ?_
  refine J.thenN ?_
  refine J.seq ?_
  refine J.seq ?_
  refine J.region ?_
  refine J.quiet (Y.loadBAll 0 rfl rfl rfl rfl) rfl ?_
  replace h := bnd h; obtain ⟨r2, hr3, h⟩ := h
  refine J.loud (Loud.callL body32 (t_law01_fair fuel v0 v1 z2 r2 hr3) rfl (LentAll.cons (Lent.fact 0 rfl) (LentAll.cons (Lent.fact 1 rfl) (LentAll.nil))) (fun _ _ => rfl)) rfl fun x4 => ?_
  refine J.quiet (Y.not rfl) rfl ?_
  refine J.done ?_
  refine J.thenN ?_
  refine J.cond (by exact rfl) (fun hp5 => ?_) (fun hp5 => ?_)
  · replace h := ifP hp5 h
    refine J.seq ?_
    refine J.region ?_
    replace h := bnd h; obtain ⟨r6, hr7, h⟩ := h
    refine J.loud (Loud.callL body33 (t_law01_awake fuel  r6 hr7) rfl (LentAll.nil) (fun _ _ => rfl)) rfl fun x8 => ?_
    refine J.quiet (Y.assign rfl) rfl ?_
    refine J.done ?_
    refine J.thenN ?_
    refine J.ret ?_
    refine J.thenR ?_
    obtain rfl := Option.some.inj h
    exact J.retG1 (()) rfl rfl (RV.tmp rfl) (SubM.nil) LentAll.nil
  · replace h := ifBN hp5 h
    refine J.skip ?_
    refine J.thenN ?_
    refine J.seq ?_
    refine J.region ?_
    refine J.quiet (Y.move rfl) rfl ?_
    refine J.quiet (Y.fieldB rfl rfl rfl rfl rfl) rfl ?_
    refine J.quiet (Y.loadB 0 rfl rfl rfl rfl rfl) rfl ?_
    refine J.quiet (Y.lenN rfl (Lent.fact 1 rfl) rfl) rfl ?_
    replace h := bnd h; obtain ⟨r9, hr10, h⟩ := h
    refine J.loud (Loud.callL body43 (t_ref01_All fuel  r9 hr10) rfl (LentAll.nil) (fun _ _ => rfl)) rfl fun x11 => ?_
    refine J.quiet (Y.and rfl rfl) rfl ?_
    refine J.quiet (Y.assign rfl) rfl ?_
    refine J.done ?_
    refine J.thenN ?_
    refine J.seq ?_
    refine J.region ?_
    refine J.quiet (Y.loadBAll 0 rfl rfl rfl rfl) rfl ?_
    refine J.quiet (Y.move rfl) rfl ?_
    replace h := bnd h; obtain ⟨r12, hr13, h⟩ := h
    refine J.loud (Loud.callL body44 (t_graph_Independent fuel v0 v1 z2 r12 hr13) rfl (LentAll.cons (Lent.fact 0 rfl) (LentAll.cons (Lent.fact 1 rfl) (LentAll.nil))) (fun _ _ => rfl)) rfl fun x14 => ?_
    refine J.quiet (Y.assign rfl) rfl ?_
    refine J.done ?_
    refine J.thenN ?_
    refine J.seq ?_
    refine J.seq ?_
    refine J.midI (A := Bool) (B := Unit) (fun a16 => law01_GraphIndependentParts_k1 fuel p0 p1 r9 r12 a16 = some r) (fun a16 b17 => [(1, Value.int .u32 (bAnd .u32 p1 r9)), (3, Value.pointer (some ⟨b1, 0, none⟩)), (7, Value.bool (r12)), (32, Value.bool (a16))]) (fun a16 b17 => [Blk b1 [v0, v1] 26]) (fun a16 b17 => [Sl RI64 v0 p0.1, S2 RI64I64p v1 z2 p0.2]) ?_ ?_
    · refine J.region ?_
      refine J.quiet (Y.move rfl) rfl ?_
      refine J.quiet (Y.move rfl) rfl ?_
      refine J.guard (by exact rfl) (by exact rfl) (fun hp60 => ?_) (fun hp60 => ?_)
      · replace h := ifP hp60 h
        refine J.guardY rfl (Y.loadBAll 0 rfl rfl rfl rfl) rfl ?_
        refine J.guardY rfl (Y.move rfl) rfl ?_
        refine J.guardY rfl (Y.move rfl) rfl ?_
        refine J.guardY rfl (Y.and rfl rfl) rfl ?_
        replace h := bnd h; obtain ⟨r61, hr62, h⟩ := h
        refine J.loudG rfl (Loud.callL body44 (t_graph_Independent fuel v0 v1 z2 r61 hr62) rfl (LentAll.cons (Lent.fact 0 rfl) (LentAll.cons (Lent.fact 1 rfl) (LentAll.nil))) (fun _ _ => rfl)) rfl fun x63 => ?_
        refine J.guardY rfl (Y.not rfl) rfl ?_
        refine J.quiet (Y.pickT rfl rfl) rfl ?_
        refine J.done ?_
        refine J.thenN ?_
        exact J.meetI ((!r61)) (()) h (by repeat (first | exact SubF.nil | refine SubF.cons rfl ?_)) (SubM.refl _) (LentAll.refl _ _)
      · replace h := ifBN hp60 h
        refine J.guardN rfl rfl rfl ?_
        refine J.guardN rfl rfl rfl ?_
        refine J.guardN rfl rfl rfl ?_
        refine J.guardN rfl rfl rfl ?_
        refine J.guardN rfl rfl rfl ?_
        refine J.guardN rfl rfl rfl ?_
        refine J.quiet (Y.pickF rfl rfl) rfl ?_
        refine J.done ?_
        refine J.thenN ?_
        exact J.meetI (false) (()) h (by repeat (first | exact SubF.nil | refine SubF.cons rfl ?_)) (SubM.refl _) (LentAll.refl _ _)
    · clear h
      intro a16 b17 h
      unfold law01_GraphIndependentParts_k1 at h
      refine J.cond (by exact rfl) (fun hp18 => ?_) (fun hp18 => ?_)
      · replace h := ifP hp18 h
        refine J.seq ?_
        refine J.region ?_
        refine J.quiet (Y.assign rfl) rfl ?_
        refine J.done ?_
        refine J.thenN ?_
        refine J.ret ?_
        refine J.thenR ?_
        obtain rfl := Option.some.inj h
        exact J.retG1 (()) rfl rfl (RV.tmp rfl) (SubM.nil) LentAll.nil
      · replace h := ifBN hp18 h
        refine J.skip ?_
        refine J.thenN ?_
        refine J.seq ?_
        refine J.region ?_
        refine J.quiet (Y.assign rfl) rfl ?_
        refine J.done ?_
        refine J.thenN ?_
        refine J.seq ?_
        refine J.midI (A := Bool) (B := Unit) (fun a20 => law01_GraphIndependentParts_k2 fuel r12 a20 = some r) (fun a20 b21 => [(7, Value.bool (r12)), (8, Value.bool (a20))]) (fun a20 b21 => []) (fun a20 b21 => [Sl RI64 v0 p0.1, S2 RI64I64p v1 z2 p0.2]) ?_ ?_
        · refine J.seq ?_
          refine J.region ?_
          refine J.quiet (Y.assign rfl) rfl ?_
          refine J.done ?_
          refine J.thenN ?_
          refine J.block ?_
          refine J.loopI (A := Bool × Int) (B := Unit) (law01_GraphIndependentParts_s1 fuel p0 p1 r9 r12) (fun a32 b33 => [(1, Value.int .u32 (bAnd .u32 p1 r9)), (3, Value.pointer (some ⟨b1, 0, none⟩)), (7, Value.bool (r12)), (8, Value.bool (a32.1)), (9, Value.int .i64 (a32.2))]) (fun a32 b33 => [Blk b1 [v0, v1] 26]) (fun a32 b33 => [Sl RI64 v0 p0.1, S2 RI64I64p v1 z2 p0.2]) (false, (0 : Int)) (()) h (by repeat (first | exact SubF.nil | refine SubF.cons rfl ?_)) (SubM.refl _) (LentAll.refl _ _) ?_
          clear h
          intro k34 a32 b33 h
          unfold law01_GraphIndependentParts_s1 at h
          refine J.seq ?_
          refine J.seq ?_
          refine J.region ?_
          refine J.quiet (Y.move rfl) rfl ?_
          refine J.quiet (Y.fieldB rfl rfl rfl rfl rfl) rfl ?_
          refine J.quiet (Y.loadB 0 rfl rfl rfl rfl rfl) rfl ?_
          refine J.quiet (Y.lenN rfl (Lent.fact 1 rfl) rfl) rfl ?_
          refine J.quiet (Y.lss rfl rfl) rfl ?_
          refine J.done ?_
          refine J.thenN ?_
          refine J.condD (by exact rfl) (fun hp35 => ?_) (fun hp35 => ?_)
          · replace h := ifP hp35 h
            refine J.skip ?_
            refine J.thenN ?_
            refine J.seq ?_
            refine J.midI (A := Bool) (B := Unit) (fun a37 => law01_GraphIndependentParts_k4 a32 (iter (law01_GraphIndependentParts_s1 fuel p0 p1 r9 r12) k34) a37 = some r) (fun a37 b38 => [(1, Value.int .u32 (bAnd .u32 p1 r9)), (3, Value.pointer (some ⟨b1, 0, none⟩)), (7, Value.bool (r12)), (8, Value.bool (a37)), (9, Value.int .i64 (a32.2))]) (fun a37 b38 => [Blk b1 [v0, v1] 26]) (fun a37 b38 => [Sl RI64 v0 p0.1, S2 RI64I64p v1 z2 p0.2]) ?_ ?_
            · refine J.block ?_
              refine J.seq ?_
              refine J.region ?_
              refine J.quiet (Y.assign rfl) rfl ?_
              refine J.done ?_
              refine J.thenN ?_
              refine J.block ?_
              refine J.loopI (A := Bool × Int) (B := Unit) (law01_GraphIndependentParts_s2 fuel p0 p1 r9 a32 (iter (law01_GraphIndependentParts_s1 fuel p0 p1 r9 r12) k34)) (fun a42 b43 => [(1, Value.int .u32 (bAnd .u32 p1 r9)), (3, Value.pointer (some ⟨b1, 0, none⟩)), (7, Value.bool (r12)), (8, Value.bool (a42.1)), (9, Value.int .i64 (a32.2)), (10, Value.int .i64 (a42.2))]) (fun a42 b43 => [Blk b1 [v0, v1] 26]) (fun a42 b43 => [Sl RI64 v0 p0.1, S2 RI64I64p v1 z2 p0.2]) (a32.1, (0 : Int)) (()) h (by repeat (first | exact SubF.nil | refine SubF.cons rfl ?_)) (SubM.refl _) (LentAll.refl _ _) ?_
              clear h
              intro k44 a42 b43 h
              unfold law01_GraphIndependentParts_s2 at h
              refine J.seq ?_
              refine J.seq ?_
              refine J.region ?_
              refine J.quiet (Y.move rfl) rfl ?_
              refine J.quiet (Y.fieldB rfl rfl rfl rfl rfl) rfl ?_
              refine J.quiet (Y.loadB 0 rfl rfl rfl rfl rfl) rfl ?_
              refine J.quiet (Y.move rfl) rfl ?_
              replace h := ck_some h; obtain ⟨hc45, h⟩ := h
              refine J.quiet (Y.indexN rfl rfl (Lent.fact 1 rfl) rfl rfl hc45) rfl ?_
              refine J.quiet (Y.loadRow rfl (Lent.fact 1 rfl) rfl rfl hc45) rfl ?_
              refine J.quiet (Y.lenS rfl (Lent.el (Lent.fact 1 rfl) hc45.1 hc45.2) rfl) rfl ?_
              refine J.quiet (Y.lss rfl rfl) rfl ?_
              refine J.done ?_
              refine J.thenN ?_
              refine J.condD (by exact rfl) (fun hp46 => ?_) (fun hp46 => ?_)
              · replace h := ifP hp46 h
                refine J.skip ?_
                refine J.thenN ?_
                refine J.seq ?_
                refine J.midI (A := Bool) (B := Unit) (fun a48 => law01_GraphIndependentParts_k5 a42 (iter (law01_GraphIndependentParts_s2 fuel p0 p1 r9 a32 (iter (law01_GraphIndependentParts_s1 fuel p0 p1 r9 r12) k34)) k44) a48 = some r) (fun a48 b49 => [(1, Value.int .u32 (bAnd .u32 p1 r9)), (3, Value.pointer (some ⟨b1, 0, none⟩)), (7, Value.bool (r12)), (8, Value.bool (a48)), (9, Value.int .i64 (a32.2)), (10, Value.int .i64 (a42.2))]) (fun a48 b49 => [Blk b1 [v0, v1] 26]) (fun a48 b49 => [Sl RI64 v0 p0.1, S2 RI64I64p v1 z2 p0.2]) ?_ ?_
                · refine J.block ?_
                  refine J.region ?_
                  refine J.quiet (Y.move rfl) rfl ?_
                  refine J.quiet (Y.move rfl) rfl ?_
                  refine J.guard (by exact rfl) (by exact rfl) (fun hp50 => ?_) (fun hp50 => ?_)
                  · replace h := ifP hp50 h
                    refine J.guardN rfl rfl rfl ?_
                    refine J.guardN rfl rfl rfl ?_
                    refine J.guardN rfl rfl rfl ?_
                    refine J.guardN rfl rfl rfl ?_
                    refine J.qu (h := ?_)
                    refine J.qu (h := ?_)
                    refine J.qu (h := ?_)
                    refine J.qu (h := ?_)
                    refine J.qu (h := ?_)
                    refine J.qu (h := ?_)
                    refine J.qu (h := ?_)
                    refine J.qu (h := ?_)
                    refine J.qu (h := ?_)
                    refine J.qu (h := ?_)
                    refine J.qu (h := ?_)
                    refine J.guardN rfl rfl rfl ?_
                    refine J.quiet (Y.pickT rfl rfl) rfl ?_
                    refine J.quiet (Y.assign rfl) rfl ?_
                    refine J.done ?_
                    refine J.inN ?_
                    refine J.thenN ?_
                    exact J.meetI (true) (()) h (by repeat (first | exact SubF.nil | refine SubF.cons rfl ?_)) (SubM.refl _) (LentAll.refl _ _)
                  · replace h := ifBN hp50 h
                    refine J.guardY rfl (Y.move rfl) rfl ?_
                    refine J.guardY rfl (Y.move rfl) rfl ?_
                    replace h := bnd h; obtain ⟨r51, hr52, h⟩ := h
                    refine J.loudG rfl (Loud.callL body45 (t_ref01_Has fuel  r51 hr52) rfl (LentAll.nil) (fun _ _ => rfl)) rfl fun x53 => ?_
                    refine J.guardY rfl (Y.move rfl) rfl ?_
                    refine J.guard (by exact rfl) (by exact rfl) (fun hp54 => ?_) (fun hp54 => ?_)
                    · replace h := ifP hp54 h
                      refine J.guardY rfl (Y.move rfl) rfl ?_
                      refine J.guardY rfl (Y.fieldB rfl rfl rfl rfl rfl) rfl ?_
                      refine J.guardY rfl (Y.loadB 0 rfl rfl rfl rfl rfl) rfl ?_
                      refine J.guardY rfl (Y.move rfl) rfl ?_
                      replace h := ck_some h; obtain ⟨hc55, h⟩ := h
                      refine J.guardY rfl (Y.indexN rfl rfl (Lent.fact 1 rfl) rfl rfl hc55) rfl ?_
                      refine J.guardY rfl (Y.loadRow rfl (Lent.fact 1 rfl) rfl rfl hc55) rfl ?_
                      refine J.guardY rfl (Y.move rfl) rfl ?_
                      replace h := ck_some h; obtain ⟨hc56, h⟩ := h
                      refine J.guardY rfl (Y.indexS rfl rfl (Lent.el (Lent.fact 1 rfl) hc55.1 hc55.2) rfl rfl hc56) rfl ?_
                      refine J.guardY rfl (Y.fieldEl rfl rfl rfl rfl rfl) rfl ?_
                      refine J.guardY rfl (Y.loadS rfl (Lent.el (Lent.fact 1 rfl) hc55.1 hc55.2) rfl rfl rfl RI64I64pc0 hc56) rfl ?_
                      replace h := bnd h; obtain ⟨r57, hr58, h⟩ := h
                      refine J.loudG rfl (Loud.callL body45 (t_ref01_Has fuel  r57 hr58) rfl (LentAll.nil) (fun _ _ => rfl)) rfl fun x59 => ?_
                      refine J.guardY rfl (Y.pickT rfl rfl) rfl ?_
                      refine J.quiet (Y.pickF rfl rfl) rfl ?_
                      refine J.quiet (Y.assign rfl) rfl ?_
                      refine J.done ?_
                      refine J.inN ?_
                      refine J.thenN ?_
                      exact J.meetI (r57) (()) h (by repeat (first | exact SubF.nil | refine SubF.cons rfl ?_)) (SubM.refl _) (LentAll.refl _ _)
                    · replace h := ifBN hp54 h
                      refine J.guardN rfl rfl rfl ?_
                      refine J.guardN rfl rfl rfl ?_
                      refine J.guardN rfl rfl rfl ?_
                      refine J.guardN rfl rfl rfl ?_
                      refine J.guardN rfl rfl rfl ?_
                      refine J.guardN rfl rfl rfl ?_
                      refine J.guardN rfl rfl rfl ?_
                      refine J.guardN rfl rfl rfl ?_
                      refine J.guardN rfl rfl rfl ?_
                      refine J.guardN rfl rfl rfl ?_
                      refine J.guardN rfl rfl rfl ?_
                      refine J.guardY rfl (Y.pickF rfl rfl) rfl ?_
                      refine J.quiet (Y.pickF rfl rfl) rfl ?_
                      refine J.quiet (Y.assign rfl) rfl ?_
                      refine J.done ?_
                      refine J.inN ?_
                      refine J.thenN ?_
                      exact J.meetI (false) (()) h (by repeat (first | exact SubF.nil | refine SubF.cons rfl ?_)) (SubM.refl _) (LentAll.refl _ _)
                · clear h
                  intro a48 b49 h
                  unfold law01_GraphIndependentParts_k5 at h
                  refine J.region ?_
                  refine J.quiet (Y.move rfl) rfl ?_
                  refine J.quiet (Y.addW rfl rfl) rfl ?_
                  refine J.quiet (Y.assign rfl) rfl ?_
                  refine J.done ?_
                  refine J.thenN ?_
                  exact J.againI (a48, (wI .i64 (a42.2 + (1 : Int)))) (()) h (by repeat (first | exact SubF.nil | refine SubF.cons rfl ?_)) (SubM.refl _) (LentAll.refl _ _)
              · replace h := ifN hp46 h
                refine J.exit ?_
                refine J.thenX ?_
                refine J.thenX ?_
                refine J.inX ?_
                refine J.inN ?_
                refine J.thenN ?_
                exact J.meetI (a42.1) (()) h (by repeat (first | exact SubF.nil | refine SubF.cons rfl ?_)) (SubM.refl _) (LentAll.refl _ _)
            · clear h
              intro a37 b38 h
              unfold law01_GraphIndependentParts_k4 at h
              refine J.region ?_
              refine J.quiet (Y.move rfl) rfl ?_
              refine J.quiet (Y.addW rfl rfl) rfl ?_
              refine J.quiet (Y.assign rfl) rfl ?_
              refine J.done ?_
              refine J.thenN ?_
              exact J.againI (a37, (wI .i64 (a32.2 + (1 : Int)))) (()) h (by repeat (first | exact SubF.nil | refine SubF.cons rfl ?_)) (SubM.refl _) (LentAll.refl _ _)
          · replace h := ifN hp35 h
            refine J.exit ?_
            refine J.thenX ?_
            refine J.thenX ?_
            refine J.inX ?_
            refine J.thenN ?_
            exact J.meetI (a32.1) (()) h (by repeat (first | exact SubF.nil | refine SubF.cons rfl ?_)) (SubM.nil) (LentAll.refl _ _)
        · clear h
          intro a20 b21 h
          unfold law01_GraphIndependentParts_k2 at h
          refine J.seq ?_
          refine J.midI (A := Bool) (B := Unit) (fun a23 => law01_GraphIndependentParts_k3  a23 = some r) (fun a23 b24 => [(6, Value.bool (a23))]) (fun a23 b24 => []) (fun a23 b24 => [Sl RI64 v0 p0.1, S2 RI64I64p v1 z2 p0.2]) ?_ ?_
          · refine J.region ?_
            replace h := bnd h; obtain ⟨r25, hr26, h⟩ := h
            refine J.loud (Loud.callL body33 (t_law01_awake fuel  r25 hr26) rfl (LentAll.nil) (fun _ _ => rfl)) rfl fun x27 => ?_
            refine J.quiet (Y.move rfl) rfl ?_
            refine J.guard (by exact rfl) (by exact rfl) (fun hp28 => ?_) (fun hp28 => ?_)
            · replace h := ifP hp28 h
              refine J.guardY rfl (Y.move rfl) rfl ?_
              refine J.guardY rfl (Y.move rfl) rfl ?_
              refine J.guardY rfl (Y.not rfl) rfl ?_
              refine J.guardY rfl (Y.eqlB rfl rfl rfl) rfl ?_
              refine J.quiet (Y.pickT rfl rfl) rfl ?_
              refine J.quiet (Y.assign rfl) rfl ?_
              refine J.done ?_
              refine J.thenN ?_
              exact J.meetI ((r12 == (!a20))) (()) h (by repeat (first | exact SubF.nil | refine SubF.cons rfl ?_)) (SubM.refl _) (LentAll.refl _ _)
            · replace h := ifBN hp28 h
              refine J.guardN rfl rfl rfl ?_
              refine J.guardN rfl rfl rfl ?_
              refine J.guardN rfl rfl rfl ?_
              refine J.guardN rfl rfl rfl ?_
              refine J.quiet (Y.pickF rfl rfl) rfl ?_
              refine J.quiet (Y.assign rfl) rfl ?_
              refine J.done ?_
              refine J.thenN ?_
              exact J.meetI (false) (()) h (by repeat (first | exact SubF.nil | refine SubF.cons rfl ?_)) (SubM.refl _) (LentAll.refl _ _)
          · clear h
            intro a23 b24 h
            unfold law01_GraphIndependentParts_k3 at h
            refine J.ret ?_
            obtain rfl := Option.some.inj h
            exact J.retG1 (()) rfl rfl (RV.tmp rfl) (SubM.refl _) LentAll.nil

end Go.Proofs.Ytemhmmcakmidkaa
