/- Models and proofs of several functions in one text, by program (gen/xt.py). Conditions: none. -/
import Derived.Test.YtemhmmcakmidkaaXp
import Derived.Test.YtemhmmcakmidkaaX51
import Derived.Test.YtemhmmcakmidkaaX72
import Derived.Test.YtemhmmcakmidkaaX33
import Derived.Test.YtemhmmcakmidkaaX35
import Derived.Test.YtemhmmcakmidkaaX36
import Derived.Test.YtemhmmcakmidkaaX37
import Derived.Test.YtemhmmcakmidkaaX38
import Derived.Test.YtemhmmcakmidkaaX41
import Derived.Test.YtemhmmcakmidkaaX46
section
namespace Go.Proofs.Ytemhmmcakmidkaa
open Go.Sx
set_option linter.unusedVariables false
set_option linter.unusedSimpArgs false

def ref01_SameInts_k1  (a2 : Unit) : Option (Bool) :=
  some (true)
def ref01_SameInts_s1 (p0 : List (Int)) (p1 : List (Int)) (a6 : Int) (ag5 : (Int) → Option (Bool)) : Option (Bool) :=
  if a6 < (List.length p0 : Int) then (ck (0 ≤ a6 ∧ a6 < (List.length p0 : Int)) (ck (0 ≤ a6 ∧ a6 < (List.length p1 : Int)) (if (at' p0 a6) ≠ (at' p1 a6) then (some (false)) else (ag5 (wI .i64 (a6 + (1 : Int))))))) else (ref01_SameInts_k1  (()))
def m_ref01_SameInts (fuel : Nat) (p0 : List (Int)) (p1 : List (Int)) : Option (Bool) :=
  if (List.length p0 : Int) ≠ (List.length p1 : Int) then (some (false)) else (iter (ref01_SameInts_s1 p0 p1) fuel (0 : Int))

theorem body53 : HasBody Try.prog 53 := Try.call53

set_option maxHeartbeats 4000000 in
set_option maxRecDepth 20000 in
theorem t_ref01_SameInts (fuel : Nat) {p0 : List (Int)} {p1 : List (Int)} (v0 : Value)  (v1 : Value) (r : Bool) (h : m_ref01_SameInts fuel p0 p1 = some r) :
    Meets Try.prog 53 #[v0, v1] [Sl RI64 v0 p0, Sl RI64 v1 p1] (fun x : Unit => Value.bool (r)) (fun x l => l) (fun _ l => l) := by
  refine Meets.of (vs := [v0, v1]) Try.func53 rfl Try.ntmps53 rfl fun c => ?_
  unfold m_ref01_SameInts at h
  refine J.seq ?_
  refine J.region ?_
  refine J.quiet (Y.assign rfl) rfl ?_
  refine J.done ?_
  refine J.thenN ?_
  refine J.seq ?_
  refine J.seq ?_
  refine J.region ?_
  refine J.quiet (Y.move rfl) rfl ?_
  refine J.quiet (Y.lenS rfl (Lent.fact 0 rfl) rfl) rfl ?_
  refine J.quiet (Y.move rfl) rfl ?_
  refine J.quiet (Y.lenS rfl (Lent.fact 1 rfl) rfl) rfl ?_
  refine J.quiet (Y.neq rfl rfl) rfl ?_
  refine J.done ?_
  refine J.thenN ?_
  refine J.condD (by exact rfl) (fun hp1 => ?_) (fun hp1 => ?_)
  · replace h := ifP hp1 h
    refine J.seq ?_
    refine J.region ?_
    refine J.quiet (Y.assign rfl) rfl ?_
    refine J.done ?_
    refine J.thenN ?_
    refine J.ret ?_
    refine J.thenR ?_
    obtain rfl := Option.some.inj h
    exact J.retG1 (()) rfl rfl (RV.tmp rfl) (SubM.refl _) LentAll.nil
  · replace h := ifN hp1 h
    refine J.skip ?_
    refine J.thenN ?_
    refine J.seq ?_
    refine J.midI (A := Unit) (B := Unit) (fun a2 => ref01_SameInts_k1  a2 = some r) (fun a2 b3 => []) (fun a2 b3 => []) (fun a2 b3 => [Sl RI64 v0 p0, Sl RI64 v1 p1]) ?_ ?_
    · refine J.seq ?_
      refine J.region ?_
      refine J.quiet (Y.assign rfl) rfl ?_
      refine J.done ?_
      refine J.thenN ?_
      refine J.block ?_
      refine J.loopI (A := Int) (B := Unit) (ref01_SameInts_s1 p0 p1) (fun a6 b7 => [(0, v0), (1, v1), (5, Value.int .i64 (a6))]) (fun a6 b7 => []) (fun a6 b7 => [Sl RI64 v0 p0, Sl RI64 v1 p1]) (0 : Int) (()) h (by repeat (first | exact SubF.nil | refine SubF.cons rfl ?_)) (SubM.refl _) (LentAll.refl _ _) ?_
      clear h
      intro k8 a6 b7 h
      unfold ref01_SameInts_s1 at h
      refine J.seq ?_
      refine J.seq ?_
      refine J.region ?_
      refine J.quiet (Y.move rfl) rfl ?_
      refine J.quiet (Y.move rfl) rfl ?_
      refine J.quiet (Y.lenS rfl (Lent.fact 0 rfl) rfl) rfl ?_
      refine J.quiet (Y.lss rfl rfl) rfl ?_
      refine J.done ?_
      refine J.thenN ?_
      refine J.condD (by exact rfl) (fun hp9 => ?_) (fun hp9 => ?_)
      · replace h := ifP hp9 h
        refine J.skip ?_
        refine J.thenN ?_
        refine J.seq ?_
        refine J.block ?_
        refine J.seq ?_
        refine JR.start [0, 0, 3, 7, 0, 0, 48, 112, 255] 8 mixedOrders (by decide +kernel) ?_
        refine JR.open (by exact rfl) ?_
        refine JR.qt rfl (SubM.refl _) (SubL.nil) (Y.move rfl) HistOk.z ?_
        refine JR.qt rfl (SubM.refl _) (SubL.nil) (Y.move rfl) HistOk.z ?_
        replace h := ck_some h; obtain ⟨hc10, h⟩ := h
        refine JR.qt rfl (SubM.refl _) (SubL.cons (List.mem_of_getElem? (i := 0) rfl) (SubL.nil)) (Y.indexS rfl rfl (Lent.fact 0 rfl) rfl rfl hc10) HistOk.z ?_
        refine JR.qt rfl (SubM.refl _) (SubL.cons (List.mem_of_getElem? (i := 0) rfl) (SubL.nil)) (Y.loadS0 rfl (Lent.fact 0 rfl) rfl rfl rfl RI64c0 hc10) HistOk.z ?_
        refine JR.qt rfl (SubM.refl _) (SubL.nil) (Y.move rfl) HistOk.z ?_
        refine JR.qt rfl (SubM.refl _) (SubL.nil) (Y.move rfl) HistOk.z ?_
        replace h := ck_some h; obtain ⟨hc11, h⟩ := h
        refine JR.qt rfl (SubM.refl _) (SubL.cons (List.mem_of_getElem? (i := 1) rfl) (SubL.nil)) (Y.indexS rfl rfl (Lent.fact 0 rfl) rfl rfl hc11) HistOk.z ?_
        refine JR.qt rfl (SubM.refl _) (SubL.cons (List.mem_of_getElem? (i := 1) rfl) (SubL.nil)) (Y.loadS0 rfl (Lent.fact 0 rfl) rfl rfl rfl RI64c0 hc11) HistOk.z ?_
        refine JR.tailD 8 rfl rfl ?_
        refine J.quiet (Y.neq rfl rfl) rfl ?_
        refine J.done ?_
        refine J.thenN ?_
        refine J.condD (by exact rfl) (fun hp12 => ?_) (fun hp12 => ?_)
        · replace h := ifP hp12 h
          refine J.seq ?_
          refine J.region ?_
          refine J.quiet (Y.assign rfl) rfl ?_
          refine J.done ?_
          refine J.thenN ?_
          refine J.ret ?_
          refine J.inR ?_
          refine J.thenR ?_
          refine J.thenR ?_
          refine J.inR ?_
          refine J.thenR ?_
          obtain rfl := Option.some.inj h
          exact J.retG1 (()) rfl rfl (RV.tmp rfl) (SubM.refl _) LentAll.nil
        · replace h := ifN hp12 h
          refine J.skip ?_
          refine J.inN ?_
          refine J.thenN ?_
          refine J.region ?_
          refine J.quiet (Y.move rfl) rfl ?_
          refine J.quiet (Y.addW rfl rfl) rfl ?_
          refine J.quiet (Y.assign rfl) rfl ?_
          refine J.done ?_
          refine J.thenN ?_
          exact J.againI (wI .i64 (a6 + (1 : Int))) (()) h (by repeat (first | exact SubF.nil | refine SubF.cons rfl ?_)) (SubM.refl _) (LentAll.refl _ _)
      · replace h := ifN hp9 h
        refine J.exit ?_
        refine J.thenX ?_
        refine J.thenX ?_
        refine J.inX ?_
        refine J.thenN ?_
        exact J.meetI (()) (()) h (by repeat (first | exact SubF.nil | refine SubF.cons rfl ?_)) (SubM.refl _) (LentAll.refl _ _)
    · clear h
      intro a2 b3 h
      unfold ref01_SameInts_k1 at h
      refine J.seq ?_
      refine J.region ?_
      refine J.quiet (Y.assign rfl) rfl ?_
      refine J.done ?_
      refine J.thenN ?_
      refine J.ret ?_
      obtain rfl := Option.some.inj h
      exact J.retG1 (()) rfl rfl (RV.tmp rfl) (SubM.refl _) LentAll.nil

end Go.Proofs.Ytemhmmcakmidkaa
end
section
namespace Go.Proofs.Ytemhmmcakmidkaa
open Go.Sx
set_option linter.unusedVariables false
set_option linter.unusedSimpArgs false

def ref01_Distances_k3  (a12 : List (Int)) : Option (List (Int)) :=
  some (a12)
def ref01_Distances_k4 (a17 : Int × List (Int)) (ag16 : (Int × List (Int)) → Option (List (Int))) (a22 : List (Int)) : Option (List (Int)) :=
  ag16 ((wI .i64 (a17.1 + (1 : Int))), a22)
def ref01_Distances_k5 (a27 : Int × List (Int)) (ag26 : (Int × List (Int)) → Option (List (Int))) (a32 : List (Int)) : Option (List (Int)) :=
  ag26 ((wI .i64 (a27.1 + (1 : Int))), a32)
def ref01_Distances_k7 (a37 : Int × List (Int)) (ag36 : (Int × List (Int)) → Option (List (Int))) (a45 : List (Int)) : Option (List (Int)) :=
  ag36 ((wI .i64 (a37.1 + (1 : Int))), a45)
def ref01_Distances_k6 (p0 : List (Int) × (List (List (Int × Int)))) (a17 : Int × List (Int)) (a27 : Int × List (Int)) (ag26 : (Int × List (Int)) → Option (List (Int))) (a37 : Int × List (Int)) (ag36 : (Int × List (Int)) → Option (List (Int))) (a41 : Bool) : Option (List (Int)) :=
  if a41 = true then (ck (0 ≤ a27.1 ∧ a27.1 < (List.length p0.2 : Int)) (ck (0 ≤ a37.1 ∧ a37.1 < (List.length (at' p0.2 a27.1) : Int)) (ck (0 ≤ ((at' (at' p0.2 a27.1) a37.1).1) ∧ ((at' (at' p0.2 a27.1) a37.1).1) < (List.length a37.2 : Int)) (if (at' a37.2 ((at' (at' p0.2 a27.1) a37.1).1)) = (wI .i64 (a17.1 - (1 : Int))) then (ck (0 ≤ a27.1 ∧ a27.1 < (List.length a37.2 : Int)) (ref01_Distances_k7 a37 ag36 (List.set a37.2 (Int.toNat a27.1) a17.1))) else (ref01_Distances_k7 a37 ag36 (a37.2)))))) else (ref01_Distances_k5 a27 ag26 (a37.2))
def ref01_Distances_s3 (p0 : List (Int) × (List (List (Int × Int)))) (a17 : Int × List (Int)) (a27 : Int × List (Int)) (ag26 : (Int × List (Int)) → Option (List (Int))) (a37 : Int × List (Int)) (ag36 : (Int × List (Int)) → Option (List (Int))) : Option (List (Int)) :=
  ck (0 ≤ a27.1 ∧ a27.1 < (List.length p0.2 : Int)) (if a37.1 < (List.length (at' p0.2 a27.1) : Int) then (ck (0 ≤ a27.1 ∧ a27.1 < (List.length a37.2 : Int)) (ref01_Distances_k6 p0 a17 a27 ag26 a37 ag36 (decide ((at' a37.2 a27.1) < (0 : Int))))) else (ref01_Distances_k6 p0 a17 a27 ag26 a37 ag36 (false)))
def ref01_Distances_s2 (fuel : Nat) (p0 : List (Int) × (List (List (Int × Int)))) (a17 : Int × List (Int)) (ag16 : (Int × List (Int)) → Option (List (Int))) (a27 : Int × List (Int)) (ag26 : (Int × List (Int)) → Option (List (Int))) : Option (List (Int)) :=
  if a27.1 < (List.length p0.2 : Int) then (iter (ref01_Distances_s3 p0 a17 a27 ag26) fuel ((0 : Int), a27.2)) else (ref01_Distances_k4 a17 ag16 (a27.2))
def ref01_Distances_s1 (fuel : Nat) (p0 : List (Int) × (List (List (Int × Int)))) (a17 : Int × List (Int)) (ag16 : (Int × List (Int)) → Option (List (Int))) : Option (List (Int)) :=
  if a17.1 < (List.length p0.2 : Int) then (iter (ref01_Distances_s2 fuel p0 a17 ag16) fuel ((0 : Int), a17.2)) else (ref01_Distances_k3  (a17.2))
def ref01_Distances_k2 (fuel : Nat) (p0 : List (Int) × (List (List (Int × Int)))) (p1 : Int) (a8 : List (Int)) : Option (List (Int)) :=
  ck (0 ≤ p1 ∧ p1 < (List.length a8 : Int)) (iter (ref01_Distances_s1 fuel p0) fuel ((1 : Int), (List.set a8 (Int.toNat p1) (0 : Int))))
def ref01_Distances_s4 (fuel : Nat) (p0 : List (Int) × (List (List (Int × Int)))) (p1 : Int) (a59 : List (Int) × Int) (ag58 : (List (Int) × Int) → Option (List (Int))) : Option (List (Int)) :=
  if a59.2 < (List.length p0.2 : Int) then (ck ((List.length a59.1 : Int) + (List.length ([ (-1 : Int)]) : Int) ≤ 1099511627) (ag58 ((a59.1 ++ ([ (-1 : Int)])), (wI .i64 (a59.2 + (1 : Int)))))) else (ref01_Distances_k2 fuel p0 p1 (a59.1))
def ref01_Distances_k1 (fuel : Nat) (p0 : List (Int) × (List (List (Int × Int)))) (p1 : Int) (a3 : Bool) : Option (List (Int)) :=
  if a3 = true then (some ([] : List Int)) else (iter (ref01_Distances_s4 fuel p0 p1) fuel (([] : List Int), (0 : Int)))
def m_ref01_Distances (fuel : Nat) (p0 : List (Int) × (List (List (Int × Int)))) (p1 : Int) : Option (List (Int)) :=
  Option.bind (m_ref01_Valid fuel ((p0.1, p0.2))) fun r66 => (if (!r66) = true then (ref01_Distances_k1 fuel p0 p1 (true)) else (Option.bind (m_ref01_In fuel p1 (0 : Int) (wI .i64 ((List.length p0.2 : Int) - (1 : Int)))) fun r70 => (ref01_Distances_k1 fuel p0 p1 ((!r70)))))

theorem body54 : HasBody Try.prog 54 := Try.call54

set_option maxHeartbeats 4000000 in
set_option maxRecDepth 20000 in
theorem t_ref01_Distances (fuel : Nat) {p0 : List (Int) × (List (List (Int × Int)))} {p1 : Int} (v0 : Value)  (v1 : Value)  (z2 : List (Value × List (Int × Int))) (r : List (Int)) (h : m_ref01_Distances fuel p0 p1 = some r) :
    Meets Try.prog 54 #[Value.agg #[v0, v1], Value.int .i64 (p1)] [Sl RI64 v0 p0.1, S2 RI64I64p v1 z2 p0.2] (fun x : Value => x) (fun x l => Ar EI64 x r :: l) (fun _ l => l) := by
  refine Meets.of (vs := [Value.agg #[v0, v1], Value.int .i64 (p1)]) Try.func54 rfl Try.ntmps54 rfl fun c => ?_
  unfold m_ref01_Distances at h
  refine J.seq ?_
  refine J.region ?_
  refine J.loud (Loud.box (cs := [v0, v1]) rfl rfl) rfl fun b1 => ?_
  refine J.quiet (Y.assign rfl) rfl ?_
  refine J.done ?_
  refine J.thenN ?_
  refine J.seq ?_
  refine J.seq ?_
  refine J.midI (A := Bool) (B := Unit) (fun a3 => ref01_Distances_k1 fuel p0 p1 a3 = some r) (fun a3 b4 => [(1, Value.int .i64 (p1)), (2, Value.pointer (some ⟨b1, 0, none⟩)), (22, Value.bool (a3))]) (fun a3 b4 => [Blk b1 [v0, v1] 26]) (fun a3 b4 => [Sl RI64 v0 p0.1, S2 RI64I64p v1 z2 p0.2]) ?_ ?_
  · refine J.region ?_
    refine J.quiet (Y.loadBAll 0 rfl rfl rfl rfl) rfl ?_
    replace h := bnd h; obtain ⟨r66, hr67, h⟩ := h
    refine J.loud (Loud.callL body51 (t_ref01_Valid fuel v0 v1 z2 r66 hr67) rfl (LentAll.cons (Lent.fact 0 rfl) (LentAll.cons (Lent.fact 1 rfl) (LentAll.nil))) (fun _ _ => rfl)) rfl fun x68 => ?_
    refine J.quiet (Y.not rfl) rfl ?_
    refine J.quiet (Y.move rfl) rfl ?_
    refine J.guard (by exact rfl) (by exact rfl) (fun hp69 => ?_) (fun hp69 => ?_)
    · replace h := ifP hp69 h
      refine J.guardN rfl rfl rfl ?_
      refine J.guardN rfl rfl rfl ?_
      refine J.guardN rfl rfl rfl ?_
      refine J.guardN rfl rfl rfl ?_
      refine J.guardN rfl rfl rfl ?_
      refine J.guardN rfl rfl rfl ?_
      refine J.guardN rfl rfl rfl ?_
      refine J.quiet (Y.pickT rfl rfl) rfl ?_
      refine J.done ?_
      refine J.thenN ?_
      exact J.meetI (true) (()) h (by repeat (first | exact SubF.nil | refine SubF.cons rfl ?_)) (SubM.refl _) (LentAll.refl _ _)
    · replace h := ifBN hp69 h
      refine J.guardY rfl (Y.move rfl) rfl ?_
      refine J.guardY rfl (Y.fieldB rfl rfl rfl rfl rfl) rfl ?_
      refine J.guardY rfl (Y.loadB 0 rfl rfl rfl rfl rfl) rfl ?_
      refine J.guardY rfl (Y.lenN rfl (Lent.fact 1 rfl) rfl) rfl ?_
      refine J.guardY rfl (Y.subW rfl rfl) rfl ?_
      replace h := bnd h; obtain ⟨r70, hr71, h⟩ := h
      refine J.loudG rfl (Loud.callL body72 (t_ref01_In fuel  r70 hr71) rfl (LentAll.nil) (fun _ _ => rfl)) rfl fun x72 => ?_
      refine J.guardY rfl (Y.not rfl) rfl ?_
      refine J.quiet (Y.pickF rfl rfl) rfl ?_
      refine J.done ?_
      refine J.thenN ?_
      exact J.meetI ((!r70)) (()) h (by repeat (first | exact SubF.nil | refine SubF.cons rfl ?_)) (SubM.refl _) (LentAll.refl _ _)
  · clear h
    intro a3 b4 h
    unfold ref01_Distances_k1 at h
    refine J.cond (by exact rfl) (fun hp5 => ?_) (fun hp5 => ?_)
    · replace h := ifP hp5 h
      refine J.seq ?_
      refine J.region ?_
      refine J.quiet (Y.assign rfl) rfl ?_
      refine J.done ?_
      refine J.thenN ?_
      refine J.ret ?_
      refine J.thenR ?_
      refine J.stp (Stp.nilAr EI64) ?_
      obtain rfl := Option.some.inj h
      exact J.retG1 (Value.slice none 0 0) rfl rfl (RV.tmp rfl) (SubM.cons 0 rfl (SubM.nil)) LentAll.nil
    · replace h := ifBN hp5 h
      refine J.skip ?_
      refine J.thenN ?_
      refine J.seq ?_
      refine J.region ?_
      refine J.quiet (Y.fieldB rfl rfl rfl rfl rfl) rfl ?_
      refine J.quiet (Y.loadB 0 rfl rfl rfl rfl rfl) rfl ?_
      refine J.quiet (Y.lenN rfl (Lent.fact 1 rfl) rfl) rfl ?_
      refine J.quiet (Y.assign rfl) rfl ?_
      refine J.done ?_
      refine J.thenN ?_
      refine J.seq ?_
      refine J.region ?_
      refine J.quiet (Y.assign rfl) rfl ?_
      refine J.done ?_
      refine J.thenN ?_
      refine J.seq ?_
      refine J.midI (A := List (Int)) (B := Value) (fun a8 => ref01_Distances_k2 fuel p0 p1 a8 = some r) (fun a8 b9 => [(1, Value.int .i64 (p1)), (2, Value.pointer (some ⟨b1, 0, none⟩)), (5, Value.int .i64 (List.length p0.2 : Int)), (6, b9)]) (fun a8 b9 => [Blk b1 [v0, v1] 26, Ar EI64 b9 a8]) (fun a8 b9 => [Sl RI64 v0 p0.1, S2 RI64I64p v1 z2 p0.2]) ?_ ?_
      · refine J.seq ?_
        refine J.region ?_
        refine J.quiet (Y.assign rfl) rfl ?_
        refine J.done ?_
        refine J.thenN ?_
        refine J.block ?_
        refine J.stp (Stp.nilAr EI64) ?_
        refine J.loopI (A := List (Int) × Int) (B := Value) (ref01_Distances_s4 fuel p0 p1) (fun a59 b60 => [(1, Value.int .i64 (p1)), (2, Value.pointer (some ⟨b1, 0, none⟩)), (5, Value.int .i64 (List.length p0.2 : Int)), (6, b60), (7, Value.int .i64 (a59.2))]) (fun a59 b60 => [Blk b1 [v0, v1] 26, Ar EI64 b60 a59.1]) (fun a59 b60 => [Sl RI64 v0 p0.1, S2 RI64I64p v1 z2 p0.2]) (([] : List Int), (0 : Int)) (Value.slice none 0 0) h (by repeat (first | exact SubF.nil | refine SubF.cons rfl ?_)) (SubM.cons 1 rfl (SubM.cons 0 rfl (SubM.nil))) (LentAll.refl _ _) ?_
        clear h
        intro k61 a59 b60 h
        unfold ref01_Distances_s4 at h
        refine J.seq ?_
        refine J.seq ?_
        refine J.region ?_
        refine J.quiet (Y.move rfl) rfl ?_
        refine J.quiet (Y.move rfl) rfl ?_
        refine J.quiet (Y.lss rfl rfl) rfl ?_
        refine J.done ?_
        refine J.thenN ?_
        refine J.condD (by exact rfl) (fun hp62 => ?_) (fun hp62 => ?_)
        · replace h := ifP hp62 h
          refine J.skip ?_
          refine J.thenN ?_
          refine J.seq ?_
          refine J.block ?_
          refine J.region ?_
          refine J.quiet (Y.move rfl) rfl ?_
          refine J.loud (Loud.buildS (e := EI64) [(-1 : Int)] [(0, Value.int .i64 (-1 : Int))] rfl rfl rfl rfl (fill_1_1 (Value.int .i64 (-1 : Int)) rfl) rfl rfl rfl) rfl fun u63 => ?_
          replace h := ck_some h; obtain ⟨hc65, h⟩ := h
          refine J.loud (Loud.appendL 2 FI64 rfl rfl rfl (Lent.ar (Lent.res 0 rfl) FI64) rfl rfl rfl rfl hc65 rfl) rfl fun u64 => ?_
          refine J.quiet (Y.assign rfl) rfl ?_
          refine J.done ?_
          refine J.inN ?_
          refine J.thenN ?_
          refine J.region ?_
          refine J.quiet (Y.move rfl) rfl ?_
          refine J.quiet (Y.addW rfl rfl) rfl ?_
          refine J.quiet (Y.assign rfl) rfl ?_
          refine J.done ?_
          refine J.thenN ?_
          exact J.againI ((a59.1 ++ ([ (-1 : Int)])), (wI .i64 (a59.2 + (1 : Int)))) (u64) h (by repeat (first | exact SubF.nil | refine SubF.cons rfl ?_)) (SubM.cons 1 rfl (SubM.cons 1 rfl (SubM.nil))) (LentAll.refl _ _)
        · replace h := ifN hp62 h
          refine J.exit ?_
          refine J.thenX ?_
          refine J.thenX ?_
          refine J.inX ?_
          refine J.thenN ?_
          exact J.meetI (a59.1) (b60) h (by repeat (first | exact SubF.nil | refine SubF.cons rfl ?_)) (SubM.refl _) (LentAll.refl _ _)
      · clear h
        intro a8 b9 h
        unfold ref01_Distances_k2 at h
        refine J.seq ?_
        refine J.region ?_
        refine J.quiet (Y.move rfl) rfl ?_
        refine J.quiet (Y.move rfl) rfl ?_
        replace h := ck_some h; obtain ⟨hc10, h⟩ := h
        refine J.quiet (Y.indexS rfl rfl (Lent.ar (Lent.res 1 rfl) FI64) rfl rfl hc10) rfl ?_
        refine J.storeS 1 (0 : Int) hc10 rfl rfl rfl rfl rfl rfl rfl ?_
        refine J.done ?_
        refine J.thenN ?_
        refine J.seq ?_
        refine J.midI (A := List (Int)) (B := Unit) (fun a12 => ref01_Distances_k3  a12 = some r) (fun a12 b13 => [(6, b9)]) (fun a12 b13 => [Ar EI64 b9 a12]) (fun a12 b13 => [Sl RI64 v0 p0.1, S2 RI64I64p v1 z2 p0.2]) ?_ ?_
        · refine J.seq ?_
          refine J.region ?_
          refine J.quiet (Y.assign rfl) rfl ?_
          refine J.done ?_
          refine J.thenN ?_
          refine J.block ?_
          refine J.loopI (A := Int × List (Int)) (B := Unit) (ref01_Distances_s1 fuel p0) (fun a17 b18 => [(2, Value.pointer (some ⟨b1, 0, none⟩)), (5, Value.int .i64 (List.length p0.2 : Int)), (6, b9), (8, Value.int .i64 (a17.1))]) (fun a17 b18 => [Blk b1 [v0, v1] 26, Ar EI64 b9 a17.2]) (fun a17 b18 => [Sl RI64 v0 p0.1, S2 RI64I64p v1 z2 p0.2]) ((1 : Int), (List.set a8 (Int.toNat p1) (0 : Int))) (()) h (by repeat (first | exact SubF.nil | refine SubF.cons rfl ?_)) (SubM.refl _) (LentAll.refl _ _) ?_
          clear h
          intro k19 a17 b18 h
          unfold ref01_Distances_s1 at h
          refine J.seq ?_
          refine J.seq ?_
          refine J.region ?_
          refine J.quiet (Y.move rfl) rfl ?_
          refine J.quiet (Y.move rfl) rfl ?_
          refine J.quiet (Y.lss rfl rfl) rfl ?_
          refine J.done ?_
          refine J.thenN ?_
          refine J.condD (by exact rfl) (fun hp20 => ?_) (fun hp20 => ?_)
          · replace h := ifP hp20 h
            refine J.skip ?_
            refine J.thenN ?_
            refine J.seq ?_
            refine J.midI (A := List (Int)) (B := Unit) (fun a22 => ref01_Distances_k4 a17 (iter (ref01_Distances_s1 fuel p0) k19) a22 = some r) (fun a22 b23 => [(2, Value.pointer (some ⟨b1, 0, none⟩)), (5, Value.int .i64 (List.length p0.2 : Int)), (6, b9), (8, Value.int .i64 (a17.1))]) (fun a22 b23 => [Blk b1 [v0, v1] 26, Ar EI64 b9 a22]) (fun a22 b23 => [Sl RI64 v0 p0.1, S2 RI64I64p v1 z2 p0.2]) ?_ ?_
            · refine J.block ?_
              refine J.seq ?_
              refine J.region ?_
              refine J.quiet (Y.assign rfl) rfl ?_
              refine J.done ?_
              refine J.thenN ?_
              refine J.block ?_
              refine J.loopI (A := Int × List (Int)) (B := Unit) (ref01_Distances_s2 fuel p0 a17 (iter (ref01_Distances_s1 fuel p0) k19)) (fun a27 b28 => [(2, Value.pointer (some ⟨b1, 0, none⟩)), (5, Value.int .i64 (List.length p0.2 : Int)), (6, b9), (8, Value.int .i64 (a17.1)), (9, Value.int .i64 (a27.1))]) (fun a27 b28 => [Blk b1 [v0, v1] 26, Ar EI64 b9 a27.2]) (fun a27 b28 => [Sl RI64 v0 p0.1, S2 RI64I64p v1 z2 p0.2]) ((0 : Int), a17.2) (()) h (by repeat (first | exact SubF.nil | refine SubF.cons rfl ?_)) (SubM.refl _) (LentAll.refl _ _) ?_
              clear h
              intro k29 a27 b28 h
              unfold ref01_Distances_s2 at h
              refine J.seq ?_
              refine J.seq ?_
              refine J.region ?_
              refine J.quiet (Y.move rfl) rfl ?_
              refine J.quiet (Y.move rfl) rfl ?_
              refine J.quiet (Y.lss rfl rfl) rfl ?_
              refine J.done ?_
              refine J.thenN ?_
              refine J.condD (by exact rfl) (fun hp30 => ?_) (fun hp30 => ?_)
              · replace h := ifP hp30 h
                refine J.skip ?_
                refine J.thenN ?_
                refine J.seq ?_
                refine J.midI (A := List (Int)) (B := Unit) (fun a32 => ref01_Distances_k5 a27 (iter (ref01_Distances_s2 fuel p0 a17 (iter (ref01_Distances_s1 fuel p0) k19)) k29) a32 = some r) (fun a32 b33 => [(2, Value.pointer (some ⟨b1, 0, none⟩)), (5, Value.int .i64 (List.length p0.2 : Int)), (6, b9), (8, Value.int .i64 (a17.1)), (9, Value.int .i64 (a27.1))]) (fun a32 b33 => [Blk b1 [v0, v1] 26, Ar EI64 b9 a32]) (fun a32 b33 => [Sl RI64 v0 p0.1, S2 RI64I64p v1 z2 p0.2]) ?_ ?_
                · refine J.block ?_
                  refine J.seq ?_
                  refine J.region ?_
                  refine J.quiet (Y.assign rfl) rfl ?_
                  refine J.done ?_
                  refine J.thenN ?_
                  refine J.block ?_
                  refine J.loopI (A := Int × List (Int)) (B := Unit) (ref01_Distances_s3 p0 a17 a27 (iter (ref01_Distances_s2 fuel p0 a17 (iter (ref01_Distances_s1 fuel p0) k19)) k29)) (fun a37 b38 => [(2, Value.pointer (some ⟨b1, 0, none⟩)), (5, Value.int .i64 (List.length p0.2 : Int)), (6, b9), (8, Value.int .i64 (a17.1)), (9, Value.int .i64 (a27.1)), (10, Value.int .i64 (a37.1))]) (fun a37 b38 => [Blk b1 [v0, v1] 26, Ar EI64 b9 a37.2]) (fun a37 b38 => [Sl RI64 v0 p0.1, S2 RI64I64p v1 z2 p0.2]) ((0 : Int), a27.2) (()) h (by repeat (first | exact SubF.nil | refine SubF.cons rfl ?_)) (SubM.refl _) (LentAll.refl _ _) ?_
                  clear h
                  intro k39 a37 b38 h
                  unfold ref01_Distances_s3 at h
                  refine J.seq ?_
                  refine J.seq ?_
                  refine J.midI (A := Bool) (B := Unit) (fun a41 => ref01_Distances_k6 p0 a17 a27 (iter (ref01_Distances_s2 fuel p0 a17 (iter (ref01_Distances_s1 fuel p0) k19)) k29) a37 (iter (ref01_Distances_s3 p0 a17 a27 (iter (ref01_Distances_s2 fuel p0 a17 (iter (ref01_Distances_s1 fuel p0) k19)) k29)) k39) a41 = some r) (fun a41 b42 => [(2, Value.pointer (some ⟨b1, 0, none⟩)), (5, Value.int .i64 (List.length p0.2 : Int)), (6, b9), (8, Value.int .i64 (a17.1)), (9, Value.int .i64 (a27.1)), (10, Value.int .i64 (a37.1)), (61, Value.bool (a41))]) (fun a41 b42 => [Blk b1 [v0, v1] 26, Ar EI64 b9 a37.2]) (fun a41 b42 => [Sl RI64 v0 p0.1, S2 RI64I64p v1 z2 p0.2]) ?_ ?_
                  · refine J.region ?_
                    refine J.quiet (Y.move rfl) rfl ?_
                    refine J.quiet (Y.fieldB rfl rfl rfl rfl rfl) rfl ?_
                    refine J.quiet (Y.loadB 0 rfl rfl rfl rfl rfl) rfl ?_
                    refine J.quiet (Y.move rfl) rfl ?_
                    replace h := ck_some h; obtain ⟨hc52, h⟩ := h
                    refine J.quiet (Y.indexN rfl rfl (Lent.fact 1 rfl) rfl rfl hc52) rfl ?_
                    refine J.quiet (Y.loadRow rfl (Lent.fact 1 rfl) rfl rfl hc52) rfl ?_
                    refine J.quiet (Y.lenS rfl (Lent.el (Lent.fact 1 rfl) hc52.1 hc52.2) rfl) rfl ?_
                    refine J.quiet (Y.lss rfl rfl) rfl ?_
                    refine J.quiet (Y.move rfl) rfl ?_
                    refine J.guardD (by exact rfl) (by exact rfl) (fun hp53 => ?_) (fun hp53 => ?_)
                    · replace h := ifP hp53 h
                      refine J.guardY rfl (Y.move rfl) rfl ?_
                      refine J.guardY rfl (Y.move rfl) rfl ?_
                      replace h := ck_some h; obtain ⟨hc54, h⟩ := h
                      refine J.guardY rfl (Y.indexS rfl rfl (Lent.ar (Lent.res 1 rfl) FI64) rfl rfl hc54) rfl ?_
                      refine J.guardY rfl (Y.loadS0 rfl (Lent.ar (Lent.res 1 rfl) FI64) rfl rfl rfl RI64c0 hc54) rfl ?_
                      refine J.guardY rfl (Y.lss rfl rfl) rfl ?_
                      refine J.quiet (Y.pickT rfl rfl) rfl ?_
                      refine J.done ?_
                      refine J.thenN ?_
                      exact J.meetI (decide ((at' a37.2 a27.1) < (0 : Int))) (()) h (by repeat (first | exact SubF.nil | refine SubF.cons rfl ?_)) (SubM.refl _) (LentAll.refl _ _)
                    · replace h := ifN hp53 h
                      refine J.guardN rfl rfl rfl ?_
                      refine J.guardN rfl rfl rfl ?_
                      refine J.guardN rfl rfl rfl ?_
                      refine J.guardN rfl rfl rfl ?_
                      refine J.guardN rfl rfl rfl ?_
                      refine J.quiet (Y.pickF rfl rfl) rfl ?_
                      refine J.done ?_
                      refine J.thenN ?_
                      exact J.meetI (false) (()) h (by repeat (first | exact SubF.nil | refine SubF.cons rfl ?_)) (SubM.refl _) (LentAll.refl _ _)
                  · clear h
                    intro a41 b42 h
                    unfold ref01_Distances_k6 at h
                    refine J.cond (by exact rfl) (fun hp43 => ?_) (fun hp43 => ?_)
                    · replace h := ifP hp43 h
                      refine J.skip ?_
                      refine J.thenN ?_
                      refine J.seq ?_
                      refine J.midI (A := List (Int)) (B := Unit) (fun a45 => ref01_Distances_k7 a37 (iter (ref01_Distances_s3 p0 a17 a27 (iter (ref01_Distances_s2 fuel p0 a17 (iter (ref01_Distances_s1 fuel p0) k19)) k29)) k39) a45 = some r) (fun a45 b46 => [(2, Value.pointer (some ⟨b1, 0, none⟩)), (5, Value.int .i64 (List.length p0.2 : Int)), (6, b9), (8, Value.int .i64 (a17.1)), (9, Value.int .i64 (a27.1)), (10, Value.int .i64 (a37.1))]) (fun a45 b46 => [Blk b1 [v0, v1] 26, Ar EI64 b9 a45]) (fun a45 b46 => [Sl RI64 v0 p0.1, S2 RI64I64p v1 z2 p0.2]) ?_ ?_
                      · refine J.block ?_
                        refine J.seq ?_
                        refine J.region ?_
                        refine J.quiet (Y.move rfl) rfl ?_
                        refine J.quiet (Y.fieldB rfl rfl rfl rfl rfl) rfl ?_
                        refine J.quiet (Y.loadB 0 rfl rfl rfl rfl rfl) rfl ?_
                        refine J.quiet (Y.move rfl) rfl ?_
                        replace h := ck_some h; obtain ⟨hc47, h⟩ := h
                        refine J.quiet (Y.indexN rfl rfl (Lent.fact 1 rfl) rfl rfl hc47) rfl ?_
                        refine J.quiet (Y.loadRow rfl (Lent.fact 1 rfl) rfl rfl hc47) rfl ?_
                        refine J.quiet (Y.move rfl) rfl ?_
                        replace h := ck_some h; obtain ⟨hc48, h⟩ := h
                        refine J.quiet (Y.indexS rfl rfl (Lent.el (Lent.fact 1 rfl) hc47.1 hc47.2) rfl rfl hc48) rfl ?_
                        refine J.quiet (Y.fieldEl rfl rfl rfl rfl rfl) rfl ?_
                        refine J.quiet (Y.loadS rfl (Lent.el (Lent.fact 1 rfl) hc47.1 hc47.2) rfl rfl rfl RI64I64pc0 hc48) rfl ?_
                        replace h := ck_some h; obtain ⟨hc49, h⟩ := h
                        refine J.quiet (Y.indexS rfl rfl (Lent.ar (Lent.res 1 rfl) FI64) rfl rfl hc49) rfl ?_
                        refine J.quiet (Y.loadS0 rfl (Lent.ar (Lent.res 1 rfl) FI64) rfl rfl rfl RI64c0 hc49) rfl ?_
                        refine J.quiet (Y.move rfl) rfl ?_
                        refine J.quiet (Y.subW rfl rfl) rfl ?_
                        refine J.quiet (Y.eql rfl rfl) rfl ?_
                        refine J.done ?_
                        refine J.thenN ?_
                        refine J.condD (by exact rfl) (fun hp50 => ?_) (fun hp50 => ?_)
                        · replace h := ifP hp50 h
                          refine J.region ?_
                          refine J.quiet (Y.move rfl) rfl ?_
                          refine J.quiet (Y.move rfl) rfl ?_
                          refine J.quiet (Y.move rfl) rfl ?_
                          replace h := ck_some h; obtain ⟨hc51, h⟩ := h
                          refine J.quiet (Y.indexS rfl rfl (Lent.ar (Lent.res 1 rfl) FI64) rfl rfl hc51) rfl ?_
                          refine J.storeS 1 a17.1 hc51 rfl rfl rfl rfl rfl rfl rfl ?_
                          refine J.done ?_
                          refine J.inN ?_
                          refine J.thenN ?_
                          exact J.meetI (List.set a37.2 (Int.toNat a27.1) a17.1) (()) h (by repeat (first | exact SubF.nil | refine SubF.cons rfl ?_)) (SubM.refl _) (LentAll.refl _ _)
                        · replace h := ifN hp50 h
                          refine J.skip ?_
                          refine J.inN ?_
                          refine J.thenN ?_
                          exact J.meetI (a37.2) (()) h (by repeat (first | exact SubF.nil | refine SubF.cons rfl ?_)) (SubM.refl _) (LentAll.refl _ _)
                      · clear h
                        intro a45 b46 h
                        unfold ref01_Distances_k7 at h
                        refine J.region ?_
                        refine J.quiet (Y.move rfl) rfl ?_
                        refine J.quiet (Y.addW rfl rfl) rfl ?_
                        refine J.quiet (Y.assign rfl) rfl ?_
                        refine J.done ?_
                        refine J.thenN ?_
                        exact J.againI ((wI .i64 (a37.1 + (1 : Int))), a45) (()) h (by repeat (first | exact SubF.nil | refine SubF.cons rfl ?_)) (SubM.refl _) (LentAll.refl _ _)
                    · replace h := ifBN hp43 h
                      refine J.exit ?_
                      refine J.thenX ?_
                      refine J.thenX ?_
                      refine J.inX ?_
                      refine J.inN ?_
                      refine J.thenN ?_
                      exact J.meetI (a37.2) (()) h (by repeat (first | exact SubF.nil | refine SubF.cons rfl ?_)) (SubM.refl _) (LentAll.refl _ _)
                · clear h
                  intro a32 b33 h
                  unfold ref01_Distances_k5 at h
                  refine J.region ?_
                  refine J.quiet (Y.move rfl) rfl ?_
                  refine J.quiet (Y.addW rfl rfl) rfl ?_
                  refine J.quiet (Y.assign rfl) rfl ?_
                  refine J.done ?_
                  refine J.thenN ?_
                  exact J.againI ((wI .i64 (a27.1 + (1 : Int))), a32) (()) h (by repeat (first | exact SubF.nil | refine SubF.cons rfl ?_)) (SubM.refl _) (LentAll.refl _ _)
              · replace h := ifN hp30 h
                refine J.exit ?_
                refine J.thenX ?_
                refine J.thenX ?_
                refine J.inX ?_
                refine J.inN ?_
                refine J.thenN ?_
                exact J.meetI (a27.2) (()) h (by repeat (first | exact SubF.nil | refine SubF.cons rfl ?_)) (SubM.refl _) (LentAll.refl _ _)
            · clear h
              intro a22 b23 h
              unfold ref01_Distances_k4 at h
              refine J.region ?_
              refine J.quiet (Y.move rfl) rfl ?_
              refine J.quiet (Y.addW rfl rfl) rfl ?_
              refine J.quiet (Y.assign rfl) rfl ?_
              refine J.done ?_
              refine J.thenN ?_
              exact J.againI ((wI .i64 (a17.1 + (1 : Int))), a22) (()) h (by repeat (first | exact SubF.nil | refine SubF.cons rfl ?_)) (SubM.refl _) (LentAll.refl _ _)
          · replace h := ifN hp20 h
            refine J.exit ?_
            refine J.thenX ?_
            refine J.thenX ?_
            refine J.inX ?_
            refine J.thenN ?_
            exact J.meetI (a17.2) (()) h (by repeat (first | exact SubF.nil | refine SubF.cons rfl ?_)) (SubM.cons 1 rfl (SubM.nil)) (LentAll.refl _ _)
        · clear h
          intro a12 b13 h
          unfold ref01_Distances_k3 at h
          refine J.seq ?_
          refine J.region ?_
          refine J.quiet (Y.move rfl) rfl ?_
          refine J.quiet (Y.assign rfl) rfl ?_
          refine J.done ?_
          refine J.thenN ?_
          refine J.ret ?_
          obtain rfl := Option.some.inj h
          exact J.retG1 (b9) rfl rfl (RV.tmp rfl) (SubM.refl _) LentAll.nil

end Go.Proofs.Ytemhmmcakmidkaa
end
section
namespace Go.Proofs.Ytemhmmcakmidkaa
open Go.Sx
set_option linter.unusedVariables false
set_option linter.unusedSimpArgs false

def ref01_greatest_k1  (a2 : Int) : Option (Int) :=
  some (a2)
def ref01_greatest_s1 (p0 : List (Int)) (a7 : Int × Int) (ag6 : (Int × Int) → Option (Int)) : Option (Int) :=
  if a7.2 < (List.length p0 : Int) then (ck (0 ≤ a7.2 ∧ a7.2 < (List.length p0 : Int)) (if (at' p0 a7.2) < (0 : Int) then (some (-1 : Int)) else (ck (0 ≤ a7.2 ∧ a7.2 < (List.length p0 : Int)) (ag6 ((max a7.1 (at' p0 a7.2)), (wI .i64 (a7.2 + (1 : Int)))))))) else (ref01_greatest_k1  (a7.1))
def m_ref01_greatest (fuel : Nat) (p0 : List (Int)) : Option (Int) :=
  iter (ref01_greatest_s1 p0) fuel ((-1 : Int), (0 : Int))

theorem body93 : HasBody Try.prog 93 := Try.call93

set_option maxHeartbeats 4000000 in
set_option maxRecDepth 20000 in
theorem t_ref01_greatest (fuel : Nat) {p0 : List (Int)} (v0 : Value) (r : Int) (h : m_ref01_greatest fuel p0 = some r) :
    Meets Try.prog 93 #[v0] [Sl RI64 v0 p0] (fun x : Unit => Value.int .i64 (r)) (fun x l => l) (fun _ l => l) := by
  refine Meets.of (vs := [v0]) Try.func93 rfl Try.ntmps93 rfl fun c => ?_
  unfold m_ref01_greatest at h
  refine J.seq ?_
  refine J.region ?_
  refine J.quiet (Y.assign rfl) rfl ?_
  refine J.done ?_
  refine J.thenN ?_
  refine J.seq ?_
  refine J.region ?_
  refine J.quiet (Y.assign rfl) rfl ?_
  refine J.done ?_
  refine J.thenN ?_
  refine J.seq ?_
  refine J.midI (A := Int) (B := Unit) (fun a2 => ref01_greatest_k1  a2 = some r) (fun a2 b3 => [(3, Value.int .i64 (a2))]) (fun a2 b3 => []) (fun a2 b3 => [Sl RI64 v0 p0]) ?_ ?_
  · refine J.seq ?_
    refine J.region ?_
    refine J.quiet (Y.assign rfl) rfl ?_
    refine J.done ?_
    refine J.thenN ?_
    refine J.block ?_
    refine J.loopI (A := Int × Int) (B := Unit) (ref01_greatest_s1 p0) (fun a7 b8 => [(0, v0), (3, Value.int .i64 (a7.1)), (4, Value.int .i64 (a7.2))]) (fun a7 b8 => []) (fun a7 b8 => [Sl RI64 v0 p0]) ((-1 : Int), (0 : Int)) (()) h (by repeat (first | exact SubF.nil | refine SubF.cons rfl ?_)) (SubM.refl _) (LentAll.refl _ _) ?_
    clear h
    intro k9 a7 b8 h
    unfold ref01_greatest_s1 at h
    refine J.seq ?_
    refine J.seq ?_
    refine J.region ?_
    refine J.quiet (Y.move rfl) rfl ?_
    refine J.quiet (Y.move rfl) rfl ?_
    refine J.quiet (Y.lenS rfl (Lent.fact 0 rfl) rfl) rfl ?_
    refine J.quiet (Y.lss rfl rfl) rfl ?_
    refine J.done ?_
    refine J.thenN ?_
    refine J.condD (by exact rfl) (fun hp10 => ?_) (fun hp10 => ?_)
    · replace h := ifP hp10 h
      refine J.skip ?_
      refine J.thenN ?_
      refine J.seq ?_
      refine J.block ?_
      refine J.seq ?_
      refine J.seq ?_
      refine J.region ?_
      refine J.quiet (Y.move rfl) rfl ?_
      refine J.quiet (Y.move rfl) rfl ?_
      replace h := ck_some h; obtain ⟨hc11, h⟩ := h
      refine J.quiet (Y.indexS rfl rfl (Lent.fact 0 rfl) rfl rfl hc11) rfl ?_
      refine J.quiet (Y.loadS0 rfl (Lent.fact 0 rfl) rfl rfl rfl RI64c0 hc11) rfl ?_
      refine J.quiet (Y.lss rfl rfl) rfl ?_
      refine J.done ?_
      refine J.thenN ?_
      refine J.condD (by exact rfl) (fun hp12 => ?_) (fun hp12 => ?_)
      · replace h := ifP hp12 h
        refine J.seq ?_
        refine J.region ?_
        refine J.quiet (Y.assign rfl) rfl ?_
        refine J.done ?_
        refine J.thenN ?_
        refine J.ret ?_
        refine J.thenR ?_
        refine J.inR ?_
        refine J.thenR ?_
        refine J.thenR ?_
        refine J.inR ?_
        refine J.thenR ?_
        obtain rfl := Option.some.inj h
        exact J.retG1 (()) rfl rfl (RV.tmp rfl) (SubM.refl _) LentAll.nil
      · replace h := ifN hp12 h
        refine J.skip ?_
        refine J.thenN ?_
        refine J.region ?_
        refine J.quiet (Y.move rfl) rfl ?_
        refine J.quiet (Y.move rfl) rfl ?_
        refine J.quiet (Y.move rfl) rfl ?_
        replace h := ck_some h; obtain ⟨hc13, h⟩ := h
        refine J.quiet (Y.indexS rfl rfl (Lent.fact 0 rfl) rfl rfl hc13) rfl ?_
        refine J.quiet (Y.loadS0 rfl (Lent.fact 0 rfl) rfl rfl rfl RI64c0 hc13) rfl ?_
        refine J.quiet (Y.max rfl rfl) rfl ?_
        refine J.quiet (Y.assign rfl) rfl ?_
        refine J.done ?_
        refine J.inN ?_
        refine J.thenN ?_
        refine J.region ?_
        refine J.quiet (Y.move rfl) rfl ?_
        refine J.quiet (Y.addW rfl rfl) rfl ?_
        refine J.quiet (Y.assign rfl) rfl ?_
        refine J.done ?_
        refine J.thenN ?_
        exact J.againI ((max a7.1 (at' p0 a7.2)), (wI .i64 (a7.2 + (1 : Int)))) (()) h (by repeat (first | exact SubF.nil | refine SubF.cons rfl ?_)) (SubM.refl _) (LentAll.refl _ _)
    · replace h := ifN hp10 h
      refine J.exit ?_
      refine J.thenX ?_
      refine J.thenX ?_
      refine J.inX ?_
      refine J.thenN ?_
      exact J.meetI (a7.1) (()) h (by repeat (first | exact SubF.nil | refine SubF.cons rfl ?_)) (SubM.refl _) (LentAll.refl _ _)
  · clear h
    intro a2 b3 h
    unfold ref01_greatest_k1 at h
    refine J.seq ?_
    refine J.region ?_
    refine J.quiet (Y.move rfl) rfl ?_
    refine J.quiet (Y.assign rfl) rfl ?_
    refine J.done ?_
    refine J.thenN ?_
    refine J.ret ?_
    obtain rfl := Option.some.inj h
    exact J.retG1 (()) rfl rfl (RV.tmp rfl) (SubM.refl _) LentAll.nil

end Go.Proofs.Ytemhmmcakmidkaa
end
section
namespace Go.Proofs.Ytemhmmcakmidkaa
open Go.Sx
set_option linter.unusedVariables false
set_option linter.unusedSimpArgs false

def m_ref01_Connected (fuel : Nat) (p0 : List (Int) × (List (List (Int × Int)))) : Option (Bool) :=
  Option.bind (m_ref01_Distances fuel ((p0.1, p0.2)) (0 : Int)) fun r2 => (Option.bind (m_ref01_greatest fuel r2) fun r5 => (some (decide ((0 : Int) ≤ r5))))

theorem body55 : HasBody Try.prog 55 := Try.call55

set_option maxHeartbeats 4000000 in
set_option maxRecDepth 20000 in
theorem t_ref01_Connected (fuel : Nat) {p0 : List (Int) × (List (List (Int × Int)))} (v0 : Value)  (v1 : Value)  (z2 : List (Value × List (Int × Int))) (r : Bool) (h : m_ref01_Connected fuel p0 = some r) :
    Meets Try.prog 55 #[Value.agg #[v0, v1]] [Sl RI64 v0 p0.1, S2 RI64I64p v1 z2 p0.2] (fun x : Unit => Value.bool (r)) (fun x l => l) (fun _ l => l) := by
  refine Meets.of (vs := [Value.agg #[v0, v1]]) Try.func55 rfl Try.ntmps55 rfl fun c => ?_
  unfold m_ref01_Connected at h
  refine J.seq ?_
  refine J.region ?_
  refine J.loud (Loud.box (cs := [v0, v1]) rfl rfl) rfl fun b1 => ?_
  refine J.quiet (Y.assign rfl) rfl ?_
  refine J.done ?_
  refine J.thenN ?_
  refine J.seq ?_
  refine J.region ?_
  refine J.quiet (Y.loadBAll 0 rfl rfl rfl rfl) rfl ?_
  replace h := bnd h; obtain ⟨r2, hr3, h⟩ := h
  refine J.loud (Loud.callL body54 (t_ref01_Distances fuel v0 v1 z2 r2 hr3) rfl (LentAll.cons (Lent.fact 0 rfl) (LentAll.cons (Lent.fact 1 rfl) (LentAll.nil))) (fun _ _ => rfl)) rfl fun x4 => ?_
  replace h := bnd h; obtain ⟨r5, hr6, h⟩ := h
  refine J.loud (Loud.callL body93 (t_ref01_greatest fuel x4 r5 hr6) rfl (LentAll.cons (Lent.ar (Lent.res 0 rfl) FI64) (LentAll.nil)) (fun _ _ => rfl)) rfl fun x7 => ?_
  refine J.quiet (Y.geq rfl rfl) rfl ?_
  refine J.quiet (Y.assign rfl) rfl ?_
  refine J.done ?_
  refine J.thenN ?_
  refine J.ret ?_
  obtain rfl := Option.some.inj h
  exact J.retG1 (()) rfl rfl (RV.tmp rfl) (SubM.nil) LentAll.nil

end Go.Proofs.Ytemhmmcakmidkaa
end
section
namespace Go.Proofs.Ytemhmmcakmidkaa
open Go.Sx
set_option linter.unusedVariables false
set_option linter.unusedSimpArgs false

def m_ref01_Eccentricity (fuel : Nat) (p0 : List (Int) × (List (List (Int × Int)))) (p1 : Int) : Option (Int) :=
  Option.bind (m_ref01_Distances fuel ((p0.1, p0.2)) p1) fun r2 => (Option.bind (m_ref01_greatest fuel r2) fun r5 => (some (r5)))

theorem body56 : HasBody Try.prog 56 := Try.call56

set_option maxHeartbeats 4000000 in
set_option maxRecDepth 20000 in
theorem t_ref01_Eccentricity (fuel : Nat) {p0 : List (Int) × (List (List (Int × Int)))} {p1 : Int} (v0 : Value)  (v1 : Value)  (z2 : List (Value × List (Int × Int))) (r : Int) (h : m_ref01_Eccentricity fuel p0 p1 = some r) :
    Meets Try.prog 56 #[Value.agg #[v0, v1], Value.int .i64 (p1)] [Sl RI64 v0 p0.1, S2 RI64I64p v1 z2 p0.2] (fun x : Unit => Value.int .i64 (r)) (fun x l => l) (fun _ l => l) := by
  refine Meets.of (vs := [Value.agg #[v0, v1], Value.int .i64 (p1)]) Try.func56 rfl Try.ntmps56 rfl fun c => ?_
  unfold m_ref01_Eccentricity at h
  refine J.seq ?_
  refine J.region ?_
  refine J.loud (Loud.box (cs := [v0, v1]) rfl rfl) rfl fun b1 => ?_
  refine J.quiet (Y.assign rfl) rfl ?_
  refine J.done ?_
  refine J.thenN ?_
  refine J.seq ?_
  refine J.region ?_
  refine J.quiet (Y.loadBAll 0 rfl rfl rfl rfl) rfl ?_
  refine J.quiet (Y.move rfl) rfl ?_
  replace h := bnd h; obtain ⟨r2, hr3, h⟩ := h
  refine J.loud (Loud.callL body54 (t_ref01_Distances fuel v0 v1 z2 r2 hr3) rfl (LentAll.cons (Lent.fact 0 rfl) (LentAll.cons (Lent.fact 1 rfl) (LentAll.nil))) (fun _ _ => rfl)) rfl fun x4 => ?_
  replace h := bnd h; obtain ⟨r5, hr6, h⟩ := h
  refine J.loud (Loud.callL body93 (t_ref01_greatest fuel x4 r5 hr6) rfl (LentAll.cons (Lent.ar (Lent.res 0 rfl) FI64) (LentAll.nil)) (fun _ _ => rfl)) rfl fun x7 => ?_
  refine J.quiet (Y.assign rfl) rfl ?_
  refine J.done ?_
  refine J.thenN ?_
  refine J.ret ?_
  obtain rfl := Option.some.inj h
  exact J.retG1 (()) rfl rfl (RV.tmp rfl) (SubM.nil) LentAll.nil

end Go.Proofs.Ytemhmmcakmidkaa
end
section
namespace Go.Proofs.Ytemhmmcakmidkaa
open Go.Sx
set_option linter.unusedVariables false
set_option linter.unusedSimpArgs false

def ref01_Diameter_k1  (a7 : Int) : Option (Int) :=
  some (a7)
def ref01_Diameter_s1 (fuel : Nat) (p0 : List (Int) × (List (List (Int × Int)))) (a12 : Int × Int) (ag11 : (Int × Int) → Option (Int)) : Option (Int) :=
  if a12.2 < (List.length p0.2 : Int) then (Option.bind (m_ref01_Eccentricity fuel ((p0.1, p0.2)) a12.2) fun r16 => (ag11 ((max a12.1 r16), (wI .i64 (a12.2 + (1 : Int)))))) else (ref01_Diameter_k1  (a12.1))
def m_ref01_Diameter (fuel : Nat) (p0 : List (Int) × (List (List (Int × Int)))) : Option (Int) :=
  Option.bind (m_ref01_Connected fuel ((p0.1, p0.2))) fun r2 => (if (!r2) = true then (some (-1 : Int)) else (iter (ref01_Diameter_s1 fuel p0) fuel ((0 : Int), (0 : Int))))

theorem body57 : HasBody Try.prog 57 := Try.call57

set_option maxHeartbeats 4000000 in
set_option maxRecDepth 20000 in
theorem t_ref01_Diameter (fuel : Nat) {p0 : List (Int) × (List (List (Int × Int)))} (v0 : Value)  (v1 : Value)  (z2 : List (Value × List (Int × Int))) (r : Int) (h : m_ref01_Diameter fuel p0 = some r) :
    Meets Try.prog 57 #[Value.agg #[v0, v1]] [Sl RI64 v0 p0.1, S2 RI64I64p v1 z2 p0.2] (fun x : Unit => Value.int .i64 (r)) (fun x l => l) (fun _ l => l) := by
  refine Meets.of (vs := [Value.agg #[v0, v1]]) Try.func57 rfl Try.ntmps57 rfl fun c => ?_
  unfold m_ref01_Diameter at h
  refine J.seq ?_
  refine J.region ?_
  refine J.loud (Loud.box (cs := [v0, v1]) rfl rfl) rfl fun b1 => ?_
  refine J.quiet (Y.assign rfl) rfl ?_
  refine J.done ?_
  refine J.thenN ?_
  refine J.seq ?_
  refine J.seq ?_
  refine J.region ?_
  refine J.quiet (Y.loadBAll 0 rfl rfl rfl rfl) rfl ?_
  replace h := bnd h; obtain ⟨r2, hr3, h⟩ := h
  refine J.loud (Loud.callL body55 (t_ref01_Connected fuel v0 v1 z2 r2 hr3) rfl (LentAll.cons (Lent.fact 0 rfl) (LentAll.cons (Lent.fact 1 rfl) (LentAll.nil))) (fun _ _ => rfl)) rfl fun x4 => ?_
  refine J.quiet (Y.not rfl) rfl ?_
  refine J.done ?_
  refine J.thenN ?_
  refine J.cond (by exact rfl) (fun hp5 => ?_) (fun hp5 => ?_)
  · replace h := ifP hp5 h
    refine J.seq ?_
    refine J.region ?_
    refine J.quiet (Y.assign rfl) rfl ?_
    refine J.done ?_
    refine J.thenN ?_
    refine J.ret ?_
    refine J.thenR ?_
    obtain rfl := Option.some.inj h
    exact J.retG1 (()) rfl rfl (RV.tmp rfl) (SubM.nil) LentAll.nil
  · replace h := ifBN hp5 h
    refine J.skip ?_
    refine J.thenN ?_
    refine J.seq ?_
    refine J.region ?_
    refine J.quiet (Y.assign rfl) rfl ?_
    refine J.done ?_
    refine J.thenN ?_
    refine J.seq ?_
    refine J.midI (A := Int) (B := Unit) (fun a7 => ref01_Diameter_k1  a7 = some r) (fun a7 b8 => [(3, Value.int .i64 (a7))]) (fun a7 b8 => []) (fun a7 b8 => [Sl RI64 v0 p0.1, S2 RI64I64p v1 z2 p0.2]) ?_ ?_
    · refine J.seq ?_
      refine J.region ?_
      refine J.quiet (Y.assign rfl) rfl ?_
      refine J.done ?_
      refine J.thenN ?_
      refine J.block ?_
      refine J.loopI (A := Int × Int) (B := Unit) (ref01_Diameter_s1 fuel p0) (fun a12 b13 => [(1, Value.pointer (some ⟨b1, 0, none⟩)), (3, Value.int .i64 (a12.1)), (4, Value.int .i64 (a12.2))]) (fun a12 b13 => [Blk b1 [v0, v1] 26]) (fun a12 b13 => [Sl RI64 v0 p0.1, S2 RI64I64p v1 z2 p0.2]) ((0 : Int), (0 : Int)) (()) h (by repeat (first | exact SubF.nil | refine SubF.cons rfl ?_)) (SubM.refl _) (LentAll.refl _ _) ?_
      clear h
      intro k14 a12 b13 h
      unfold ref01_Diameter_s1 at h
      refine J.seq ?_
      refine J.seq ?_
      refine J.region ?_
      refine J.quiet (Y.move rfl) rfl ?_
      refine J.quiet (Y.fieldB rfl rfl rfl rfl rfl) rfl ?_
      refine J.quiet (Y.loadB 0 rfl rfl rfl rfl rfl) rfl ?_
      refine J.quiet (Y.lenN rfl (Lent.fact 1 rfl) rfl) rfl ?_
      refine J.quiet (Y.lss rfl rfl) rfl ?_
      refine J.done ?_
      refine J.thenN ?_
      refine J.condD (by exact rfl) (fun hp15 => ?_) (fun hp15 => ?_)
      · replace h := ifP hp15 h
        refine J.skip ?_
        refine J.thenN ?_
        refine J.seq ?_
        refine J.block ?_
        refine J.region ?_
        refine J.quiet (Y.move rfl) rfl ?_
        refine J.quiet (Y.loadBAll 0 rfl rfl rfl rfl) rfl ?_
        refine J.quiet (Y.move rfl) rfl ?_
        replace h := bnd h; obtain ⟨r16, hr17, h⟩ := h
        refine J.loud (Loud.callL body56 (t_ref01_Eccentricity fuel v0 v1 z2 r16 hr17) rfl (LentAll.cons (Lent.fact 0 rfl) (LentAll.cons (Lent.fact 1 rfl) (LentAll.nil))) (fun _ _ => rfl)) rfl fun x18 => ?_
        refine J.quiet (Y.max rfl rfl) rfl ?_
        refine J.quiet (Y.assign rfl) rfl ?_
        refine J.done ?_
        refine J.inN ?_
        refine J.thenN ?_
        refine J.region ?_
        refine J.quiet (Y.move rfl) rfl ?_
        refine J.quiet (Y.addW rfl rfl) rfl ?_
        refine J.quiet (Y.assign rfl) rfl ?_
        refine J.done ?_
        refine J.thenN ?_
        exact J.againI ((max a12.1 r16), (wI .i64 (a12.2 + (1 : Int)))) (()) h (by repeat (first | exact SubF.nil | refine SubF.cons rfl ?_)) (SubM.refl _) (LentAll.refl _ _)
      · replace h := ifN hp15 h
        refine J.exit ?_
        refine J.thenX ?_
        refine J.thenX ?_
        refine J.inX ?_
        refine J.thenN ?_
        exact J.meetI (a12.1) (()) h (by repeat (first | exact SubF.nil | refine SubF.cons rfl ?_)) (SubM.nil) (LentAll.refl _ _)
    · clear h
      intro a7 b8 h
      unfold ref01_Diameter_k1 at h
      refine J.seq ?_
      refine J.region ?_
      refine J.quiet (Y.move rfl) rfl ?_
      refine J.quiet (Y.assign rfl) rfl ?_
      refine J.done ?_
      refine J.thenN ?_
      refine J.ret ?_
      obtain rfl := Option.some.inj h
      exact J.retG1 (()) rfl rfl (RV.tmp rfl) (SubM.refl _) LentAll.nil

end Go.Proofs.Ytemhmmcakmidkaa
end
section
namespace Go.Proofs.Ytemhmmcakmidkaa
open Go.Sx
set_option linter.unusedVariables false
set_option linter.unusedSimpArgs false

def ref01_Size_k1 (p0 : List (Int) × (List (List (Int × Int)))) (a7 : Int) : Option (Int × Int) :=
  ck ((2 : Int) ≠ 0) (some ((List.length p0.2 : Int), (wI .i64 (Int.tdiv a7 (2 : Int)))))
def ref01_Size_s1 (p0 : List (Int) × (List (List (Int × Int)))) (a13 : Int × Int) (ag12 : (Int × Int) → Option (Int × Int)) : Option (Int × Int) :=
  if a13.2 < (List.length p0.2 : Int) then (ck (0 ≤ a13.2 ∧ a13.2 < (List.length p0.2 : Int)) (ag12 ((wI .i64 (a13.1 + (List.length (at' p0.2 a13.2) : Int))), (wI .i64 (a13.2 + (1 : Int)))))) else (ref01_Size_k1 p0 (a13.1))
def m_ref01_Size (fuel : Nat) (p0 : List (Int) × (List (List (Int × Int)))) : Option (Int × Int) :=
  Option.bind (m_ref01_Valid fuel ((p0.1, p0.2))) fun r2 => (if (!r2) = true then (some ((0 : Int), (0 : Int))) else (iter (ref01_Size_s1 p0) fuel ((0 : Int), (0 : Int))))

theorem body63 : HasBody Try.prog 63 := Try.call63

set_option maxHeartbeats 4000000 in
set_option maxRecDepth 20000 in
theorem t_ref01_Size (fuel : Nat) {p0 : List (Int) × (List (List (Int × Int)))} (v0 : Value)  (v1 : Value)  (z2 : List (Value × List (Int × Int))) (r : Int × Int) (h : m_ref01_Size fuel p0 = some r) :
    Meets Try.prog 63 #[Value.agg #[v0, v1]] [Sl RI64 v0 p0.1, S2 RI64I64p v1 z2 p0.2] (fun x : Unit => Value.tuple #[Value.int .i64 (r.1), Value.int .i64 (r.2)]) (fun x l => l) (fun _ l => l) := by
  refine Meets.of (vs := [Value.agg #[v0, v1]]) Try.func63 rfl Try.ntmps63 rfl fun c => ?_
  unfold m_ref01_Size at h
  refine J.seq ?_
  refine J.region ?_
  refine J.loud (Loud.box (cs := [v0, v1]) rfl rfl) rfl fun b1 => ?_
  refine J.quiet (Y.assign rfl) rfl ?_
  refine J.quiet (Y.assign rfl) rfl ?_
  refine J.done ?_
  refine J.thenN ?_
  refine J.seq ?_
  refine J.seq ?_
  refine J.region ?_
  refine J.quiet (Y.loadBAll 0 rfl rfl rfl rfl) rfl ?_
  replace h := bnd h; obtain ⟨r2, hr3, h⟩ := h
  refine J.loud (Loud.callL body51 (t_ref01_Valid fuel v0 v1 z2 r2 hr3) rfl (LentAll.cons (Lent.fact 0 rfl) (LentAll.cons (Lent.fact 1 rfl) (LentAll.nil))) (fun _ _ => rfl)) rfl fun x4 => ?_
  refine J.quiet (Y.not rfl) rfl ?_
  refine J.done ?_
  refine J.thenN ?_
  refine J.cond (by exact rfl) (fun hp5 => ?_) (fun hp5 => ?_)
  · replace h := ifP hp5 h
    refine J.seq ?_
    refine J.region ?_
    refine J.quiet (Y.assign rfl) rfl ?_
    refine J.quiet (Y.assign rfl) rfl ?_
    refine J.done ?_
    refine J.thenN ?_
    refine J.ret ?_
    refine J.thenR ?_
    obtain rfl := Option.some.inj h
    exact J.retG2 (()) rfl rfl (RV.tmp rfl) (RV.tmp rfl) (SubM.nil) LentAll.nil
  · replace h := ifBN hp5 h
    refine J.skip ?_
    refine J.thenN ?_
    refine J.seq ?_
    refine J.region ?_
    refine J.quiet (Y.assign rfl) rfl ?_
    refine J.done ?_
    refine J.thenN ?_
    refine J.seq ?_
    refine J.midI (A := Int) (B := Unit) (fun a7 => ref01_Size_k1 p0 a7 = some r) (fun a7 b8 => [(1, Value.pointer (some ⟨b1, 0, none⟩)), (4, Value.int .i64 (a7))]) (fun a7 b8 => [Blk b1 [v0, v1] 26]) (fun a7 b8 => [Sl RI64 v0 p0.1, S2 RI64I64p v1 z2 p0.2]) ?_ ?_
    · refine J.seq ?_
      refine J.region ?_
      refine J.quiet (Y.assign rfl) rfl ?_
      refine J.done ?_
      refine J.thenN ?_
      refine J.block ?_
      refine J.loopI (A := Int × Int) (B := Unit) (ref01_Size_s1 p0) (fun a13 b14 => [(1, Value.pointer (some ⟨b1, 0, none⟩)), (4, Value.int .i64 (a13.1)), (5, Value.int .i64 (a13.2))]) (fun a13 b14 => [Blk b1 [v0, v1] 26]) (fun a13 b14 => [Sl RI64 v0 p0.1, S2 RI64I64p v1 z2 p0.2]) ((0 : Int), (0 : Int)) (()) h (by repeat (first | exact SubF.nil | refine SubF.cons rfl ?_)) (SubM.refl _) (LentAll.refl _ _) ?_
      clear h
      intro k15 a13 b14 h
      unfold ref01_Size_s1 at h
      refine J.seq ?_
      refine J.seq ?_
      refine J.region ?_
      refine J.quiet (Y.move rfl) rfl ?_
      refine J.quiet (Y.fieldB rfl rfl rfl rfl rfl) rfl ?_
      refine J.quiet (Y.loadB 0 rfl rfl rfl rfl rfl) rfl ?_
      refine J.quiet (Y.lenN rfl (Lent.fact 1 rfl) rfl) rfl ?_
      refine J.quiet (Y.lss rfl rfl) rfl ?_
      refine J.done ?_
      refine J.thenN ?_
      refine J.condD (by exact rfl) (fun hp16 => ?_) (fun hp16 => ?_)
      · replace h := ifP hp16 h
        refine J.skip ?_
        refine J.thenN ?_
        refine J.seq ?_
        refine J.block ?_
        refine J.region ?_
        refine J.quiet (Y.move rfl) rfl ?_
        refine J.quiet (Y.fieldB rfl rfl rfl rfl rfl) rfl ?_
        refine J.quiet (Y.loadB 0 rfl rfl rfl rfl rfl) rfl ?_
        refine J.quiet (Y.move rfl) rfl ?_
        replace h := ck_some h; obtain ⟨hc17, h⟩ := h
        refine J.quiet (Y.indexN rfl rfl (Lent.fact 1 rfl) rfl rfl hc17) rfl ?_
        refine J.quiet (Y.loadRow rfl (Lent.fact 1 rfl) rfl rfl hc17) rfl ?_
        refine J.quiet (Y.lenS rfl (Lent.el (Lent.fact 1 rfl) hc17.1 hc17.2) rfl) rfl ?_
        refine J.quiet (Y.addW rfl rfl) rfl ?_
        refine J.quiet (Y.assign rfl) rfl ?_
        refine J.done ?_
        refine J.inN ?_
        refine J.thenN ?_
        refine J.region ?_
        refine J.quiet (Y.move rfl) rfl ?_
        refine J.quiet (Y.addW rfl rfl) rfl ?_
        refine J.quiet (Y.assign rfl) rfl ?_
        refine J.done ?_
        refine J.thenN ?_
        exact J.againI ((wI .i64 (a13.1 + (List.length (at' p0.2 a13.2) : Int))), (wI .i64 (a13.2 + (1 : Int)))) (()) h (by repeat (first | exact SubF.nil | refine SubF.cons rfl ?_)) (SubM.refl _) (LentAll.refl _ _)
      · replace h := ifN hp16 h
        refine J.exit ?_
        refine J.thenX ?_
        refine J.thenX ?_
        refine J.inX ?_
        refine J.thenN ?_
        exact J.meetI (a13.1) (()) h (by repeat (first | exact SubF.nil | refine SubF.cons rfl ?_)) (SubM.refl _) (LentAll.refl _ _)
    · clear h
      intro a7 b8 h
      unfold ref01_Size_k1 at h
      refine J.seq ?_
      refine J.region ?_
      refine J.quiet (Y.fieldB rfl rfl rfl rfl rfl) rfl ?_
      refine J.quiet (Y.loadB 0 rfl rfl rfl rfl rfl) rfl ?_
      refine J.quiet (Y.lenN rfl (Lent.fact 1 rfl) rfl) rfl ?_
      refine J.quiet (Y.move rfl) rfl ?_
      replace h := ck_some h; obtain ⟨hc9, h⟩ := h
      refine J.quiet (Y.quoW rfl rfl hc9) rfl ?_
      refine J.quiet (Y.assign rfl) rfl ?_
      refine J.quiet (Y.assign rfl) rfl ?_
      refine J.done ?_
      refine J.thenN ?_
      refine J.ret ?_
      obtain rfl := Option.some.inj h
      exact J.retG2 (()) rfl rfl (RV.tmp rfl) (RV.tmp rfl) (SubM.nil) LentAll.nil

end Go.Proofs.Ytemhmmcakmidkaa
end
section
namespace Go.Proofs.Ytemhmmcakmidkaa
open Go.Sx
set_option linter.unusedVariables false
set_option linter.unusedSimpArgs false

def ref01_Tree_k1  (a6 : Bool) : Option (Bool) :=
  some (a6)
def m_ref01_Tree (fuel : Nat) (p0 : List (Int) × (List (List (Int × Int)))) : Option (Bool) :=
  Option.bind (m_ref01_Size fuel ((p0.1, p0.2))) fun r2 => (Option.bind (m_ref01_Connected fuel ((p0.1, p0.2))) fun r8 => (if r8 = true then (ref01_Tree_k1  (decide (r2.2 = (wI .i64 (r2.1 - (1 : Int)))))) else (ref01_Tree_k1  (false))))

theorem body58 : HasBody Try.prog 58 := Try.call58

set_option maxHeartbeats 4000000 in
set_option maxRecDepth 20000 in
theorem t_ref01_Tree (fuel : Nat) {p0 : List (Int) × (List (List (Int × Int)))} (v0 : Value)  (v1 : Value)  (z2 : List (Value × List (Int × Int))) (r : Bool) (h : m_ref01_Tree fuel p0 = some r) :
    Meets Try.prog 58 #[Value.agg #[v0, v1]] [Sl RI64 v0 p0.1, S2 RI64I64p v1 z2 p0.2] (fun x : Unit => Value.bool (r)) (fun x l => l) (fun _ l => l) := by
  refine Meets.of (vs := [Value.agg #[v0, v1]]) Try.func58 rfl Try.ntmps58 rfl fun c => ?_
  unfold m_ref01_Tree at h
  refine J.seq ?_
  refine J.region ?_
  refine J.loud (Loud.box (cs := [v0, v1]) rfl rfl) rfl fun b1 => ?_
  refine J.quiet (Y.assign rfl) rfl ?_
  refine J.done ?_
  refine J.thenN ?_
  refine J.seq ?_
  refine J.region ?_
  refine J.quiet (Y.loadBAll 0 rfl rfl rfl rfl) rfl ?_
  replace h := bnd h; obtain ⟨r2, hr3, h⟩ := h
  refine J.loud (Loud.callL body63 (t_ref01_Size fuel v0 v1 z2 r2 hr3) rfl (LentAll.cons (Lent.fact 0 rfl) (LentAll.cons (Lent.fact 1 rfl) (LentAll.nil))) (fun _ _ => rfl)) rfl fun x4 => ?_
  refine J.quiet (Y.move rfl) rfl ?_
  refine J.quiet (Y.extract rfl rfl) rfl ?_
  refine J.quiet (Y.extract rfl rfl) rfl ?_
  refine J.quiet (Y.assign rfl) rfl ?_
  refine J.quiet (Y.assign rfl) rfl ?_
  refine J.done ?_
  refine J.thenN ?_
  refine J.seq ?_
  refine J.midI (A := Bool) (B := Unit) (fun a6 => ref01_Tree_k1  a6 = some r) (fun a6 b7 => [(2, Value.bool (a6))]) (fun a6 b7 => []) (fun a6 b7 => [Sl RI64 v0 p0.1, S2 RI64I64p v1 z2 p0.2]) ?_ ?_
  · refine J.region ?_
    refine J.quiet (Y.loadBAll 0 rfl rfl rfl rfl) rfl ?_
    replace h := bnd h; obtain ⟨r8, hr9, h⟩ := h
    refine J.loud (Loud.callL body55 (t_ref01_Connected fuel v0 v1 z2 r8 hr9) rfl (LentAll.cons (Lent.fact 0 rfl) (LentAll.cons (Lent.fact 1 rfl) (LentAll.nil))) (fun _ _ => rfl)) rfl fun x10 => ?_
    refine J.quiet (Y.move rfl) rfl ?_
    refine J.guard (by exact rfl) (by exact rfl) (fun hp11 => ?_) (fun hp11 => ?_)
    · replace h := ifP hp11 h
      refine J.guardY rfl (Y.move rfl) rfl ?_
      refine J.guardY rfl (Y.move rfl) rfl ?_
      refine J.guardY rfl (Y.subW rfl rfl) rfl ?_
      refine J.guardY rfl (Y.eql rfl rfl) rfl ?_
      refine J.quiet (Y.pickT rfl rfl) rfl ?_
      refine J.quiet (Y.assign rfl) rfl ?_
      refine J.done ?_
      refine J.thenN ?_
      exact J.meetI (decide (r2.2 = (wI .i64 (r2.1 - (1 : Int))))) (()) h (by repeat (first | exact SubF.nil | refine SubF.cons rfl ?_)) (SubM.nil) (LentAll.refl _ _)
    · replace h := ifBN hp11 h
      refine J.guardN rfl rfl rfl ?_
      refine J.guardN rfl rfl rfl ?_
      refine J.guardN rfl rfl rfl ?_
      refine J.guardN rfl rfl rfl ?_
      refine J.quiet (Y.pickF rfl rfl) rfl ?_
      refine J.quiet (Y.assign rfl) rfl ?_
      refine J.done ?_
      refine J.thenN ?_
      exact J.meetI (false) (()) h (by repeat (first | exact SubF.nil | refine SubF.cons rfl ?_)) (SubM.nil) (LentAll.refl _ _)
  · clear h
    intro a6 b7 h
    unfold ref01_Tree_k1 at h
    refine J.ret ?_
    obtain rfl := Option.some.inj h
    exact J.retG1 (()) rfl rfl (RV.tmp rfl) (SubM.refl _) LentAll.nil

end Go.Proofs.Ytemhmmcakmidkaa
end
section
namespace Go.Proofs.Ytemhmmcakmidkaa
open Go.Sx
set_option linter.unusedVariables false
set_option linter.unusedSimpArgs false

def law01_GraphMeasures_k1  (a10 : Bool) : Option (Bool) :=
  some (a10)
def m_law01_GraphMeasures (fuel : Nat) (p0 : List (Int) × (List (List (Int × Int)))) (p1 : Int) : Option (Bool) :=
  Option.bind (m_made_LightGraph fuel ((p0.1, p0.2))) fun r2 => (if (!r2) = true then (Option.bind (m_law01_awake fuel ) fun r6 => (some (r6))) else (Option.bind (m_law01_awake fuel ) fun r12 => (if r12 = true then (Option.bind (m_graph_Distances fuel ((p0.1, p0.2)) p1) fun r16 => (Option.bind (m_ref01_Distances fuel ((p0.1, p0.2)) p1) fun r19 => (Option.bind (m_ref01_SameInts fuel r16 r19) fun r22 => (if r22 = true then (Option.bind (m_graph_Connected fuel ((p0.1, p0.2))) fun r26 => (Option.bind (m_ref01_Connected fuel ((p0.1, p0.2))) fun r29 => (if (r26 == r29) = true then (Option.bind (m_graph_Eccentricity fuel ((p0.1, p0.2)) p1) fun r33 => (Option.bind (m_ref01_Eccentricity fuel ((p0.1, p0.2)) p1) fun r36 => (if r33 = r36 then (Option.bind (m_graph_Diameter fuel ((p0.1, p0.2))) fun r40 => (Option.bind (m_ref01_Diameter fuel ((p0.1, p0.2))) fun r43 => (if r40 = r43 then (Option.bind (m_graph_Tree fuel ((p0.1, p0.2))) fun r47 => (Option.bind (m_ref01_Tree fuel ((p0.1, p0.2))) fun r50 => (law01_GraphMeasures_k1  ((r47 == r50))))) else (law01_GraphMeasures_k1  (false))))) else (law01_GraphMeasures_k1  (false))))) else (law01_GraphMeasures_k1  (false))))) else (law01_GraphMeasures_k1  (false)))))) else (law01_GraphMeasures_k1  (false)))))

theorem body12 : HasBody Try.prog 12 := Try.call12

set_option maxHeartbeats 4000000 in
set_option maxRecDepth 20000 in
theorem t_law01_GraphMeasures (fuel : Nat) {p0 : List (Int) × (List (List (Int × Int)))} {p1 : Int} (v0 : Value)  (v1 : Value)  (z2 : List (Value × List (Int × Int))) (r : Bool) (h : m_law01_GraphMeasures fuel p0 p1 = some r) :
    Meets Try.prog 12 #[Value.agg #[v0, v1], Value.int .i64 (p1)] [Sl RI64 v0 p0.1, S2 RI64I64p v1 z2 p0.2] (fun x : Unit => Value.bool (r)) (fun x l => l) (fun _ l => l) := by
  refine Meets.of (vs := [Value.agg #[v0, v1], Value.int .i64 (p1)]) Try.func12 rfl Try.ntmps12 rfl fun c => ?_
  unfold m_law01_GraphMeasures at h
  refine J.seq ?_
  refine J.region ?_
  refine J.loud (Loud.box (cs := [v0, v1]) rfl rfl) rfl fun b1 => ?_
  refine J.quiet (Y.assign rfl) rfl ?_
  refine J.done ?_
  refine J.thenN ?_
  refine J.seq ?_
  refine J.seq ?_
  refine J.region ?_
  refine J.quiet (Y.loadBAll 0 rfl rfl rfl rfl) rfl ?_
  replace h := bnd h; obtain ⟨r2, hr3, h⟩ := h
  refine J.loud (Loud.callL body46 (t_made_LightGraph fuel v0 v1 z2 r2 hr3) rfl (LentAll.cons (Lent.fact 0 rfl) (LentAll.cons (Lent.fact 1 rfl) (LentAll.nil))) (fun _ _ => rfl)) rfl fun x4 => ?_
  refine J.quiet (Y.not rfl) rfl ?_
  refine J.done ?_
  refine J.thenN ?_
  refine J.cond (by exact rfl) (fun hp5 => ?_) (fun hp5 => ?_)
  · replace h := ifP hp5 h
    refine J.seq ?_
    refine J.region ?_
    replace h := bnd h; obtain ⟨r6, hr7, h⟩ := h
    refine J.loud (Loud.callL body33 (t_law01_awake fuel  r6 hr7) rfl (LentAll.nil) (fun _ _ => rfl)) rfl fun x8 => ?_
    refine J.quiet (Y.assign rfl) rfl ?_
    refine J.done ?_
    refine J.thenN ?_
    refine J.ret ?_
    refine J.thenR ?_
    obtain rfl := Option.some.inj h
    exact J.retG1 (()) rfl rfl (RV.tmp rfl) (SubM.nil) LentAll.nil
  · replace h := ifBN hp5 h
    refine J.skip ?_
    refine J.thenN ?_
    refine J.seq ?_
    refine J.midI (A := Bool) (B := Unit) (fun a10 => law01_GraphMeasures_k1  a10 = some r) (fun a10 b11 => [(4, Value.bool (a10))]) (fun a10 b11 => []) (fun a10 b11 => [Sl RI64 v0 p0.1, S2 RI64I64p v1 z2 p0.2]) ?_ ?_
    · refine JR.start [0, 1, 3, 3, 15, 3, 3, 127, 255, 511, 1023, 2047, 4095, 2047, 16383, 32767, 65535, 131071, 262143, 262143, 1048575, 262143, 262143, 8388607, 16777215, 33554431, 67108863, 134217727, 268435455, 134217727, 1073741823, 2147483647, 4294967295, 8589934591, 17179869183, 34359738367, 17179869183, 137438953471, 274877906943, 549755813887, 1099511627775] 37 mixedOrders (by decide +kernel) ?_
      refine JR.open (by exact rfl) ?_
      replace h := bnd h; obtain ⟨r12, hr13, h⟩ := h
      refine JR.loud rfl rfl rfl (Loud.callL body33 (t_law01_awake fuel  r12 hr13) rfl (LentAll.nil) (fun _ _ => rfl)) rfl (fun x14 => BsOk.z) fun x14 => ?_
      refine JR.qt rfl (SubM.nil) (SubL.nil) (Y.move rfl) (HistOk.b rfl HistOk.z) ?_
      refine JR.guard (by exact rfl) (by exact rfl) (by exact rfl) (fun hp15 => ?_) (fun hp15 => ?_)
      · replace h := ifP hp15 h
        refine JR.qtG rfl (SubM.refl _) (SubL.nil) (Y.loadBAll 0 rfl rfl rfl rfl) (HistOk.b rfl HistOk.z) ?_
        refine JR.qtG rfl (SubM.nil) (SubL.nil) (Y.move rfl) (HistOk.b rfl HistOk.z) ?_
        replace h := bnd h; obtain ⟨r16, hr17, h⟩ := h
        refine JR.loudG rfl rfl rfl rfl (Loud.callL body35 (t_graph_Distances fuel v0 v1 z2 r16 hr17) rfl (LentAll.cons (Lent.fact 0 rfl) (LentAll.cons (Lent.fact 1 rfl) (LentAll.nil))) (fun _ _ => rfl)) rfl (fun x18 => (BsOk.b rfl (BsOk.b rfl (BsOk.b rfl BsOk.z)))) fun x18 => ?_
        refine JR.qtG rfl (SubM.cons 1 rfl (SubM.nil)) (SubL.nil) (Y.loadBAll 0 rfl rfl rfl rfl) (HistOk.h (SubM.cons 0 rfl (SubM.nil)) (SubL.nil) (HistOk.b rfl HistOk.z)) ?_
        refine JR.qtG rfl (SubM.nil) (SubL.nil) (Y.move rfl) (HistOk.h (SubM.nil) (SubL.nil) (HistOk.b rfl HistOk.z)) ?_
        replace h := bnd h; obtain ⟨r19, hr20, h⟩ := h
        refine JR.loudG rfl rfl rfl rfl (Loud.callL body54 (t_ref01_Distances fuel v0 v1 z2 r19 hr20) rfl (LentAll.cons (Lent.fact 0 rfl) (LentAll.cons (Lent.fact 1 rfl) (LentAll.nil))) (fun _ _ => rfl)) rfl (fun x21 => (BsOk.b rfl (BsOk.b rfl (BsOk.b rfl (BsOk.b rfl (BsOk.b rfl BsOk.z)))))) fun x21 => ?_
        replace h := bnd h; obtain ⟨r22, hr23, h⟩ := h
        refine JR.loudG rfl rfl rfl rfl (Loud.callL body53 (t_ref01_SameInts fuel x18 x21 r22 hr23) rfl (LentAll.cons (Lent.ar (Lent.res 1 rfl) FI64) (LentAll.cons (Lent.ar (Lent.res 0 rfl) FI64) (LentAll.nil))) (fun _ _ => rfl)) rfl (fun x24 => (BsOk.b rfl (BsOk.b rfl (BsOk.b rfl (BsOk.b rfl (BsOk.b rfl BsOk.z)))))) fun x24 => ?_
        refine JR.qt rfl (SubM.nil) (SubL.nil) (Y.pickT rfl rfl) (HistOk.b rfl (HistOk.b rfl (HistOk.b rfl (HistOk.b rfl HistOk.z)))) ?_
        refine JR.qt rfl (SubM.nil) (SubL.nil) (Y.move rfl) (HistOk.b rfl (HistOk.b rfl (HistOk.b rfl (HistOk.b rfl HistOk.z)))) ?_
        refine JR.guard (by exact rfl) (by exact rfl) (by exact rfl) (fun hp25 => ?_) (fun hp25 => ?_)
        · replace h := ifP hp25 h
          refine JR.qtG rfl (SubM.cons 2 rfl (SubM.nil)) (SubL.nil) (Y.loadBAll 0 rfl rfl rfl rfl) (HistOk.b rfl (HistOk.b rfl (HistOk.b rfl (HistOk.b rfl HistOk.z)))) ?_
          replace h := bnd h; obtain ⟨r26, hr27, h⟩ := h
          refine JR.loudG rfl rfl rfl rfl (Loud.callL body37 (t_graph_Connected fuel v0 v1 z2 r26 hr27) rfl (LentAll.cons (Lent.fact 0 rfl) (LentAll.cons (Lent.fact 1 rfl) (LentAll.nil))) (fun _ _ => rfl)) rfl (fun x28 => (BsOk.b rfl (BsOk.b rfl (BsOk.b rfl (BsOk.b rfl (BsOk.b rfl (BsOk.b rfl (BsOk.b rfl (BsOk.b rfl BsOk.z))))))))) fun x28 => ?_
          refine JR.qtG rfl (SubM.cons 2 rfl (SubM.nil)) (SubL.nil) (Y.loadBAll 0 rfl rfl rfl rfl) (HistOk.h (SubM.cons 2 rfl (SubM.nil)) (SubL.nil) (HistOk.b rfl (HistOk.b rfl (HistOk.b rfl (HistOk.b rfl HistOk.z))))) ?_
          replace h := bnd h; obtain ⟨r29, hr30, h⟩ := h
          refine JR.loudG rfl rfl rfl rfl (Loud.callL body55 (t_ref01_Connected fuel v0 v1 z2 r29 hr30) rfl (LentAll.cons (Lent.fact 0 rfl) (LentAll.cons (Lent.fact 1 rfl) (LentAll.nil))) (fun _ _ => rfl)) rfl (fun x31 => (BsOk.b rfl (BsOk.b rfl (BsOk.b rfl (BsOk.b rfl (BsOk.b rfl (BsOk.b rfl (BsOk.b rfl (BsOk.b rfl (BsOk.b rfl BsOk.z)))))))))) fun x31 => ?_
          refine JR.qtG rfl (SubM.nil) (SubL.nil) (Y.eqlB rfl rfl rfl) (HistOk.b rfl (HistOk.b rfl (HistOk.b rfl (HistOk.b rfl (HistOk.b rfl (HistOk.b rfl HistOk.z)))))) ?_
          refine JR.qt rfl (SubM.nil) (SubL.nil) (Y.pickT rfl rfl) (HistOk.b rfl (HistOk.b rfl (HistOk.b rfl (HistOk.b rfl (HistOk.b rfl (HistOk.b rfl HistOk.z)))))) ?_
          refine JR.qt rfl (SubM.nil) (SubL.nil) (Y.move rfl) (HistOk.b rfl (HistOk.b rfl (HistOk.b rfl (HistOk.b rfl (HistOk.b rfl (HistOk.b rfl HistOk.z)))))) ?_
          refine JR.guard (by exact rfl) (by exact rfl) (by exact rfl) (fun hp32 => ?_) (fun hp32 => ?_)
          · replace h := ifP hp32 h
            refine JR.qtG rfl (SubM.cons 2 rfl (SubM.nil)) (SubL.nil) (Y.loadBAll 0 rfl rfl rfl rfl) (HistOk.b rfl (HistOk.b rfl (HistOk.b rfl (HistOk.b rfl (HistOk.b rfl (HistOk.b rfl HistOk.z)))))) ?_
            refine JR.qtG rfl (SubM.nil) (SubL.nil) (Y.move rfl) (HistOk.b rfl (HistOk.b rfl (HistOk.b rfl (HistOk.b rfl (HistOk.b rfl (HistOk.b rfl HistOk.z)))))) ?_
            replace h := bnd h; obtain ⟨r33, hr34, h⟩ := h
            refine JR.loudG rfl rfl rfl rfl (Loud.callL body38 (t_graph_Eccentricity fuel v0 v1 z2 r33 hr34) rfl (LentAll.cons (Lent.fact 0 rfl) (LentAll.cons (Lent.fact 1 rfl) (LentAll.nil))) (fun _ _ => rfl)) rfl (fun x35 => (BsOk.b rfl (BsOk.b rfl (BsOk.b rfl (BsOk.b rfl (BsOk.b rfl (BsOk.b rfl (BsOk.b rfl (BsOk.b rfl (BsOk.b rfl (BsOk.b rfl (BsOk.b rfl (BsOk.b rfl (BsOk.b rfl (BsOk.b rfl BsOk.z))))))))))))))) fun x35 => ?_
            refine JR.qtG rfl (SubM.cons 2 rfl (SubM.nil)) (SubL.nil) (Y.loadBAll 0 rfl rfl rfl rfl) (HistOk.h (SubM.cons 2 rfl (SubM.nil)) (SubL.nil) (HistOk.b rfl (HistOk.b rfl (HistOk.b rfl (HistOk.b rfl (HistOk.b rfl (HistOk.b rfl HistOk.z))))))) ?_
            refine JR.qtG rfl (SubM.nil) (SubL.nil) (Y.move rfl) (HistOk.h (SubM.nil) (SubL.nil) (HistOk.b rfl (HistOk.b rfl (HistOk.b rfl (HistOk.b rfl (HistOk.b rfl (HistOk.b rfl HistOk.z))))))) ?_
            replace h := bnd h; obtain ⟨r36, hr37, h⟩ := h
            refine JR.loudG rfl rfl rfl rfl (Loud.callL body56 (t_ref01_Eccentricity fuel v0 v1 z2 r36 hr37) rfl (LentAll.cons (Lent.fact 0 rfl) (LentAll.cons (Lent.fact 1 rfl) (LentAll.nil))) (fun _ _ => rfl)) rfl (fun x38 => (BsOk.b rfl (BsOk.b rfl (BsOk.b rfl (BsOk.b rfl (BsOk.b rfl (BsOk.b rfl (BsOk.b rfl (BsOk.b rfl (BsOk.b rfl (BsOk.b rfl (BsOk.b rfl (BsOk.b rfl (BsOk.b rfl (BsOk.b rfl (BsOk.b rfl (BsOk.b rfl BsOk.z))))))))))))))))) fun x38 => ?_
            refine JR.qtG rfl (SubM.nil) (SubL.nil) (Y.eql rfl rfl) (HistOk.b rfl (HistOk.b rfl (HistOk.b rfl (HistOk.b rfl (HistOk.b rfl (HistOk.b rfl (HistOk.b rfl (HistOk.b rfl HistOk.z)))))))) ?_
            refine JR.qt rfl (SubM.nil) (SubL.nil) (Y.pickT rfl rfl) (HistOk.b rfl (HistOk.b rfl (HistOk.b rfl (HistOk.b rfl (HistOk.b rfl (HistOk.b rfl (HistOk.b rfl (HistOk.b rfl HistOk.z)))))))) ?_
            refine JR.qt rfl (SubM.nil) (SubL.nil) (Y.move rfl) (HistOk.b rfl (HistOk.b rfl (HistOk.b rfl (HistOk.b rfl (HistOk.b rfl (HistOk.b rfl (HistOk.b rfl (HistOk.b rfl HistOk.z)))))))) ?_
            refine JR.guardD (by exact rfl) (by exact rfl) (by exact rfl) (fun hp39 => ?_) (fun hp39 => ?_)
            · replace h := ifP hp39 h
              refine JR.qtG rfl (SubM.cons 2 rfl (SubM.nil)) (SubL.nil) (Y.loadBAll 0 rfl rfl rfl rfl) (HistOk.b rfl (HistOk.b rfl (HistOk.b rfl (HistOk.b rfl (HistOk.b rfl (HistOk.b rfl (HistOk.b rfl (HistOk.b rfl HistOk.z)))))))) ?_
              replace h := bnd h; obtain ⟨r40, hr41, h⟩ := h
              refine JR.loudG rfl rfl rfl rfl (Loud.callL body36 (t_graph_Diameter fuel v0 v1 z2 r40 hr41) rfl (LentAll.cons (Lent.fact 0 rfl) (LentAll.cons (Lent.fact 1 rfl) (LentAll.nil))) (fun _ _ => rfl)) rfl (fun x42 => (BsOk.b rfl (BsOk.b rfl (BsOk.b rfl (BsOk.b rfl (BsOk.b rfl (BsOk.b rfl (BsOk.b rfl (BsOk.b rfl (BsOk.b rfl (BsOk.b rfl (BsOk.b rfl (BsOk.b rfl (BsOk.b rfl (BsOk.b rfl (BsOk.b rfl (BsOk.b rfl (BsOk.b rfl (BsOk.b rfl (BsOk.b rfl (BsOk.b rfl BsOk.z))))))))))))))))))))) fun x42 => ?_
              refine JR.qtG rfl (SubM.cons 2 rfl (SubM.nil)) (SubL.nil) (Y.loadBAll 0 rfl rfl rfl rfl) (HistOk.h (SubM.cons 2 rfl (SubM.nil)) (SubL.nil) (HistOk.b rfl (HistOk.b rfl (HistOk.b rfl (HistOk.b rfl (HistOk.b rfl (HistOk.b rfl (HistOk.b rfl (HistOk.b rfl HistOk.z))))))))) ?_
              replace h := bnd h; obtain ⟨r43, hr44, h⟩ := h
              refine JR.loudG rfl rfl rfl rfl (Loud.callL body57 (t_ref01_Diameter fuel v0 v1 z2 r43 hr44) rfl (LentAll.cons (Lent.fact 0 rfl) (LentAll.cons (Lent.fact 1 rfl) (LentAll.nil))) (fun _ _ => rfl)) rfl (fun x45 => (BsOk.b rfl (BsOk.b rfl (BsOk.b rfl (BsOk.b rfl (BsOk.b rfl (BsOk.b rfl (BsOk.b rfl (BsOk.b rfl (BsOk.b rfl (BsOk.b rfl (BsOk.b rfl (BsOk.b rfl (BsOk.b rfl (BsOk.b rfl (BsOk.b rfl (BsOk.b rfl (BsOk.b rfl (BsOk.b rfl (BsOk.b rfl (BsOk.b rfl (BsOk.b rfl BsOk.z)))))))))))))))))))))) fun x45 => ?_
              refine JR.qtG rfl (SubM.nil) (SubL.nil) (Y.eql rfl rfl) (HistOk.b rfl (HistOk.b rfl (HistOk.b rfl (HistOk.b rfl (HistOk.b rfl (HistOk.b rfl (HistOk.b rfl (HistOk.b rfl (HistOk.b rfl (HistOk.b rfl HistOk.z)))))))))) ?_
              refine JR.qt rfl (SubM.nil) (SubL.nil) (Y.pickT rfl rfl) (HistOk.b rfl (HistOk.b rfl (HistOk.b rfl (HistOk.b rfl (HistOk.b rfl (HistOk.b rfl (HistOk.b rfl (HistOk.b rfl (HistOk.b rfl (HistOk.b rfl HistOk.z)))))))))) ?_
              refine JR.qt rfl (SubM.nil) (SubL.nil) (Y.move rfl) (HistOk.b rfl (HistOk.b rfl (HistOk.b rfl (HistOk.b rfl (HistOk.b rfl (HistOk.b rfl (HistOk.b rfl (HistOk.b rfl (HistOk.b rfl (HistOk.b rfl HistOk.z)))))))))) ?_
              refine JR.guardD (by exact rfl) (by exact rfl) (by exact rfl) (fun hp46 => ?_) (fun hp46 => ?_)
              · replace h := ifP hp46 h
                refine JR.qtG rfl (SubM.cons 2 rfl (SubM.nil)) (SubL.nil) (Y.loadBAll 0 rfl rfl rfl rfl) (HistOk.b rfl (HistOk.b rfl (HistOk.b rfl (HistOk.b rfl (HistOk.b rfl (HistOk.b rfl (HistOk.b rfl (HistOk.b rfl (HistOk.b rfl (HistOk.b rfl HistOk.z)))))))))) ?_
                replace h := bnd h; obtain ⟨r47, hr48, h⟩ := h
                refine JR.loudG rfl rfl rfl rfl (Loud.callL body41 (t_graph_Tree fuel v0 v1 z2 r47 hr48) rfl (LentAll.cons (Lent.fact 0 rfl) (LentAll.cons (Lent.fact 1 rfl) (LentAll.nil))) (fun _ _ => rfl)) rfl (fun x49 => (BsOk.b rfl (BsOk.b rfl (BsOk.b rfl (BsOk.b rfl (BsOk.b rfl (BsOk.b rfl (BsOk.b rfl (BsOk.b rfl (BsOk.b rfl (BsOk.b rfl (BsOk.b rfl (BsOk.b rfl (BsOk.b rfl (BsOk.b rfl (BsOk.b rfl (BsOk.b rfl (BsOk.b rfl (BsOk.b rfl (BsOk.b rfl (BsOk.b rfl (BsOk.b rfl (BsOk.b rfl (BsOk.b rfl (BsOk.b rfl (BsOk.b rfl BsOk.z)))))))))))))))))))))))))) fun x49 => ?_
                refine JR.qtG rfl (SubM.cons 2 rfl (SubM.nil)) (SubL.nil) (Y.loadBAll 0 rfl rfl rfl rfl) (HistOk.h (SubM.cons 2 rfl (SubM.nil)) (SubL.nil) (HistOk.b rfl (HistOk.b rfl (HistOk.b rfl (HistOk.b rfl (HistOk.b rfl (HistOk.b rfl (HistOk.b rfl (HistOk.b rfl (HistOk.b rfl (HistOk.b rfl HistOk.z))))))))))) ?_
                refine JR.tailD 37 rfl rfl ?_
                replace h := bnd h; obtain ⟨r50, hr51, h⟩ := h
                refine J.loudG rfl (Loud.callL body58 (t_ref01_Tree fuel v0 v1 z2 r50 hr51) rfl (LentAll.cons (Lent.fact 0 rfl) (LentAll.cons (Lent.fact 1 rfl) (LentAll.nil))) (fun _ _ => rfl)) rfl fun x52 => ?_
                refine J.guardY rfl (Y.eqlB rfl rfl rfl) rfl ?_
                refine J.quiet (Y.pickT rfl rfl) rfl ?_
                refine J.quiet (Y.assign rfl) rfl ?_
                refine J.done ?_
                refine J.thenN ?_
                exact J.meetI ((r47 == r50)) (()) h (by repeat (first | exact SubF.nil | refine SubF.cons rfl ?_)) (SubM.nil) (LentAll.refl _ _)
              · replace h := ifN hp46 h
                refine JR.guardN rfl rfl rfl rfl ?_
                refine JR.guardN rfl rfl rfl rfl ?_
                refine JR.guardN rfl rfl rfl rfl ?_
                refine JR.tailD 37 rfl rfl ?_
                refine J.guardN rfl rfl rfl ?_
                refine J.guardN rfl rfl rfl ?_
                refine J.quiet (Y.pickF rfl rfl) rfl ?_
                refine J.quiet (Y.assign rfl) rfl ?_
                refine J.done ?_
                refine J.thenN ?_
                exact J.meetI (false) (()) h (by repeat (first | exact SubF.nil | refine SubF.cons rfl ?_)) (SubM.nil) (LentAll.refl _ _)
            · replace h := ifN hp39 h
              refine JR.guardN rfl rfl rfl rfl ?_
              refine JR.guardN rfl rfl rfl rfl ?_
              refine JR.guardN rfl rfl rfl rfl ?_
              refine JR.guardN rfl rfl rfl rfl ?_
              refine JR.guardN rfl rfl rfl rfl ?_
              refine JR.qt rfl (SubM.nil) (SubL.nil) (Y.pickF rfl rfl) (HistOk.b rfl (HistOk.b rfl (HistOk.b rfl (HistOk.b rfl (HistOk.b rfl (HistOk.b rfl (HistOk.b rfl (HistOk.b rfl HistOk.z)))))))) ?_
              refine JR.qt rfl (SubM.nil) (SubL.nil) (Y.move rfl) (HistOk.b rfl (HistOk.b rfl (HistOk.b rfl (HistOk.b rfl (HistOk.b rfl (HistOk.b rfl (HistOk.b rfl (HistOk.b rfl HistOk.z)))))))) ?_
              refine JR.guardN rfl rfl rfl rfl ?_
              refine JR.guardN rfl rfl rfl rfl ?_
              refine JR.guardN rfl rfl rfl rfl ?_
              refine JR.tailD 37 rfl rfl ?_
              refine J.guardN rfl rfl rfl ?_
              refine J.guardN rfl rfl rfl ?_
              refine J.quiet (Y.pickF rfl rfl) rfl ?_
              refine J.quiet (Y.assign rfl) rfl ?_
              refine J.done ?_
              refine J.thenN ?_
              exact J.meetI (false) (()) h (by repeat (first | exact SubF.nil | refine SubF.cons rfl ?_)) (SubM.nil) (LentAll.refl _ _)
          · replace h := ifBN hp32 h
            refine JR.guardN rfl rfl rfl rfl ?_
            refine JR.guardN rfl rfl rfl rfl ?_
            refine JR.guardN rfl rfl rfl rfl ?_
            refine JR.guardN rfl rfl rfl rfl ?_
            refine JR.guardN rfl rfl rfl rfl ?_
            refine JR.guardN rfl rfl rfl rfl ?_
            refine JR.guardN rfl rfl rfl rfl ?_
            refine JR.qt rfl (SubM.nil) (SubL.nil) (Y.pickF rfl rfl) (HistOk.b rfl (HistOk.b rfl (HistOk.b rfl (HistOk.b rfl (HistOk.b rfl (HistOk.b rfl HistOk.z)))))) ?_
            refine JR.qt rfl (SubM.nil) (SubL.nil) (Y.move rfl) (HistOk.b rfl (HistOk.b rfl (HistOk.b rfl (HistOk.b rfl (HistOk.b rfl (HistOk.b rfl HistOk.z)))))) ?_
            refine JR.guardN rfl rfl rfl rfl ?_
            refine JR.guardN rfl rfl rfl rfl ?_
            refine JR.guardN rfl rfl rfl rfl ?_
            refine JR.guardN rfl rfl rfl rfl ?_
            refine JR.guardN rfl rfl rfl rfl ?_
            refine JR.qt rfl (SubM.nil) (SubL.nil) (Y.pickF rfl rfl) (HistOk.b rfl (HistOk.b rfl (HistOk.b rfl (HistOk.b rfl (HistOk.b rfl (HistOk.b rfl HistOk.z)))))) ?_
            refine JR.qt rfl (SubM.nil) (SubL.nil) (Y.move rfl) (HistOk.b rfl (HistOk.b rfl (HistOk.b rfl (HistOk.b rfl (HistOk.b rfl (HistOk.b rfl HistOk.z)))))) ?_
            refine JR.guardN rfl rfl rfl rfl ?_
            refine JR.guardN rfl rfl rfl rfl ?_
            refine JR.guardN rfl rfl rfl rfl ?_
            refine JR.tailD 37 rfl rfl ?_
            refine J.guardN rfl rfl rfl ?_
            refine J.guardN rfl rfl rfl ?_
            refine J.quiet (Y.pickF rfl rfl) rfl ?_
            refine J.quiet (Y.assign rfl) rfl ?_
            refine J.done ?_
            refine J.thenN ?_
            exact J.meetI (false) (()) h (by repeat (first | exact SubF.nil | refine SubF.cons rfl ?_)) (SubM.nil) (LentAll.refl _ _)
        · replace h := ifBN hp25 h
          refine JR.guardN rfl rfl rfl rfl ?_
          refine JR.guardN rfl rfl rfl rfl ?_
          refine JR.guardN rfl rfl rfl rfl ?_
          refine JR.guardN rfl rfl rfl rfl ?_
          refine JR.guardN rfl rfl rfl rfl ?_
          refine JR.qt rfl (SubM.nil) (SubL.nil) (Y.pickF rfl rfl) (HistOk.b rfl (HistOk.b rfl (HistOk.b rfl (HistOk.b rfl HistOk.z)))) ?_
          refine JR.qt rfl (SubM.nil) (SubL.nil) (Y.move rfl) (HistOk.b rfl (HistOk.b rfl (HistOk.b rfl (HistOk.b rfl HistOk.z)))) ?_
          refine JR.guardN rfl rfl rfl rfl ?_
          refine JR.guardN rfl rfl rfl rfl ?_
          refine JR.guardN rfl rfl rfl rfl ?_
          refine JR.guardN rfl rfl rfl rfl ?_
          refine JR.guardN rfl rfl rfl rfl ?_
          refine JR.guardN rfl rfl rfl rfl ?_
          refine JR.guardN rfl rfl rfl rfl ?_
          refine JR.qt rfl (SubM.nil) (SubL.nil) (Y.pickF rfl rfl) (HistOk.b rfl (HistOk.b rfl (HistOk.b rfl (HistOk.b rfl HistOk.z)))) ?_
          refine JR.qt rfl (SubM.nil) (SubL.nil) (Y.move rfl) (HistOk.b rfl (HistOk.b rfl (HistOk.b rfl (HistOk.b rfl HistOk.z)))) ?_
          refine JR.guardN rfl rfl rfl rfl ?_
          refine JR.guardN rfl rfl rfl rfl ?_
          refine JR.guardN rfl rfl rfl rfl ?_
          refine JR.guardN rfl rfl rfl rfl ?_
          refine JR.guardN rfl rfl rfl rfl ?_
          refine JR.qt rfl (SubM.nil) (SubL.nil) (Y.pickF rfl rfl) (HistOk.b rfl (HistOk.b rfl (HistOk.b rfl (HistOk.b rfl HistOk.z)))) ?_
          refine JR.qt rfl (SubM.nil) (SubL.nil) (Y.move rfl) (HistOk.b rfl (HistOk.b rfl (HistOk.b rfl (HistOk.b rfl HistOk.z)))) ?_
          refine JR.guardN rfl rfl rfl rfl ?_
          refine JR.guardN rfl rfl rfl rfl ?_
          refine JR.guardN rfl rfl rfl rfl ?_
          refine JR.tailD 37 rfl rfl ?_
          refine J.guardN rfl rfl rfl ?_
          refine J.guardN rfl rfl rfl ?_
          refine J.quiet (Y.pickF rfl rfl) rfl ?_
          refine J.quiet (Y.assign rfl) rfl ?_
          refine J.done ?_
          refine J.thenN ?_
          exact J.meetI (false) (()) h (by repeat (first | exact SubF.nil | refine SubF.cons rfl ?_)) (SubM.nil) (LentAll.refl _ _)
      · replace h := ifBN hp15 h
        refine JR.guardN rfl rfl rfl rfl ?_
        refine JR.guardN rfl rfl rfl rfl ?_
        refine JR.guardN rfl rfl rfl rfl ?_
        refine JR.guardN rfl rfl rfl rfl ?_
        refine JR.guardN rfl rfl rfl rfl ?_
        refine JR.guardN rfl rfl rfl rfl ?_
        refine JR.guardN rfl rfl rfl rfl ?_
        refine JR.qt rfl (SubM.nil) (SubL.nil) (Y.pickF rfl rfl) (HistOk.b rfl HistOk.z) ?_
        refine JR.qt rfl (SubM.nil) (SubL.nil) (Y.move rfl) (HistOk.b rfl HistOk.z) ?_
        refine JR.guardN rfl rfl rfl rfl ?_
        refine JR.guardN rfl rfl rfl rfl ?_
        refine JR.guardN rfl rfl rfl rfl ?_
        refine JR.guardN rfl rfl rfl rfl ?_
        refine JR.guardN rfl rfl rfl rfl ?_
        refine JR.qt rfl (SubM.nil) (SubL.nil) (Y.pickF rfl rfl) (HistOk.b rfl HistOk.z) ?_
        refine JR.qt rfl (SubM.nil) (SubL.nil) (Y.move rfl) (HistOk.b rfl HistOk.z) ?_
        refine JR.guardN rfl rfl rfl rfl ?_
        refine JR.guardN rfl rfl rfl rfl ?_
        refine JR.guardN rfl rfl rfl rfl ?_
        refine JR.guardN rfl rfl rfl rfl ?_
        refine JR.guardN rfl rfl rfl rfl ?_
        refine JR.guardN rfl rfl rfl rfl ?_
        refine JR.guardN rfl rfl rfl rfl ?_
        refine JR.qt rfl (SubM.nil) (SubL.nil) (Y.pickF rfl rfl) (HistOk.b rfl HistOk.z) ?_
        refine JR.qt rfl (SubM.nil) (SubL.nil) (Y.move rfl) (HistOk.b rfl HistOk.z) ?_
        refine JR.guardN rfl rfl rfl rfl ?_
        refine JR.guardN rfl rfl rfl rfl ?_
        refine JR.guardN rfl rfl rfl rfl ?_
        refine JR.guardN rfl rfl rfl rfl ?_
        refine JR.guardN rfl rfl rfl rfl ?_
        refine JR.qt rfl (SubM.nil) (SubL.nil) (Y.pickF rfl rfl) (HistOk.b rfl HistOk.z) ?_
        refine JR.qt rfl (SubM.nil) (SubL.nil) (Y.move rfl) (HistOk.b rfl HistOk.z) ?_
        refine JR.guardN rfl rfl rfl rfl ?_
        refine JR.guardN rfl rfl rfl rfl ?_
        refine JR.guardN rfl rfl rfl rfl ?_
        refine JR.tailD 37 rfl rfl ?_
        refine J.guardN rfl rfl rfl ?_
        refine J.guardN rfl rfl rfl ?_
        refine J.quiet (Y.pickF rfl rfl) rfl ?_
        refine J.quiet (Y.assign rfl) rfl ?_
        refine J.done ?_
        refine J.thenN ?_
        exact J.meetI (false) (()) h (by repeat (first | exact SubF.nil | refine SubF.cons rfl ?_)) (SubM.nil) (LentAll.refl _ _)
    · clear h
      intro a10 b11 h
      unfold law01_GraphMeasures_k1 at h
      refine J.ret ?_
      obtain rfl := Option.some.inj h
      exact J.retG1 (()) rfl rfl (RV.tmp rfl) (SubM.refl _) LentAll.nil

end Go.Proofs.Ytemhmmcakmidkaa
end
