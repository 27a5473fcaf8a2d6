/- Models and proofs of several functions in one text, by program (gen/xt.py). Conditions: none. -/
import Derived.Test.YtemhmmcakmidkaaXp
import Derived.Test.YtemhmmcakmidkaaX51
import Derived.Test.YtemhmmcakmidkaaX72
import Derived.Test.YtemhmmcakmidkaaX33
import Derived.Test.YtemhmmcakmidkaaX35
import Derived.Test.YtemhmmcakmidkaaX36
import Derived.Test.YtemhmmcakmidkaaX37
import Derived.Test.YtemhmmcakmidkaaX38
import Derived.Test.YtemhmmcakmidkaaX41
import Derived.Test.YtemhmmcakmidkaaX46
import Derived.Test.YtemhmmcakmidkaaX64
import Derived.Test.YtemhmmcakmidkaaX92
import Derived.Test.YtemhmmcakmidkaaX39
import Derived.Test.YtemhmmcakmidkaaX40
import Derived.Test.YtemhmmcakmidkaaX42
import Derived.Test.YtemhmmcakmidkaaX32
section
namespace Go.Proofs.Ytemhmmcakmidkaa
open Go.Sx
set_option linter.unusedVariables false
set_option linter.unusedSimpArgs false

def ref01_SameInts_k1  (a2 : Unit) : Option (Bool) :=
  some (true)
def ref01_SameInts_s1 (p0 : List (Int)) (p1 : List (Int)) (a6 : Int) (ag5 : (Int) → Option (Bool)) : Option (Bool) :=
  if a6 < (List.length p0 : Int) then (ck (0 ≤ a6 ∧ a6 < (List.length p0 : Int)) (ck (0 ≤ a6 ∧ a6 < (List.length p1 : Int)) (if (at' p0 a6) ≠ (at' p1 a6) then (some (false)) else (ag5 (wI .i64 (a6 + (1 : Int))))))) else (ref01_SameInts_k1  (()))
def m_ref01_SameInts (fuel : Nat) (p0 : List (Int)) (p1 : List (Int)) : Option (Bool) :=
  if (List.length p0 : Int) ≠ (List.length p1 : Int) then (some (false)) else (iter (ref01_SameInts_s1 p0 p1) fuel (0 : Int))

theorem body53 : HasBody Try.prog 53 := Try.call53

set_option maxHeartbeats 4000000 in
set_option maxRecDepth 20000 in
theorem t_ref01_SameInts (fuel : Nat) {p0 : List (Int)} {p1 : List (Int)} (v0 : Value)  (v1 : Value) (r : Bool) (h : m_ref01_SameInts fuel p0 p1 = some r) :
    Meets Try.prog 53 #[v0, v1] [Sl RI64 v0 p0, Sl RI64 v1 p1] (fun x : Unit => Value.bool (r)) (fun x l => l) (fun _ l => l) := by
  refine Meets.of (vs := [v0, v1]) Try.func53 rfl Try.ntmps53 rfl fun c => ?_
  unfold m_ref01_SameInts at h
  refine J.seq ?_
  refine J.region ?_
  refine J.quiet (Y.assign rfl) rfl ?_
  refine J.done ?_
  refine J.thenN ?_
  refine J.seq ?_
  refine J.seq ?_
  refine J.region ?_
  refine J.quiet (Y.move rfl) rfl ?_
  refine J.quiet (Y.lenS rfl (Lent.fact 0 rfl) rfl) rfl ?_
  refine J.quiet (Y.move rfl) rfl ?_
  refine J.quiet (Y.lenS rfl (Lent.fact 1 rfl) rfl) rfl ?_
  refine J.quiet (Y.neq rfl rfl) rfl ?_
  refine J.done ?_
  refine J.thenN ?_
  refine J.condD (by exact rfl) (fun hp1 => ?_) (fun hp1 => ?_)
  · replace h := ifP hp1 h
    refine J.seq ?_
    refine J.region ?_
    refine J.quiet (Y.assign rfl) rfl ?_
    refine J.done ?_
    refine J.thenN ?_
    refine J.ret ?_
    refine J.thenR ?_
    obtain rfl := Option.some.inj h
    exact J.retG1 (()) rfl rfl (RV.tmp rfl) (SubM.refl _) LentAll.nil
  · replace h := ifN hp1 h
    refine J.skip ?_
    refine J.thenN ?_
    refine J.seq ?_
    refine J.midI (A := Unit) (B := Unit) (fun a2 => ref01_SameInts_k1  a2 = some r) (fun a2 b3 => []) (fun a2 b3 => []) (fun a2 b3 => [Sl RI64 v0 p0, Sl RI64 v1 p1]) ?_ ?_
    · refine J.seq ?_
      refine J.region ?_
      refine J.quiet (Y.assign rfl) rfl ?_
      refine J.done ?_
      refine J.thenN ?_
      refine J.block ?_
      refine J.loopI (A := Int) (B := Unit) (ref01_SameInts_s1 p0 p1) (fun a6 b7 => [(0, v0), (1, v1), (5, Value.int .i64 (a6))]) (fun a6 b7 => []) (fun a6 b7 => [Sl RI64 v0 p0, Sl RI64 v1 p1]) (0 : Int) (()) h (by repeat (first | exact SubF.nil | refine SubF.cons rfl ?_)) (SubM.refl _) (LentAll.refl _ _) ?_
      clear h
      intro k8 a6 b7 h
      unfold ref01_SameInts_s1 at h
      refine J.seq ?_
      refine J.seq ?_
      refine J.region ?_
      refine J.quiet (Y.move rfl) rfl ?_
      refine J.quiet (Y.move rfl) rfl ?_
      refine J.quiet (Y.lenS rfl (Lent.fact 0 rfl) rfl) rfl ?_
      refine J.quiet (Y.lss rfl rfl) rfl ?_
      refine J.done ?_
      refine J.thenN ?_
      refine J.condD (by exact rfl) (fun hp9 => ?_) (fun hp9 => ?_)
      · replace h := ifP hp9 h
        refine J.skip ?_
        refine J.thenN ?_
        refine J.seq ?_
        refine J.block ?_
        refine J.seq ?_
        refine JR.start [0, 0, 3, 7, 0, 0, 48, 112, 255] 8 mixedOrders (by decide +kernel) ?_
        refine JR.open (by exact rfl) ?_
        refine JR.qt rfl (SubM.refl _) (SubL.nil) (Y.move rfl) HistOk.z ?_
        refine JR.qt rfl (SubM.refl _) (SubL.nil) (Y.move rfl) HistOk.z ?_
        replace h := ck_some h; obtain ⟨hc10, h⟩ := h
        refine JR.qt rfl (SubM.refl _) (SubL.cons (List.mem_of_getElem? (i := 0) rfl) (SubL.nil)) (Y.indexS rfl rfl (Lent.fact 0 rfl) rfl rfl hc10) HistOk.z ?_
        refine JR.qt rfl (SubM.refl _) (SubL.cons (List.mem_of_getElem? (i := 0) rfl) (SubL.nil)) (Y.loadS0 rfl (Lent.fact 0 rfl) rfl rfl rfl RI64c0 hc10) HistOk.z ?_
        refine JR.qt rfl (SubM.refl _) (SubL.nil) (Y.move rfl) HistOk.z ?_
        refine JR.qt rfl (SubM.refl _) (SubL.nil) (Y.move rfl) HistOk.z ?_
        replace h := ck_some h; obtain ⟨hc11, h⟩ := h
        refine JR.qt rfl (SubM.refl _) (SubL.cons (List.mem_of_getElem? (i := 1) rfl) (SubL.nil)) (Y.indexS rfl rfl (Lent.fact 0 rfl) rfl rfl hc11) HistOk.z ?_
        refine JR.qt rfl (SubM.refl _) (SubL.cons (List.mem_of_getElem? (i := 1) rfl) (SubL.nil)) (Y.loadS0 rfl (Lent.fact 0 rfl) rfl rfl rfl RI64c0 hc11) HistOk.z ?_
        refine JR.tailD 8 rfl rfl ?_
        refine J.quiet (Y.neq rfl rfl) rfl ?_
        refine J.done ?_
        refine J.thenN ?_
        refine J.condD (by exact rfl) (fun hp12 => ?_) (fun hp12 => ?_)
        · replace h := ifP hp12 h
          refine J.seq ?_
          refine J.region ?_
          refine J.quiet (Y.assign rfl) rfl ?_
          refine J.done ?_
          refine J.thenN ?_
          refine J.ret ?_
          refine J.inR ?_
          refine J.thenR ?_
          refine J.thenR ?_
          refine J.inR ?_
          refine J.thenR ?_
          obtain rfl := Option.some.inj h
          exact J.retG1 (()) rfl rfl (RV.tmp rfl) (SubM.refl _) LentAll.nil
        · replace h := ifN hp12 h
          refine J.skip ?_
          refine J.inN ?_
          refine J.thenN ?_
          refine J.region ?_
          refine J.quiet (Y.move rfl) rfl ?_
          refine J.quiet (Y.addW rfl rfl) rfl ?_
          refine J.quiet (Y.assign rfl) rfl ?_
          refine J.done ?_
          refine J.thenN ?_
          exact J.againI (wI .i64 (a6 + (1 : Int))) (()) h (by repeat (first | exact SubF.nil | refine SubF.cons rfl ?_)) (SubM.refl _) (LentAll.refl _ _)
      · replace h := ifN hp9 h
        refine J.exit ?_
        refine J.thenX ?_
        refine J.thenX ?_
        refine J.inX ?_
        refine J.thenN ?_
        exact J.meetI (()) (()) h (by repeat (first | exact SubF.nil | refine SubF.cons rfl ?_)) (SubM.refl _) (LentAll.refl _ _)
    · clear h
      intro a2 b3 h
      unfold ref01_SameInts_k1 at h
      refine J.seq ?_
      refine J.region ?_
      refine J.quiet (Y.assign rfl) rfl ?_
      refine J.done ?_
      refine J.thenN ?_
      refine J.ret ?_
      obtain rfl := Option.some.inj h
      exact J.retG1 (()) rfl rfl (RV.tmp rfl) (SubM.refl _) LentAll.nil

end Go.Proofs.Ytemhmmcakmidkaa
end
section
namespace Go.Proofs.Ytemhmmcakmidkaa
open Go.Sx
set_option linter.unusedVariables false
set_option linter.unusedSimpArgs false

def ref01_Distances_k3  (a12 : List (Int)) : Option (List (Int)) :=
  some (a12)
def ref01_Distances_k4 (a17 : Int × List (Int)) (ag16 : (Int × List (Int)) → Option (List (Int))) (a22 : List (Int)) : Option (List (Int)) :=
  ag16 ((wI .i64 (a17.1 + (1 : Int))), a22)
def ref01_Distances_k5 (a27 : Int × List (Int)) (ag26 : (Int × List (Int)) → Option (List (Int))) (a32 : List (Int)) : Option (List (Int)) :=
  ag26 ((wI .i64 (a27.1 + (1 : Int))), a32)
def ref01_Distances_k7 (a37 : Int × List (Int)) (ag36 : (Int × List (Int)) → Option (List (Int))) (a45 : List (Int)) : Option (List (Int)) :=
  ag36 ((wI .i64 (a37.1 + (1 : Int))), a45)
def ref01_Distances_k6 (p0 : List (Int) × (List (List (Int × Int)))) (a17 : Int × List (Int)) (a27 : Int × List (Int)) (ag26 : (Int × List (Int)) → Option (List (Int))) (a37 : Int × List (Int)) (ag36 : (Int × List (Int)) → Option (List (Int))) (a41 : Bool) : Option (List (Int)) :=
  if a41 = true then (ck (0 ≤ a27.1 ∧ a27.1 < (List.length p0.2 : Int)) (ck (0 ≤ a37.1 ∧ a37.1 < (List.length (at' p0.2 a27.1) : Int)) (ck (0 ≤ ((at' (at' p0.2 a27.1) a37.1).1) ∧ ((at' (at' p0.2 a27.1) a37.1).1) < (List.length a37.2 : Int)) (if (at' a37.2 ((at' (at' p0.2 a27.1) a37.1).1)) = (wI .i64 (a17.1 - (1 : Int))) then (ck (0 ≤ a27.1 ∧ a27.1 < (List.length a37.2 : Int)) (ref01_Distances_k7 a37 ag36 (List.set a37.2 (Int.toNat a27.1) a17.1))) else (ref01_Distances_k7 a37 ag36 (a37.2)))))) else (ref01_Distances_k5 a27 ag26 (a37.2))
def ref01_Distances_s3 (p0 : List (Int) × (List (List (Int × Int)))) (a17 : Int × List (Int)) (a27 : Int × List (Int)) (ag26 : (Int × List (Int)) → Option (List (Int))) (a37 : Int × List (Int)) (ag36 : (Int × List (Int)) → Option (List (Int))) : Option (List (Int)) :=
  ck (0 ≤ a27.1 ∧ a27.1 < (List.length p0.2 : Int)) (if a37.1 < (List.length (at' p0.2 a27.1) : Int) then (ck (0 ≤ a27.1 ∧ a27.1 < (List.length a37.2 : Int)) (ref01_Distances_k6 p0 a17 a27 ag26 a37 ag36 (decide ((at' a37.2 a27.1) < (0 : Int))))) else (ref01_Distances_k6 p0 a17 a27 ag26 a37 ag36 (false)))
def ref01_Distances_s2 (fuel : Nat) (p0 : List (Int) × (List (List (Int × Int)))) (a17 : Int × List (Int)) (ag16 : (Int × List (Int)) → Option (List (Int))) (a27 : Int × List (Int)) (ag26 : (Int × List (Int)) → Option (List (Int))) : Option (List (Int)) :=
  if a27.1 < (List.length p0.2 : Int) then (iter (ref01_Distances_s3 p0 a17 a27 ag26) fuel ((0 : Int), a27.2)) else (ref01_Distances_k4 a17 ag16 (a27.2))
def ref01_Distances_s1 (fuel : Nat) (p0 : List (Int) × (List (List (Int × Int)))) (a17 : Int × List (Int)) (ag16 : (Int × List (Int)) → Option (List (Int))) : Option (List (Int)) :=
  if a17.1 < (List.length p0.2 : Int) then (iter (ref01_Distances_s2 fuel p0 a17 ag16) fuel ((0 : Int), a17.2)) else (ref01_Distances_k3  (a17.2))
def ref01_Distances_k2 (fuel : Nat) (p0 : List (Int) × (List (List (Int × Int)))) (p1 : Int) (a8 : List (Int)) : Option (List (Int)) :=
  ck (0 ≤ p1 ∧ p1 < (List.length a8 : Int)) (iter (ref01_Distances_s1 fuel p0) fuel ((1 : Int), (List.set a8 (Int.toNat p1) (0 : Int))))
def ref01_Distances_s4 (fuel : Nat) (p0 : List (Int) × (List (List (Int × Int)))) (p1 : Int) (a59 : List (Int) × Int) (ag58 : (List (Int) × Int) → Option (List (Int))) : Option (List (Int)) :=
  if a59.2 < (List.length p0.2 : Int) then (ck ((List.length a59.1 : Int) + (List.length ([ (-1 : Int)]) : Int) ≤ 1099511627) (ag58 ((a59.1 ++ ([ (-1 : Int)])), (wI .i64 (a59.2 + (1 : Int)))))) else (ref01_Distances_k2 fuel p0 p1 (a59.1))
def ref01_Distances_k1 (fuel : Nat) (p0 : List (Int) × (List (List (Int × Int)))) (p1 : Int) (a3 : Bool) : Option (List (Int)) :=
  if a3 = true then (some ([] : List Int)) else (iter (ref01_Distances_s4 fuel p0 p1) fuel (([] : List Int), (0 : Int)))
def m_ref01_Distances (fuel : Nat) (p0 : List (Int) × (List (List (Int × Int)))) (p1 : Int) : Option (List (Int)) :=
  Option.bind (m_ref01_Valid fuel ((p0.1, p0.2))) fun r66 => (if (!r66) = true then (ref01_Distances_k1 fuel p0 p1 (true)) else (Option.bind (m_ref01_In fuel p1 (0 : Int) (wI .i64 ((List.length p0.2 : Int) - (1 : Int)))) fun r70 => (ref01_Distances_k1 fuel p0 p1 ((!r70)))))

theorem body54 : HasBody Try.prog 54 := Try.call54

set_option maxHeartbeats 4000000 in
set_option maxRecDepth 20000 in
theorem t_ref01_Distances (fuel : Nat) {p0 : List (Int) × (List (List (Int × Int)))} {p1 : Int} (v0 : Value)  (v1 : Value)  (z2 : List (Value × List (Int × Int))) (r : List (Int)) (h : m_ref01_Distances fuel p0 p1 = some r) :
    Meets Try.prog 54 #[Value.agg #[v0, v1], Value.int .i64 (p1)] [Sl RI64 v0 p0.1, S2 RI64I64p v1 z2 p0.2] (fun x : Value => x) (fun x l => Ar EI64 x r :: l) (fun _ l => l) := by
  refine Meets.of (vs := [Value.agg #[v0, v1], Value.int .i64 (p1)]) Try.func54 rfl Try.ntmps54 rfl fun c => ?_
  unfold m_ref01_Distances at h
  refine J.seq ?_
  refine J.region ?_
  refine J.loud (Loud.box (cs := [v0, v1]) rfl rfl) rfl fun b1 => ?_
  refine J.quiet (Y.assign rfl) rfl ?_
  refine J.done ?_
  refine J.thenN ?_
  refine J.seq ?_
  refine J.seq ?_
  refine J.midI (A := Bool) (B := Unit) (fun a3 => ref01_Distances_k1 fuel p0 p1 a3 = some r) (fun a3 b4 => [(1, Value.int .i64 (p1)), (2, Value.pointer (some ⟨b1, 0, none⟩)), (22, Value.bool (a3))]) (fun a3 b4 => [Blk b1 [v0, v1] 26]) (fun a3 b4 => [Sl RI64 v0 p0.1, S2 RI64I64p v1 z2 p0.2]) ?_ ?_
  · refine J.region ?_
    refine J.quiet (Y.loadBAll 0 rfl rfl rfl rfl) rfl ?_
    replace h := bnd h; obtain ⟨r66, hr67, h⟩ := h
    refine J.loud (Loud.callL body51 (t_ref01_Valid fuel v0 v1 z2 r66 hr67) rfl (LentAll.cons (Lent.fact 0 rfl) (LentAll.cons (Lent.fact 1 rfl) (LentAll.nil))) (fun _ _ => rfl)) rfl fun x68 => ?_
    refine J.quiet (Y.not rfl) rfl ?_
    refine J.quiet (Y.move rfl) rfl ?_
    refine J.guard (by exact rfl) (by exact rfl) (fun hp69 => ?_) (fun hp69 => ?_)
    · replace h := ifP hp69 h
      refine J.guardN rfl rfl rfl ?_
      refine J.guardN rfl rfl rfl ?_
      refine J.guardN rfl rfl rfl ?_
      refine J.guardN rfl rfl rfl ?_
      refine J.guardN rfl rfl rfl ?_
      refine J.guardN rfl rfl rfl ?_
      refine J.guardN rfl rfl rfl ?_
      refine J.quiet (Y.pickT rfl rfl) rfl ?_
      refine J.done ?_
      refine J.thenN ?_
      exact J.meetI (true) (()) h (by repeat (first | exact SubF.nil | refine SubF.cons rfl ?_)) (SubM.refl _) (LentAll.refl _ _)
    · replace h := ifBN hp69 h
      refine J.guardY rfl (Y.move rfl) rfl ?_
      refine J.guardY rfl (Y.fieldB rfl rfl rfl rfl rfl) rfl ?_
      refine J.guardY rfl (Y.loadB 0 rfl rfl rfl rfl rfl) rfl ?_
      refine J.guardY rfl (Y.lenN rfl (Lent.fact 1 rfl) rfl) rfl ?_
      refine J.guardY rfl (Y.subW rfl rfl) rfl ?_
      replace h := bnd h; obtain ⟨r70, hr71, h⟩ := h
      refine J.loudG rfl (Loud.callL body72 (t_ref01_In fuel  r70 hr71) rfl (LentAll.nil) (fun _ _ => rfl)) rfl fun x72 => ?_
      refine J.guardY rfl (Y.not rfl) rfl ?_
      refine J.quiet (Y.pickF rfl rfl) rfl ?_
      refine J.done ?_
      refine J.thenN ?_
      exact J.meetI ((!r70)) (()) h (by repeat (first | exact SubF.nil | refine SubF.cons rfl ?_)) (SubM.refl _) (LentAll.refl _ _)
  · clear h
    intro a3 b4 h
    unfold ref01_Distances_k1 at h
    refine J.cond (by exact rfl) (fun hp5 => ?_) (fun hp5 => ?_)
    · replace h := ifP hp5 h
      refine J.seq ?_
      refine J.region ?_
      refine J.quiet (Y.assign rfl) rfl ?_
      refine J.done ?_
      refine J.thenN ?_
      refine J.ret ?_
      refine J.thenR ?_
      refine J.stp (Stp.nilAr EI64) ?_
      obtain rfl := Option.some.inj h
      exact J.retG1 (Value.slice none 0 0) rfl rfl (RV.tmp rfl) (SubM.cons 0 rfl (SubM.nil)) LentAll.nil
    · replace h := ifBN hp5 h
      refine J.skip ?_
      refine J.thenN ?_
      refine J.seq ?_
      refine J.region ?_
      refine J.quiet (Y.fieldB rfl rfl rfl rfl rfl) rfl ?_
      refine J.quiet (Y.loadB 0 rfl rfl rfl rfl rfl) rfl ?_
      refine J.quiet (Y.lenN rfl (Lent.fact 1 rfl) rfl) rfl ?_
      refine J.quiet (Y.assign rfl) rfl ?_
      refine J.done ?_
      refine J.thenN ?_
      refine J.seq ?_
      refine J.region ?_
      refine J.quiet (Y.assign rfl) rfl ?_
      refine J.done ?_
      refine J.thenN ?_
      refine J.seq ?_
      refine J.midI (A := List (Int)) (B := Value) (fun a8 => ref01_Distances_k2 fuel p0 p1 a8 = some r) (fun a8 b9 => [(1, Value.int .i64 (p1)), (2, Value.pointer (some ⟨b1, 0, none⟩)), (5, Value.int .i64 (List.length p0.2 : Int)), (6, b9)]) (fun a8 b9 => [Blk b1 [v0, v1] 26, Ar EI64 b9 a8]) (fun a8 b9 => [Sl RI64 v0 p0.1, S2 RI64I64p v1 z2 p0.2]) ?_ ?_
      · refine J.seq ?_
        refine J.region ?_
        refine J.quiet (Y.assign rfl) rfl ?_
        refine J.done ?_
        refine J.thenN ?_
        refine J.block ?_
        refine J.stp (Stp.nilAr EI64) ?_
        refine J.loopI (A := List (Int) × Int) (B := Value) (ref01_Distances_s4 fuel p0 p1) (fun a59 b60 => [(1, Value.int .i64 (p1)), (2, Value.pointer (some ⟨b1, 0, none⟩)), (5, Value.int .i64 (List.length p0.2 : Int)), (6, b60), (7, Value.int .i64 (a59.2))]) (fun a59 b60 => [Blk b1 [v0, v1] 26, Ar EI64 b60 a59.1]) (fun a59 b60 => [Sl RI64 v0 p0.1, S2 RI64I64p v1 z2 p0.2]) (([] : List Int), (0 : Int)) (Value.slice none 0 0) h (by repeat (first | exact SubF.nil | refine SubF.cons rfl ?_)) (SubM.cons 1 rfl (SubM.cons 0 rfl (SubM.nil))) (LentAll.refl _ _) ?_
        clear h
        intro k61 a59 b60 h
        unfold ref01_Distances_s4 at h
        refine J.seq ?_
        refine J.seq ?_
        refine J.region ?_
        refine J.quiet (Y.move rfl) rfl ?_
        refine J.quiet (Y.move rfl) rfl ?_
        refine J.quiet (Y.lss rfl rfl) rfl ?_
        refine J.done ?_
        refine J.thenN ?_
        refine J.condD (by exact rfl) (fun hp62 => ?_) (fun hp62 => ?_)
        · replace h := ifP hp62 h
          refine J.skip ?_
          refine J.thenN ?_
          refine J.seq ?_
          refine J.block ?_
          refine J.region ?_
          refine J.quiet (Y.move rfl) rfl ?_
          refine J.loud (Loud.buildS (e := EI64) [(-1 : Int)] [(0, Value.int .i64 (-1 : Int))] rfl rfl rfl rfl (fill_1_1 (Value.int .i64 (-1 : Int)) rfl) rfl rfl rfl) rfl fun u63 => ?_
          replace h := ck_some h; obtain ⟨hc65, h⟩ := h
          refine J.loud (Loud.appendL 2 FI64 rfl rfl rfl (Lent.ar (Lent.res 0 rfl) FI64) rfl rfl rfl rfl hc65 rfl) rfl fun u64 => ?_
          refine J.quiet (Y.assign rfl) rfl ?_
          refine J.done ?_
          refine J.inN ?_
          refine J.thenN ?_
          refine J.region ?_
          refine J.quiet (Y.move rfl) rfl ?_
          refine J.quiet (Y.addW rfl rfl) rfl ?_
          refine J.quiet (Y.assign rfl) rfl ?_
          refine J.done ?_
          refine J.thenN ?_
          exact J.againI ((a59.1 ++ ([ (-1 : Int)])), (wI .i64 (a59.2 + (1 : Int)))) (u64) h (by repeat (first | exact SubF.nil | refine SubF.cons rfl ?_)) (SubM.cons 1 rfl (SubM.cons 1 rfl (SubM.nil))) (LentAll.refl _ _)
        · replace h := ifN hp62 h
          refine J.exit ?_
          refine J.thenX ?_
          refine J.thenX ?_
          refine J.inX ?_
          refine J.thenN ?_
          exact J.meetI (a59.1) (b60) h (by repeat (first | exact SubF.nil | refine SubF.cons rfl ?_)) (SubM.refl _) (LentAll.refl _ _)
      · clear h
        intro a8 b9 h
        unfold ref01_Distances_k2 at h
        refine J.seq ?_
        refine J.region ?_
        refine J.quiet (Y.move rfl) rfl ?_
        refine J.quiet (Y.move rfl) rfl ?_
        replace h := ck_some h; obtain ⟨hc10, h⟩ := h
        refine J.quiet (Y.indexS rfl rfl (Lent.ar (Lent.res 1 rfl) FI64) rfl rfl hc10) rfl ?_
        refine J.storeS 1 (0 : Int) hc10 rfl rfl rfl rfl rfl rfl rfl ?_
        refine J.done ?_
        refine J.thenN ?_
        refine J.seq ?_
        refine J.midI (A := List (Int)) (B := Unit) (fun a12 => ref01_Distances_k3  a12 = some r) (fun a12 b13 => [(6, b9)]) (fun a12 b13 => [Ar EI64 b9 a12]) (fun a12 b13 => [Sl RI64 v0 p0.1, S2 RI64I64p v1 z2 p0.2]) ?_ ?_
        · refine J.seq ?_
          refine J.region ?_
          refine J.quiet (Y.assign rfl) rfl ?_
          refine J.done ?_
          refine J.thenN ?_
          refine J.block ?_
          refine J.loopI (A := Int × List (Int)) (B := Unit) (ref01_Distances_s1 fuel p0) (fun a17 b18 => [(2, Value.pointer (some ⟨b1, 0, none⟩)), (5, Value.int .i64 (List.length p0.2 : Int)), (6, b9), (8, Value.int .i64 (a17.1))]) (fun a17 b18 => [Blk b1 [v0, v1] 26, Ar EI64 b9 a17.2]) (fun a17 b18 => [Sl RI64 v0 p0.1, S2 RI64I64p v1 z2 p0.2]) ((1 : Int), (List.set a8 (Int.toNat p1) (0 : Int))) (()) h (by repeat (first | exact SubF.nil | refine SubF.cons rfl ?_)) (SubM.refl _) (LentAll.refl _ _) ?_
          clear h
          intro k19 a17 b18 h
          unfold ref01_Distances_s1 at h
          refine J.seq ?_
          refine J.seq ?_
          refine J.region ?_
          refine J.quiet (Y.move rfl) rfl ?_
          refine J.quiet (Y.move rfl) rfl ?_
          refine J.quiet (Y.lss rfl rfl) rfl ?_
          refine J.done ?_
          refine J.thenN ?_
          refine J.condD (by exact rfl) (fun hp20 => ?_) (fun hp20 => ?_)
          · replace h := ifP hp20 h
            refine J.skip ?_
            refine J.thenN ?_
            refine J.seq ?_
            refine J.midI (A := List (Int)) (B := Unit) (fun a22 => ref01_Distances_k4 a17 (iter (ref01_Distances_s1 fuel p0) k19) a22 = some r) (fun a22 b23 => [(2, Value.pointer (some ⟨b1, 0, none⟩)), (5, Value.int .i64 (List.length p0.2 : Int)), (6, b9), (8, Value.int .i64 (a17.1))]) (fun a22 b23 => [Blk b1 [v0, v1] 26, Ar EI64 b9 a22]) (fun a22 b23 => [Sl RI64 v0 p0.1, S2 RI64I64p v1 z2 p0.2]) ?_ ?_
            · refine J.block ?_
              refine J.seq ?_
              refine J.region ?_
              refine J.quiet (Y.assign rfl) rfl ?_
              refine J.done ?_
              refine J.thenN ?_
              refine J.block ?_
              refine J.loopI (A := Int × List (Int)) (B := Unit) (ref01_Distances_s2 fuel p0 a17 (iter (ref01_Distances_s1 fuel p0) k19)) (fun a27 b28 => [(2, Value.pointer (some ⟨b1, 0, none⟩)), (5, Value.int .i64 (List.length p0.2 : Int)), (6, b9), (8, Value.int .i64 (a17.1)), (9, Value.int .i64 (a27.1))]) (fun a27 b28 => [Blk b1 [v0, v1] 26, Ar EI64 b9 a27.2]) (fun a27 b28 => [Sl RI64 v0 p0.1, S2 RI64I64p v1 z2 p0.2]) ((0 : Int), a17.2) (()) h (by repeat (first | exact SubF.nil | refine SubF.cons rfl ?_)) (SubM.refl _) (LentAll.refl _ _) ?_
              clear h
              intro k29 a27 b28 h
              unfold ref01_Distances_s2 at h
              refine J.seq ?_
              refine J.seq ?_
              refine J.region ?_
              refine J.quiet (Y.move rfl) rfl ?_
              refine J.quiet (Y.move rfl) rfl ?_
              refine J.quiet (Y.lss rfl rfl) rfl ?_
              refine J.done ?_
              refine J.thenN ?_
              refine J.condD (by exact rfl) (fun hp30 => ?_) (fun hp30 => ?_)
              · replace h := ifP hp30 h
                refine J.skip ?_
                refine J.thenN ?_
                refine J.seq ?_
                refine J.midI (A := List (Int)) (B := Unit) (fun a32 => ref01_Distances_k5 a27 (iter (ref01_Distances_s2 fuel p0 a17 (iter (ref01_Distances_s1 fuel p0) k19)) k29) a32 = some r) (fun a32 b33 => [(2, Value.pointer (some ⟨b1, 0, none⟩)), (5, Value.int .i64 (List.length p0.2 : Int)), (6, b9), (8, Value.int .i64 (a17.1)), (9, Value.int .i64 (a27.1))]) (fun a32 b33 => [Blk b1 [v0, v1] 26, Ar EI64 b9 a32]) (fun a32 b33 => [Sl RI64 v0 p0.1, S2 RI64I64p v1 z2 p0.2]) ?_ ?_
                · refine J.block ?_
                  refine J.seq ?_
                  refine J.region ?_
                  refine J.quiet (Y.assign rfl) rfl ?_
                  refine J.done ?_
                  refine J.thenN ?_
                  refine J.block ?_
                  refine J.loopI (A := Int × List (Int)) (B := Unit) (ref01_Distances_s3 p0 a17 a27 (iter (ref01_Distances_s2 fuel p0 a17 (iter (ref01_Distances_s1 fuel p0) k19)) k29)) (fun a37 b38 => [(2, Value.pointer (some ⟨b1, 0, none⟩)), (5, Value.int .i64 (List.length p0.2 : Int)), (6, b9), (8, Value.int .i64 (a17.1)), (9, Value.int .i64 (a27.1)), (10, Value.int .i64 (a37.1))]) (fun a37 b38 => [Blk b1 [v0, v1] 26, Ar EI64 b9 a37.2]) (fun a37 b38 => [Sl RI64 v0 p0.1, S2 RI64I64p v1 z2 p0.2]) ((0 : Int), a27.2) (()) h (by repeat (first | exact SubF.nil | refine SubF.cons rfl ?_)) (SubM.refl _) (LentAll.refl _ _) ?_
                  clear h
                  intro k39 a37 b38 h
                  unfold ref01_Distances_s3 at h
                  refine J.seq ?_
                  refine J.seq ?_
                  refine J.midI (A := Bool) (B := Unit) (fun a41 => ref01_Distances_k6 p0 a17 a27 (iter (ref01_Distances_s2 fuel p0 a17 (iter (ref01_Distances_s1 fuel p0) k19)) k29) a37 (iter (ref01_Distances_s3 p0 a17 a27 (iter (ref01_Distances_s2 fuel p0 a17 (iter (ref01_Distances_s1 fuel p0) k19)) k29)) k39) a41 = some r) (fun a41 b42 => [(2, Value.pointer (some ⟨b1, 0, none⟩)), (5, Value.int .i64 (List.length p0.2 : Int)), (6, b9), (8, Value.int .i64 (a17.1)), (9, Value.int .i64 (a27.1)), (10, Value.int .i64 (a37.1)), (61, Value.bool (a41))]) (fun a41 b42 => [Blk b1 [v0, v1] 26, Ar EI64 b9 a37.2]) (fun a41 b42 => [Sl RI64 v0 p0.1, S2 RI64I64p v1 z2 p0.2]) ?_ ?_
                  · refine J.region ?_
                    refine J.quiet (Y.move rfl) rfl ?_
                    refine J.quiet (Y.fieldB rfl rfl rfl rfl rfl) rfl ?_
                    refine J.quiet (Y.loadB 0 rfl rfl rfl rfl rfl) rfl ?_
                    refine J.quiet (Y.move rfl) rfl ?_
                    replace h := ck_some h; obtain ⟨hc52, h⟩ := h
                    refine J.quiet (Y.indexN rfl rfl (Lent.fact 1 rfl) rfl rfl hc52) rfl ?_
                    refine J.quiet (Y.loadRow rfl (Lent.fact 1 rfl) rfl rfl hc52) rfl ?_
                    refine J.quiet (Y.lenS rfl (Lent.el (Lent.fact 1 rfl) hc52.1 hc52.2) rfl) rfl ?_
                    refine J.quiet (Y.lss rfl rfl) rfl ?_
                    refine J.quiet (Y.move rfl) rfl ?_
                    refine J.guardD (by exact rfl) (by exact rfl) (fun hp53 => ?_) (fun hp53 => ?_)
                    · replace h := ifP hp53 h
                      refine J.guardY rfl (Y.move rfl) rfl ?_
                      refine J.guardY rfl (Y.move rfl) rfl ?_
                      replace h := ck_some h; obtain ⟨hc54, h⟩ := h
                      refine J.guardY rfl (Y.indexS rfl rfl (Lent.ar (Lent.res 1 rfl) FI64) rfl rfl hc54) rfl ?_
                      refine J.guardY rfl (Y.loadS0 rfl (Lent.ar (Lent.res 1 rfl) FI64) rfl rfl rfl RI64c0 hc54) rfl ?_
                      refine J.guardY rfl (Y.lss rfl rfl) rfl ?_
                      refine J.quiet (Y.pickT rfl rfl) rfl ?_
                      refine J.done ?_
                      refine J.thenN ?_
                      exact J.meetI (decide ((at' a37.2 a27.1) < (0 : Int))) (()) h (by repeat (first | exact SubF.nil | refine SubF.cons rfl ?_)) (SubM.refl _) (LentAll.refl _ _)
                    · replace h := ifN hp53 h
                      refine J.guardN rfl rfl rfl ?_
                      refine J.guardN rfl rfl rfl ?_
                      refine J.guardN rfl rfl rfl ?_
                      refine J.guardN rfl rfl rfl ?_
                      refine J.guardN rfl rfl rfl ?_
                      refine J.quiet (Y.pickF rfl rfl) rfl ?_
                      refine J.done ?_
                      refine J.thenN ?_
                      exact J.meetI (false) (()) h (by repeat (first | exact SubF.nil | refine SubF.cons rfl ?_)) (SubM.refl _) (LentAll.refl _ _)
                  · clear h
                    intro a41 b42 h
                    unfold ref01_Distances_k6 at h
                    refine J.cond (by exact rfl) (fun hp43 => ?_) (fun hp43 => ?_)
                    · replace h := ifP hp43 h
                      refine J.skip ?_
                      refine J.thenN ?_
                      refine J.seq ?_
                      refine J.midI (A := List (Int)) (B := Unit) (fun a45 => ref01_Distances_k7 a37 (iter (ref01_Distances_s3 p0 a17 a27 (iter (ref01_Distances_s2 fuel p0 a17 (iter (ref01_Distances_s1 fuel p0) k19)) k29)) k39) a45 = some r) (fun a45 b46 => [(2, Value.pointer (some ⟨b1, 0, none⟩)), (5, Value.int .i64 (List.length p0.2 : Int)), (6, b9), (8, Value.int .i64 (a17.1)), (9, Value.int .i64 (a27.1)), (10, Value.int .i64 (a37.1))]) (fun a45 b46 => [Blk b1 [v0, v1] 26, Ar EI64 b9 a45]) (fun a45 b46 => [Sl RI64 v0 p0.1, S2 RI64I64p v1 z2 p0.2]) ?_ ?_
                      · refine J.block ?_
                        refine J.seq ?_
                        refine J.region ?_
                        refine J.quiet (Y.move rfl) rfl ?_
                        refine J.quiet (Y.fieldB rfl rfl rfl rfl rfl) rfl ?_
                        refine J.quiet (Y.loadB 0 rfl rfl rfl rfl rfl) rfl ?_
                        refine J.quiet (Y.move rfl) rfl ?_
                        replace h := ck_some h; obtain ⟨hc47, h⟩ := h
                        refine J.quiet (Y.indexN rfl rfl (Lent.fact 1 rfl) rfl rfl hc47) rfl ?_
                        refine J.quiet (Y.loadRow rfl (Lent.fact 1 rfl) rfl rfl hc47) rfl ?_
                        refine J.quiet (Y.move rfl) rfl ?_
                        replace h := ck_some h; obtain ⟨hc48, h⟩ := h
                        refine J.quiet (Y.indexS rfl rfl (Lent.el (Lent.fact 1 rfl) hc47.1 hc47.2) rfl rfl hc48) rfl ?_
                        refine J.quiet (Y.fieldEl rfl rfl rfl rfl rfl) rfl ?_
                        refine J.quiet (Y.loadS rfl (Lent.el (Lent.fact 1 rfl) hc47.1 hc47.2) rfl rfl rfl RI64I64pc0 hc48) rfl ?_
                        replace h := ck_some h; obtain ⟨hc49, h⟩ := h
                        refine J.quiet (Y.indexS rfl rfl (Lent.ar (Lent.res 1 rfl) FI64) rfl rfl hc49) rfl ?_
                        refine J.quiet (Y.loadS0 rfl (Lent.ar (Lent.res 1 rfl) FI64) rfl rfl rfl RI64c0 hc49) rfl ?_
                        refine J.quiet (Y.move rfl) rfl ?_
                        refine J.quiet (Y.subW rfl rfl) rfl ?_
                        refine J.quiet (Y.eql rfl rfl) rfl ?_
                        refine J.done ?_
                        refine J.thenN ?_
                        refine J.condD (by exact rfl) (fun hp50 => ?_) (fun hp50 => ?_)
                        · replace h := ifP hp50 h
                          refine J.region ?_
                          refine J.quiet (Y.move rfl) rfl ?_
                          refine J.quiet (Y.move rfl) rfl ?_
                          refine J.quiet (Y.move rfl) rfl ?_
                          replace h := ck_some h; obtain ⟨hc51, h⟩ := h
                          refine J.quiet (Y.indexS rfl rfl (Lent.ar (Lent.res 1 rfl) FI64) rfl rfl hc51) rfl ?_
                          refine J.storeS 1 a17.1 hc51 rfl rfl rfl rfl rfl rfl rfl ?_
                          refine J.done ?_
                          refine J.inN ?_
                          refine J.thenN ?_
                          exact J.meetI (List.set a37.2 (Int.toNat a27.1) a17.1) (()) h (by repeat (first | exact SubF.nil | refine SubF.cons rfl ?_)) (SubM.refl _) (LentAll.refl _ _)
                        · replace h := ifN hp50 h
                          refine J.skip ?_
                          refine J.inN ?_
                          refine J.thenN ?_
                          exact J.meetI (a37.2) (()) h (by repeat (first | exact SubF.nil | refine SubF.cons rfl ?_)) (SubM.refl _) (LentAll.refl _ _)
                      · clear h
                        intro a45 b46 h
                        unfold ref01_Distances_k7 at h
                        refine J.region ?_
                        refine J.quiet (Y.move rfl) rfl ?_
                        refine J.quiet (Y.addW rfl rfl) rfl ?_
                        refine J.quiet (Y.assign rfl) rfl ?_
                        refine J.done ?_
                        refine J.thenN ?_
                        exact J.againI ((wI .i64 (a37.1 + (1 : Int))), a45) (()) h (by repeat (first | exact SubF.nil | refine SubF.cons rfl ?_)) (SubM.refl _) (LentAll.refl _ _)
                    · replace h := ifBN hp43 h
                      refine J.exit ?_
                      refine J.thenX ?_
                      refine J.thenX ?_
                      refine J.inX ?_
                      refine J.inN ?_
                      refine J.thenN ?_
                      exact J.meetI (a37.2) (()) h (by repeat (first | exact SubF.nil | refine SubF.cons rfl ?_)) (SubM.refl _) (LentAll.refl _ _)
                · clear h
                  intro a32 b33 h
                  unfold ref01_Distances_k5 at h
                  refine J.region ?_
                  refine J.quiet (Y.move rfl) rfl ?_
                  refine J.quiet (Y.addW rfl rfl) rfl ?_
                  refine J.quiet (Y.assign rfl) rfl ?_
                  refine J.done ?_
                  refine J.thenN ?_
                  exact J.againI ((wI .i64 (a27.1 + (1 : Int))), a32) (()) h (by repeat (first | exact SubF.nil | refine SubF.cons rfl ?_)) (SubM.refl _) (LentAll.refl _ _)
              · replace h := ifN hp30 h
                refine J.exit ?_
                refine J.thenX ?_
                refine J.thenX ?_
                refine J.inX ?_
                refine J.inN ?_
                refine J.thenN ?_
                exact J.meetI (a27.2) (()) h (by repeat (first | exact SubF.nil | refine SubF.cons rfl ?_)) (SubM.refl _) (LentAll.refl _ _)
            · clear h
              intro a22 b23 h
              unfold ref01_Distances_k4 at h
              refine J.region ?_
              refine J.quiet (Y.move rfl) rfl ?_
              refine J.quiet (Y.addW rfl rfl) rfl ?_
              refine J.quiet (Y.assign rfl) rfl ?_
              refine J.done ?_
              refine J.thenN ?_
              exact J.againI ((wI .i64 (a17.1 + (1 : Int))), a22) (()) h (by repeat (first | exact SubF.nil | refine SubF.cons rfl ?_)) (SubM.refl _) (LentAll.refl _ _)
          · replace h := ifN hp20 h
            refine J.exit ?_
            refine J.thenX ?_
            refine J.thenX ?_
            refine J.inX ?_
            refine J.thenN ?_
            exact J.meetI (a17.2) (()) h (by repeat (first | exact SubF.nil | refine SubF.cons rfl ?_)) (SubM.cons 1 rfl (SubM.nil)) (LentAll.refl _ _)
        · clear h
          intro a12 b13 h
          unfold ref01_Distances_k3 at h
          refine J.seq ?_
          refine J.region ?_
          refine J.quiet (Y.move rfl) rfl ?_
          refine J.quiet (Y.assign rfl) rfl ?_
          refine J.done ?_
          refine J.thenN ?_
          refine J.ret ?_
          obtain rfl := Option.some.inj h
          exact J.retG1 (b9) rfl rfl (RV.tmp rfl) (SubM.refl _) LentAll.nil

end Go.Proofs.Ytemhmmcakmidkaa
end
section
namespace Go.Proofs.Ytemhmmcakmidkaa
open Go.Sx
set_option linter.unusedVariables false
set_option linter.unusedSimpArgs false

def ref01_greatest_k1  (a2 : Int) : Option (Int) :=
  some (a2)
def ref01_greatest_s1 (p0 : List (Int)) (a7 : Int × Int) (ag6 : (Int × Int) → Option (Int)) : Option (Int) :=
  if a7.2 < (List.length p0 : Int) then (ck (0 ≤ a7.2 ∧ a7.2 < (List.length p0 : Int)) (if (at' p0 a7.2) < (0 : Int) then (some (-1 : Int)) else (ck (0 ≤ a7.2 ∧ a7.2 < (List.length p0 : Int)) (ag6 ((max a7.1 (at' p0 a7.2)), (wI .i64 (a7.2 + (1 : Int)))))))) else (ref01_greatest_k1  (a7.1))
def m_ref01_greatest (fuel : Nat) (p0 : List (Int)) : Option (Int) :=
  iter (ref01_greatest_s1 p0) fuel ((-1 : Int), (0 : Int))

theorem body93 : HasBody Try.prog 93 := Try.call93

set_option maxHeartbeats 4000000 in
set_option maxRecDepth 20000 in
theorem t_ref01_greatest (fuel : Nat) {p0 : List (Int)} (v0 : Value) (r : Int) (h : m_ref01_greatest fuel p0 = some r) :
    Meets Try.prog 93 #[v0] [Sl RI64 v0 p0] (fun x : Unit => Value.int .i64 (r)) (fun x l => l) (fun _ l => l) := by
  refine Meets.of (vs := [v0]) Try.func93 rfl Try.ntmps93 rfl fun c => ?_
  unfold m_ref01_greatest at h
  refine J.seq ?_
  refine J.region ?_
  refine J.quiet (Y.assign rfl) rfl ?_
  refine J.done ?_
  refine J.thenN ?_
  refine J.seq ?_
  refine J.region ?_
  refine J.quiet (Y.assign rfl) rfl ?_
  refine J.done ?_
  refine J.thenN ?_
  refine J.seq ?_
  refine J.midI (A := Int) (B := Unit) (fun a2 => ref01_greatest_k1  a2 = some r) (fun a2 b3 => [(3, Value.int .i64 (a2))]) (fun a2 b3 => []) (fun a2 b3 => [Sl RI64 v0 p0]) ?_ ?_
  · refine J.seq ?_
    refine J.region ?_
    refine J.quiet (Y.assign rfl) rfl ?_
    refine J.done ?_
    refine J.thenN ?_
    refine J.block ?_
    refine J.loopI (A := Int × Int) (B := Unit) (ref01_greatest_s1 p0) (fun a7 b8 => [(0, v0), (3, Value.int .i64 (a7.1)), (4, Value.int .i64 (a7.2))]) (fun a7 b8 => []) (fun a7 b8 => [Sl RI64 v0 p0]) ((-1 : Int), (0 : Int)) (()) h (by repeat (first | exact SubF.nil | refine SubF.cons rfl ?_)) (SubM.refl _) (LentAll.refl _ _) ?_
    clear h
    intro k9 a7 b8 h
    unfold ref01_greatest_s1 at h
    refine J.seq ?_
    refine J.seq ?_
    refine J.region ?_
    refine J.quiet (Y.move rfl) rfl ?_
    refine J.quiet (Y.move rfl) rfl ?_
    refine J.quiet (Y.lenS rfl (Lent.fact 0 rfl) rfl) rfl ?_
    refine J.quiet (Y.lss rfl rfl) rfl ?_
    refine J.done ?_
    refine J.thenN ?_
    refine J.condD (by exact rfl) (fun hp10 => ?_) (fun hp10 => ?_)
    · replace h := ifP hp10 h
      refine J.skip ?_
      refine J.thenN ?_
      refine J.seq ?_
      refine J.block ?_
      refine J.seq ?_
      refine J.seq ?_
      refine J.region ?_
      refine J.quiet (Y.move rfl) rfl ?_
      refine J.quiet (Y.move rfl) rfl ?_
      replace h := ck_some h; obtain ⟨hc11, h⟩ := h
      refine J.quiet (Y.indexS rfl rfl (Lent.fact 0 rfl) rfl rfl hc11) rfl ?_
      refine J.quiet (Y.loadS0 rfl (Lent.fact 0 rfl) rfl rfl rfl RI64c0 hc11) rfl ?_
      refine J.quiet (Y.lss rfl rfl) rfl ?_
      refine J.done ?_
      refine J.thenN ?_
      refine J.condD (by exact rfl) (fun hp12 => ?_) (fun hp12 => ?_)
      · replace h := ifP hp12 h
        refine J.seq ?_
        refine J.region ?_
        refine J.quiet (Y.assign rfl) rfl ?_
        refine J.done ?_
        refine J.thenN ?_
        refine J.ret ?_
        refine J.thenR ?_
        refine J.inR ?_
        refine J.thenR ?_
        refine J.thenR ?_
        refine J.inR ?_
        refine J.thenR ?_
        obtain rfl := Option.some.inj h
        exact J.retG1 (()) rfl rfl (RV.tmp rfl) (SubM.refl _) LentAll.nil
      · replace h := ifN hp12 h
        refine J.skip ?_
        refine J.thenN ?_
        refine J.region ?_
        refine J.quiet (Y.move rfl) rfl ?_
        refine J.quiet (Y.move rfl) rfl ?_
        refine J.quiet (Y.move rfl) rfl ?_
        replace h := ck_some h; obtain ⟨hc13, h⟩ := h
        refine J.quiet (Y.indexS rfl rfl (Lent.fact 0 rfl) rfl rfl hc13) rfl ?_
        refine J.quiet (Y.loadS0 rfl (Lent.fact 0 rfl) rfl rfl rfl RI64c0 hc13) rfl ?_
        refine J.quiet (Y.max rfl rfl) rfl ?_
        refine J.quiet (Y.assign rfl) rfl ?_
        refine J.done ?_
        refine J.inN ?_
        refine J.thenN ?_
        refine J.region ?_
        refine J.quiet (Y.move rfl) rfl ?_
        refine J.quiet (Y.addW rfl rfl) rfl ?_
        refine J.quiet (Y.assign rfl) rfl ?_
        refine J.done ?_
        refine J.thenN ?_
        exact J.againI ((max a7.1 (at' p0 a7.2)), (wI .i64 (a7.2 + (1 : Int)))) (()) h (by repeat (first | exact SubF.nil | refine SubF.cons rfl ?_)) (SubM.refl _) (LentAll.refl _ _)
    · replace h := ifN hp10 h
      refine J.exit ?_
      refine J.thenX ?_
      refine J.thenX ?_
      refine J.inX ?_
      refine J.thenN ?_
      exact J.meetI (a7.1) (()) h (by repeat (first | exact SubF.nil | refine SubF.cons rfl ?_)) (SubM.refl _) (LentAll.refl _ _)
  · clear h
    intro a2 b3 h
    unfold ref01_greatest_k1 at h
    refine J.seq ?_
    refine J.region ?_
    refine J.quiet (Y.move rfl) rfl ?_
    refine J.quiet (Y.assign rfl) rfl ?_
    refine J.done ?_
    refine J.thenN ?_
    refine J.ret ?_
    obtain rfl := Option.some.inj h
    exact J.retG1 (()) rfl rfl (RV.tmp rfl) (SubM.refl _) LentAll.nil

end Go.Proofs.Ytemhmmcakmidkaa
end
section
namespace Go.Proofs.Ytemhmmcakmidkaa
open Go.Sx
set_option linter.unusedVariables false
set_option linter.unusedSimpArgs false

def m_ref01_Connected (fuel : Nat) (p0 : List (Int) × (List (List (Int × Int)))) : Option (Bool) :=
  Option.bind (m_ref01_Distances fuel ((p0.1, p0.2)) (0 : Int)) fun r2 => (Option.bind (m_ref01_greatest fuel r2) fun r5 => (some (decide ((0 : Int) ≤ r5))))

theorem body55 : HasBody Try.prog 55 := Try.call55

set_option maxHeartbeats 4000000 in
set_option maxRecDepth 20000 in
theorem t_ref01_Connected (fuel : Nat) {p0 : List (Int) × (List (List (Int × Int)))} (v0 : Value)  (v1 : Value)  (z2 : List (Value × List (Int × Int))) (r : Bool) (h : m_ref01_Connected fuel p0 = some r) :
    Meets Try.prog 55 #[Value.agg #[v0, v1]] [Sl RI64 v0 p0.1, S2 RI64I64p v1 z2 p0.2] (fun x : Unit => Value.bool (r)) (fun x l => l) (fun _ l => l) := by
  refine Meets.of (vs := [Value.agg #[v0, v1]]) Try.func55 rfl Try.ntmps55 rfl fun c => ?_
  unfold m_ref01_Connected at h
  refine J.seq ?_
  refine J.region ?_
  refine J.loud (Loud.box (cs := [v0, v1]) rfl rfl) rfl fun b1 => ?_
  refine J.quiet (Y.assign rfl) rfl ?_
  refine J.done ?_
  refine J.thenN ?_
  refine J.seq ?_
  refine J.region ?_
  refine J.quiet (Y.loadBAll 0 rfl rfl rfl rfl) rfl ?_
  replace h := bnd h; obtain ⟨r2, hr3, h⟩ := h
  refine J.loud (Loud.callL body54 (t_ref01_Distances fuel v0 v1 z2 r2 hr3) rfl (LentAll.cons (Lent.fact 0 rfl) (LentAll.cons (Lent.fact 1 rfl) (LentAll.nil))) (fun _ _ => rfl)) rfl fun x4 => ?_
  replace h := bnd h; obtain ⟨r5, hr6, h⟩ := h
  refine J.loud (Loud.callL body93 (t_ref01_greatest fuel x4 r5 hr6) rfl (LentAll.cons (Lent.ar (Lent.res 0 rfl) FI64) (LentAll.nil)) (fun _ _ => rfl)) rfl fun x7 => ?_
  refine J.quiet (Y.geq rfl rfl) rfl ?_
  refine J.quiet (Y.assign rfl) rfl ?_
  refine J.done ?_
  refine J.thenN ?_
  refine J.ret ?_
  obtain rfl := Option.some.inj h
  exact J.retG1 (()) rfl rfl (RV.tmp rfl) (SubM.nil) LentAll.nil

end Go.Proofs.Ytemhmmcakmidkaa
end
section
namespace Go.Proofs.Ytemhmmcakmidkaa
open Go.Sx
set_option linter.unusedVariables false
set_option linter.unusedSimpArgs false

def m_ref01_Eccentricity (fuel : Nat) (p0 : List (Int) × (List (List (Int × Int)))) (p1 : Int) : Option (Int) :=
  Option.bind (m_ref01_Distances fuel ((p0.1, p0.2)) p1) fun r2 => (Option.bind (m_ref01_greatest fuel r2) fun r5 => (some (r5)))

theorem body56 : HasBody Try.prog 56 := Try.call56

set_option maxHeartbeats 4000000 in
set_option maxRecDepth 20000 in
theorem t_ref01_Eccentricity (fuel : Nat) {p0 : List (Int) × (List (List (Int × Int)))} {p1 : Int} (v0 : Value)  (v1 : Value)  (z2 : List (Value × List (Int × Int))) (r : Int) (h : m_ref01_Eccentricity fuel p0 p1 = some r) :
    Meets Try.prog 56 #[Value.agg #[v0, v1], Value.int .i64 (p1)] [Sl RI64 v0 p0.1, S2 RI64I64p v1 z2 p0.2] (fun x : Unit => Value.int .i64 (r)) (fun x l => l) (fun _ l => l) := by
  refine Meets.of (vs := [Value.agg #[v0, v1], Value.int .i64 (p1)]) Try.func56 rfl Try.ntmps56 rfl fun c => ?_
  unfold m_ref01_Eccentricity at h
  refine J.seq ?_
  refine J.region ?_
  refine J.loud (Loud.box (cs := [v0, v1]) rfl rfl) rfl fun b1 => ?_
  refine J.quiet (Y.assign rfl) rfl ?_
  refine J.done ?_
  refine J.thenN ?_
  refine J.seq ?_
  refine J.region ?_
  refine J.quiet (Y.loadBAll 0 rfl rfl rfl rfl) rfl ?_
  refine J.quiet (Y.move rfl) rfl ?_
  replace h := bnd h; obtain ⟨r2, hr3, h⟩ := h
  refine J.loud (Loud.callL body54 (t_ref01_Distances fuel v0 v1 z2 r2 hr3) rfl (LentAll.cons (Lent.fact 0 rfl) (LentAll.cons (Lent.fact 1 rfl) (LentAll.nil))) (fun _ _ => rfl)) rfl fun x4 => ?_
  replace h := bnd h; obtain ⟨r5, hr6, h⟩ := h
  refine J.loud (Loud.callL body93 (t_ref01_greatest fuel x4 r5 hr6) rfl (LentAll.cons (Lent.ar (Lent.res 0 rfl) FI64) (LentAll.nil)) (fun _ _ => rfl)) rfl fun x7 => ?_
  refine J.quiet (Y.assign rfl) rfl ?_
  refine J.done ?_
  refine J.thenN ?_
  refine J.ret ?_
  obtain rfl := Option.some.inj h
  exact J.retG1 (()) rfl rfl (RV.tmp rfl) (SubM.nil) LentAll.nil

end Go.Proofs.Ytemhmmcakmidkaa
end
section
namespace Go.Proofs.Ytemhmmcakmidkaa
open Go.Sx
set_option linter.unusedVariables false
set_option linter.unusedSimpArgs false

def ref01_Diameter_k1  (a7 : Int) : Option (Int) :=
  some (a7)
def ref01_Diameter_s1 (fuel : Nat) (p0 : List (Int) × (List (List (Int × Int)))) (a12 : Int × Int) (ag11 : (Int × Int) → Option (Int)) : Option (Int) :=
  if a12.2 < (List.length p0.2 : Int) then (Option.bind (m_ref01_Eccentricity fuel ((p0.1, p0.2)) a12.2) fun r16 => (ag11 ((max a12.1 r16), (wI .i64 (a12.2 + (1 : Int)))))) else (ref01_Diameter_k1  (a12.1))
def m_ref01_Diameter (fuel : Nat) (p0 : List (Int) × (List (List (Int × Int)))) : Option (Int) :=
  Option.bind (m_ref01_Connected fuel ((p0.1, p0.2))) fun r2 => (if (!r2) = true then (some (-1 : Int)) else (iter (ref01_Diameter_s1 fuel p0) fuel ((0 : Int), (0 : Int))))

theorem body57 : HasBody Try.prog 57 := Try.call57

set_option maxHeartbeats 4000000 in
set_option maxRecDepth 20000 in
theorem t_ref01_Diameter (fuel : Nat) {p0 : List (Int) × (List (List (Int × Int)))} (v0 : Value)  (v1 : Value)  (z2 : List (Value × List (Int × Int))) (r : Int) (h : m_ref01_Diameter fuel p0 = some r) :
    Meets Try.prog 57 #[Value.agg #[v0, v1]] [Sl RI64 v0 p0.1, S2 RI64I64p v1 z2 p0.2] (fun x : Unit => Value.int .i64 (r)) (fun x l => l) (fun _ l => l) := by
  refine Meets.of (vs := [Value.agg #[v0, v1]]) Try.func57 rfl Try.ntmps57 rfl fun c => ?_
  unfold m_ref01_Diameter at h
  refine J.seq ?_
  refine J.region ?_
  refine J.loud (Loud.box (cs := [v0, v1]) rfl rfl) rfl fun b1 => ?_
  refine J.quiet (Y.assign rfl) rfl ?_
  refine J.done ?_
  refine J.thenN ?_
  refine J.seq ?_
  refine J.seq ?_
  refine J.region ?_
  refine J.quiet (Y.loadBAll 0 rfl rfl rfl rfl) rfl ?_
  replace h := bnd h; obtain ⟨r2, hr3, h⟩ := h
  refine J.loud (Loud.callL body55 (t_ref01_Connected fuel v0 v1 z2 r2 hr3) rfl (LentAll.cons (Lent.fact 0 rfl) (LentAll.cons (Lent.fact 1 rfl) (LentAll.nil))) (fun _ _ => rfl)) rfl fun x4 => ?_
  refine J.quiet (Y.not rfl) rfl ?_
  refine J.done ?_
  refine J.thenN ?_
  refine J.cond (by exact rfl) (fun hp5 => ?_) (fun hp5 => ?_)
  · replace h := ifP hp5 h
    refine J.seq ?_
    refine J.region ?_
    refine J.quiet (Y.assign rfl) rfl ?_
    refine J.done ?_
    refine J.thenN ?_
    refine J.ret ?_
    refine J.thenR ?_
    obtain rfl := Option.some.inj h
    exact J.retG1 (()) rfl rfl (RV.tmp rfl) (SubM.nil) LentAll.nil
  · replace h := ifBN hp5 h
    refine J.skip ?_
    refine J.thenN ?_
    refine J.seq ?_
    refine J.region ?_
    refine J.quiet (Y.assign rfl) rfl ?_
    refine J.done ?_
    refine J.thenN ?_
    refine J.seq ?_
    refine J.midI (A := Int) (B := Unit) (fun a7 => ref01_Diameter_k1  a7 = some r) (fun a7 b8 => [(3, Value.int .i64 (a7))]) (fun a7 b8 => []) (fun a7 b8 => [Sl RI64 v0 p0.1, S2 RI64I64p v1 z2 p0.2]) ?_ ?_
    · refine J.seq ?_
      refine J.region ?_
      refine J.quiet (Y.assign rfl) rfl ?_
      refine J.done ?_
      refine J.thenN ?_
      refine J.block ?_
      refine J.loopI (A := Int × Int) (B := Unit) (ref01_Diameter_s1 fuel p0) (fun a12 b13 => [(1, Value.pointer (some ⟨b1, 0, none⟩)), (3, Value.int .i64 (a12.1)), (4, Value.int .i64 (a12.2))]) (fun a12 b13 => [Blk b1 [v0, v1] 26]) (fun a12 b13 => [Sl RI64 v0 p0.1, S2 RI64I64p v1 z2 p0.2]) ((0 : Int), (0 : Int)) (()) h (by repeat (first | exact SubF.nil | refine SubF.cons rfl ?_)) (SubM.refl _) (LentAll.refl _ _) ?_
      clear h
      intro k14 a12 b13 h
      unfold ref01_Diameter_s1 at h
      refine J.seq ?_
      refine J.seq ?_
      refine J.region ?_
      refine J.quiet (Y.move rfl) rfl ?_
      refine J.quiet (Y.fieldB rfl rfl rfl rfl rfl) rfl ?_
      refine J.quiet (Y.loadB 0 rfl rfl rfl rfl rfl) rfl ?_
      refine J.quiet (Y.lenN rfl (Lent.fact 1 rfl) rfl) rfl ?_
      refine J.quiet (Y.lss rfl rfl) rfl ?_
      refine J.done ?_
      refine J.thenN ?_
      refine J.condD (by exact rfl) (fun hp15 => ?_) (fun hp15 => ?_)
      · replace h := ifP hp15 h
        refine J.skip ?_
        refine J.thenN ?_
        refine J.seq ?_
        refine J.block ?_
        refine J.region ?_
        refine J.quiet (Y.move rfl) rfl ?_
        refine J.quiet (Y.loadBAll 0 rfl rfl rfl rfl) rfl ?_
        refine J.quiet (Y.move rfl) rfl ?_
        replace h := bnd h; obtain ⟨r16, hr17, h⟩ := h
        refine J.loud (Loud.callL body56 (t_ref01_Eccentricity fuel v0 v1 z2 r16 hr17) rfl (LentAll.cons (Lent.fact 0 rfl) (LentAll.cons (Lent.fact 1 rfl) (LentAll.nil))) (fun _ _ => rfl)) rfl fun x18 => ?_
        refine J.quiet (Y.max rfl rfl) rfl ?_
        refine J.quiet (Y.assign rfl) rfl ?_
        refine J.done ?_
        refine J.inN ?_
        refine J.thenN ?_
        refine J.region ?_
        refine J.quiet (Y.move rfl) rfl ?_
        refine J.quiet (Y.addW rfl rfl) rfl ?_
        refine J.quiet (Y.assign rfl) rfl ?_
        refine J.done ?_
        refine J.thenN ?_
        exact J.againI ((max a12.1 r16), (wI .i64 (a12.2 + (1 : Int)))) (()) h (by repeat (first | exact SubF.nil | refine SubF.cons rfl ?_)) (SubM.refl _) (LentAll.refl _ _)
      · replace h := ifN hp15 h
        refine J.exit ?_
        refine J.thenX ?_
        refine J.thenX ?_
        refine J.inX ?_
        refine J.thenN ?_
        exact J.meetI (a12.1) (()) h (by repeat (first | exact SubF.nil | refine SubF.cons rfl ?_)) (SubM.nil) (LentAll.refl _ _)
    · clear h
      intro a7 b8 h
      unfold ref01_Diameter_k1 at h
      refine J.seq ?_
      refine J.region ?_
      refine J.quiet (Y.move rfl) rfl ?_
      refine J.quiet (Y.assign rfl) rfl ?_
      refine J.done ?_
      refine J.thenN ?_
      refine J.ret ?_
      obtain rfl := Option.some.inj h
      exact J.retG1 (()) rfl rfl (RV.tmp rfl) (SubM.refl _) LentAll.nil

end Go.Proofs.Ytemhmmcakmidkaa
end
section
namespace Go.Proofs.Ytemhmmcakmidkaa
open Go.Sx
set_option linter.unusedVariables false
set_option linter.unusedSimpArgs false

def ref01_Size_k1 (p0 : List (Int) × (List (List (Int × Int)))) (a7 : Int) : Option (Int × Int) :=
  ck ((2 : Int) ≠ 0) (some ((List.length p0.2 : Int), (wI .i64 (Int.tdiv a7 (2 : Int)))))
def ref01_Size_s1 (p0 : List (Int) × (List (List (Int × Int)))) (a13 : Int × Int) (ag12 : (Int × Int) → Option (Int × Int)) : Option (Int × Int) :=
  if a13.2 < (List.length p0.2 : Int) then (ck (0 ≤ a13.2 ∧ a13.2 < (List.length p0.2 : Int)) (ag12 ((wI .i64 (a13.1 + (List.length (at' p0.2 a13.2) : Int))), (wI .i64 (a13.2 + (1 : Int)))))) else (ref01_Size_k1 p0 (a13.1))
def m_ref01_Size (fuel : Nat) (p0 : List (Int) × (List (List (Int × Int)))) : Option (Int × Int) :=
  Option.bind (m_ref01_Valid fuel ((p0.1, p0.2))) fun r2 => (if (!r2) = true then (some ((0 : Int), (0 : Int))) else (iter (ref01_Size_s1 p0) fuel ((0 : Int), (0 : Int))))

theorem body63 : HasBody Try.prog 63 := Try.call63

set_option maxHeartbeats 4000000 in
set_option maxRecDepth 20000 in
theorem t_ref01_Size (fuel : Nat) {p0 : List (Int) × (List (List (Int × Int)))} (v0 : Value)  (v1 : Value)  (z2 : List (Value × List (Int × Int))) (r : Int × Int) (h : m_ref01_Size fuel p0 = some r) :
    Meets Try.prog 63 #[Value.agg #[v0, v1]] [Sl RI64 v0 p0.1, S2 RI64I64p v1 z2 p0.2] (fun x : Unit => Value.tuple #[Value.int .i64 (r.1), Value.int .i64 (r.2)]) (fun x l => l) (fun _ l => l) := by
  refine Meets.of (vs := [Value.agg #[v0, v1]]) Try.func63 rfl Try.ntmps63 rfl fun c => ?_
  unfold m_ref01_Size at h
  refine J.seq ?_
  refine J.region ?_
  refine J.loud (Loud.box (cs := [v0, v1]) rfl rfl) rfl fun b1 => ?_
  refine J.quiet (Y.assign rfl) rfl ?_
  refine J.quiet (Y.assign rfl) rfl ?_
  refine J.done ?_
  refine J.thenN ?_
  refine J.seq ?_
  refine J.seq ?_
  refine J.region ?_
  refine J.quiet (Y.loadBAll 0 rfl rfl rfl rfl) rfl ?_
  replace h := bnd h; obtain ⟨r2, hr3, h⟩ := h
  refine J.loud (Loud.callL body51 (t_ref01_Valid fuel v0 v1 z2 r2 hr3) rfl (LentAll.cons (Lent.fact 0 rfl) (LentAll.cons (Lent.fact 1 rfl) (LentAll.nil))) (fun _ _ => rfl)) rfl fun x4 => ?_
  refine J.quiet (Y.not rfl) rfl ?_
  refine J.done ?_
  refine J.thenN ?_
  refine J.cond (by exact rfl) (fun hp5 => ?_) (fun hp5 => ?_)
  · replace h := ifP hp5 h
    refine J.seq ?_
    refine J.region ?_
    refine J.quiet (Y.assign rfl) rfl ?_
    refine J.quiet (Y.assign rfl) rfl ?_
    refine J.done ?_
    refine J.thenN ?_
    refine J.ret ?_
    refine J.thenR ?_
    obtain rfl := Option.some.inj h
    exact J.retG2 (()) rfl rfl (RV.tmp rfl) (RV.tmp rfl) (SubM.nil) LentAll.nil
  · replace h := ifBN hp5 h
    refine J.skip ?_
    refine J.thenN ?_
    refine J.seq ?_
    refine J.region ?_
    refine J.quiet (Y.assign rfl) rfl ?_
    refine J.done ?_
    refine J.thenN ?_
    refine J.seq ?_
    refine J.midI (A := Int) (B := Unit) (fun a7 => ref01_Size_k1 p0 a7 = some r) (fun a7 b8 => [(1, Value.pointer (some ⟨b1, 0, none⟩)), (4, Value.int .i64 (a7))]) (fun a7 b8 => [Blk b1 [v0, v1] 26]) (fun a7 b8 => [Sl RI64 v0 p0.1, S2 RI64I64p v1 z2 p0.2]) ?_ ?_
    · refine J.seq ?_
      refine J.region ?_
      refine J.quiet (Y.assign rfl) rfl ?_
      refine J.done ?_
      refine J.thenN ?_
      refine J.block ?_
      refine J.loopI (A := Int × Int) (B := Unit) (ref01_Size_s1 p0) (fun a13 b14 => [(1, Value.pointer (some ⟨b1, 0, none⟩)), (4, Value.int .i64 (a13.1)), (5, Value.int .i64 (a13.2))]) (fun a13 b14 => [Blk b1 [v0, v1] 26]) (fun a13 b14 => [Sl RI64 v0 p0.1, S2 RI64I64p v1 z2 p0.2]) ((0 : Int), (0 : Int)) (()) h (by repeat (first | exact SubF.nil | refine SubF.cons rfl ?_)) (SubM.refl _) (LentAll.refl _ _) ?_
      clear h
      intro k15 a13 b14 h
      unfold ref01_Size_s1 at h
      refine J.seq ?_
      refine J.seq ?_
      refine J.region ?_
      refine J.quiet (Y.move rfl) rfl ?_
      refine J.quiet (Y.fieldB rfl rfl rfl rfl rfl) rfl ?_
      refine J.quiet (Y.loadB 0 rfl rfl rfl rfl rfl) rfl ?_
      refine J.quiet (Y.lenN rfl (Lent.fact 1 rfl) rfl) rfl ?_
      refine J.quiet (Y.lss rfl rfl) rfl ?_
      refine J.done ?_
      refine J.thenN ?_
      refine J.condD (by exact rfl) (fun hp16 => ?_) (fun hp16 => ?_)
      · replace h := ifP hp16 h
        refine J.skip ?_
        refine J.thenN ?_
        refine J.seq ?_
        refine J.block ?_
        refine J.region ?_
        refine J.quiet (Y.move rfl) rfl ?_
        refine J.quiet (Y.fieldB rfl rfl rfl rfl rfl) rfl ?_
        refine J.quiet (Y.loadB 0 rfl rfl rfl rfl rfl) rfl ?_
        refine J.quiet (Y.move rfl) rfl ?_
        replace h := ck_some h; obtain ⟨hc17, h⟩ := h
        refine J.quiet (Y.indexN rfl rfl (Lent.fact 1 rfl) rfl rfl hc17) rfl ?_
        refine J.quiet (Y.loadRow rfl (Lent.fact 1 rfl) rfl rfl hc17) rfl ?_
        refine J.quiet (Y.lenS rfl (Lent.el (Lent.fact 1 rfl) hc17.1 hc17.2) rfl) rfl ?_
        refine J.quiet (Y.addW rfl rfl) rfl ?_
        refine J.quiet (Y.assign rfl) rfl ?_
        refine J.done ?_
        refine J.inN ?_
        refine J.thenN ?_
        refine J.region ?_
        refine J.quiet (Y.move rfl) rfl ?_
        refine J.quiet (Y.addW rfl rfl) rfl ?_
        refine J.quiet (Y.assign rfl) rfl ?_
        refine J.done ?_
        refine J.thenN ?_
        exact J.againI ((wI .i64 (a13.1 + (List.length (at' p0.2 a13.2) : Int))), (wI .i64 (a13.2 + (1 : Int)))) (()) h (by repeat (first | exact SubF.nil | refine SubF.cons rfl ?_)) (SubM.refl _) (LentAll.refl _ _)
      · replace h := ifN hp16 h
        refine J.exit ?_
        refine J.thenX ?_
        refine J.thenX ?_
        refine J.inX ?_
        refine J.thenN ?_
        exact J.meetI (a13.1) (()) h (by repeat (first | exact SubF.nil | refine SubF.cons rfl ?_)) (SubM.refl _) (LentAll.refl _ _)
    · clear h
      intro a7 b8 h
      unfold ref01_Size_k1 at h
      refine J.seq ?_
      refine J.region ?_
      refine J.quiet (Y.fieldB rfl rfl rfl rfl rfl) rfl ?_
      refine J.quiet (Y.loadB 0 rfl rfl rfl rfl rfl) rfl ?_
      refine J.quiet (Y.lenN rfl (Lent.fact 1 rfl) rfl) rfl ?_
      refine J.quiet (Y.move rfl) rfl ?_
      replace h := ck_some h; obtain ⟨hc9, h⟩ := h
      refine J.quiet (Y.quoW rfl rfl hc9) rfl ?_
      refine J.quiet (Y.assign rfl) rfl ?_
      refine J.quiet (Y.assign rfl) rfl ?_
      refine J.done ?_
      refine J.thenN ?_
      refine J.ret ?_
      obtain rfl := Option.some.inj h
      exact J.retG2 (()) rfl rfl (RV.tmp rfl) (RV.tmp rfl) (SubM.nil) LentAll.nil

end Go.Proofs.Ytemhmmcakmidkaa
end
section
namespace Go.Proofs.Ytemhmmcakmidkaa
open Go.Sx
set_option linter.unusedVariables false
set_option linter.unusedSimpArgs false

def ref01_Tree_k1  (a6 : Bool) : Option (Bool) :=
  some (a6)
def m_ref01_Tree (fuel : Nat) (p0 : List (Int) × (List (List (Int × Int)))) : Option (Bool) :=
  Option.bind (m_ref01_Size fuel ((p0.1, p0.2))) fun r2 => (Option.bind (m_ref01_Connected fuel ((p0.1, p0.2))) fun r8 => (if r8 = true then (ref01_Tree_k1  (decide (r2.2 = (wI .i64 (r2.1 - (1 : Int)))))) else (ref01_Tree_k1  (false))))

theorem body58 : HasBody Try.prog 58 := Try.call58

set_option maxHeartbeats 4000000 in
set_option maxRecDepth 20000 in
theorem t_ref01_Tree (fuel : Nat) {p0 : List (Int) × (List (List (Int × Int)))} (v0 : Value)  (v1 : Value)  (z2 : List (Value × List (Int × Int))) (r : Bool) (h : m_ref01_Tree fuel p0 = some r) :
    Meets Try.prog 58 #[Value.agg #[v0, v1]] [Sl RI64 v0 p0.1, S2 RI64I64p v1 z2 p0.2] (fun x : Unit => Value.bool (r)) (fun x l => l) (fun _ l => l) := by
  refine Meets.of (vs := [Value.agg #[v0, v1]]) Try.func58 rfl Try.ntmps58 rfl fun c => ?_
  unfold m_ref01_Tree at h
  refine J.seq ?_
  refine J.region ?_
  refine J.loud (Loud.box (cs := [v0, v1]) rfl rfl) rfl fun b1 => ?_
  refine J.quiet (Y.assign rfl) rfl ?_
  refine J.done ?_
  refine J.thenN ?_
  refine J.seq ?_
  refine J.region ?_
  refine J.quiet (Y.loadBAll 0 rfl rfl rfl rfl) rfl ?_
  replace h := bnd h; obtain ⟨r2, hr3, h⟩ := h
  refine J.loud (Loud.callL body63 (t_ref01_Size fuel v0 v1 z2 r2 hr3) rfl (LentAll.cons (Lent.fact 0 rfl) (LentAll.cons (Lent.fact 1 rfl) (LentAll.nil))) (fun _ _ => rfl)) rfl fun x4 => ?_
  refine J.quiet (Y.move rfl) rfl ?_
  refine J.quiet (Y.extract rfl rfl) rfl ?_
  refine J.quiet (Y.extract rfl rfl) rfl ?_
  refine J.quiet (Y.assign rfl) rfl ?_
  refine J.quiet (Y.assign rfl) rfl ?_
  refine J.done ?_
  refine J.thenN ?_
  refine J.seq ?_
  refine J.midI (A := Bool) (B := Unit) (fun a6 => ref01_Tree_k1  a6 = some r) (fun a6 b7 => [(2, Value.bool (a6))]) (fun a6 b7 => []) (fun a6 b7 => [Sl RI64 v0 p0.1, S2 RI64I64p v1 z2 p0.2]) ?_ ?_
  · refine J.region ?_
    refine J.quiet (Y.loadBAll 0 rfl rfl rfl rfl) rfl ?_
    replace h := bnd h; obtain ⟨r8, hr9, h⟩ := h
    refine J.loud (Loud.callL body55 (t_ref01_Connected fuel v0 v1 z2 r8 hr9) rfl (LentAll.cons (Lent.fact 0 rfl) (LentAll.cons (Lent.fact 1 rfl) (LentAll.nil))) (fun _ _ => rfl)) rfl fun x10 => ?_
    refine J.quiet (Y.move rfl) rfl ?_
    refine J.guard (by exact rfl) (by exact rfl) (fun hp11 => ?_) (fun hp11 => ?_)
    · replace h := ifP hp11 h
      refine J.guardY rfl (Y.move rfl) rfl ?_
      refine J.guardY rfl (Y.move rfl) rfl ?_
      refine J.guardY rfl (Y.subW rfl rfl) rfl ?_
      refine J.guardY rfl (Y.eql rfl rfl) rfl ?_
      refine J.quiet (Y.pickT rfl rfl) rfl ?_
      refine J.quiet (Y.assign rfl) rfl ?_
      refine J.done ?_
      refine J.thenN ?_
      exact J.meetI (decide (r2.2 = (wI .i64 (r2.1 - (1 : Int))))) (()) h (by repeat (first | exact SubF.nil | refine SubF.cons rfl ?_)) (SubM.nil) (LentAll.refl _ _)
    · replace h := ifBN hp11 h
      refine J.guardN rfl rfl rfl ?_
      refine J.guardN rfl rfl rfl ?_
      refine J.guardN rfl rfl rfl ?_
      refine J.guardN rfl rfl rfl ?_
      refine J.quiet (Y.pickF rfl rfl) rfl ?_
      refine J.quiet (Y.assign rfl) rfl ?_
      refine J.done ?_
      refine J.thenN ?_
      exact J.meetI (false) (()) h (by repeat (first | exact SubF.nil | refine SubF.cons rfl ?_)) (SubM.nil) (LentAll.refl _ _)
  · clear h
    intro a6 b7 h
    unfold ref01_Tree_k1 at h
    refine J.ret ?_
    obtain rfl := Option.some.inj h
    exact J.retG1 (()) rfl rfl (RV.tmp rfl) (SubM.refl _) LentAll.nil

end Go.Proofs.Ytemhmmcakmidkaa
end
section
namespace Go.Proofs.Ytemhmmcakmidkaa
open Go.Sx
set_option linter.unusedVariables false
set_option linter.unusedSimpArgs false

def law01_GraphMeasures_k1  (a10 : Bool) : Option (Bool) :=
  some (a10)
def m_law01_GraphMeasures (fuel : Nat) (p0 : List (Int) × (List (List (Int × Int)))) (p1 : Int) : Option (Bool) :=
  Option.bind (m_made_LightGraph fuel ((p0.1, p0.2))) fun r2 => (if (!r2) = true then (Option.bind (m_law01_awake fuel ) fun r6 => (some (r6))) else (Option.bind (m_law01_awake fuel ) fun r12 => (if r12 = true then (Option.bind (m_graph_Distances fuel ((p0.1, p0.2)) p1) fun r16 => (Option.bind (m_ref01_Distances fuel ((p0.1, p0.2)) p1) fun r19 => (Option.bind (m_ref01_SameInts fuel r16 r19) fun r22 => (if r22 = true then (Option.bind (m_graph_Connected fuel ((p0.1, p0.2))) fun r26 => (Option.bind (m_ref01_Connected fuel ((p0.1, p0.2))) fun r29 => (if (r26 == r29) = true then (Option.bind (m_graph_Eccentricity fuel ((p0.1, p0.2)) p1) fun r33 => (Option.bind (m_ref01_Eccentricity fuel ((p0.1, p0.2)) p1) fun r36 => (if r33 = r36 then (Option.bind (m_graph_Diameter fuel ((p0.1, p0.2))) fun r40 => (Option.bind (m_ref01_Diameter fuel ((p0.1, p0.2))) fun r43 => (if r40 = r43 then (Option.bind (m_graph_Tree fuel ((p0.1, p0.2))) fun r47 => (Option.bind (m_ref01_Tree fuel ((p0.1, p0.2))) fun r50 => (law01_GraphMeasures_k1  ((r47 == r50))))) else (law01_GraphMeasures_k1  (false))))) else (law01_GraphMeasures_k1  (false))))) else (law01_GraphMeasures_k1  (false))))) else (law01_GraphMeasures_k1  (false)))))) else (law01_GraphMeasures_k1  (false)))))

theorem body12 : HasBody Try.prog 12 := Try.call12

set_option maxHeartbeats 4000000 in
set_option maxRecDepth 20000 in
theorem t_law01_GraphMeasures (fuel : Nat) {p0 : List (Int) × (List (List (Int × Int)))} {p1 : Int} (v0 : Value)  (v1 : Value)  (z2 : List (Value × List (Int × Int))) (r : Bool) (h : m_law01_GraphMeasures fuel p0 p1 = some r) :
    Meets Try.prog 12 #[Value.agg #[v0, v1], Value.int .i64 (p1)] [Sl RI64 v0 p0.1, S2 RI64I64p v1 z2 p0.2] (fun x : Unit => Value.bool (r)) (fun x l => l) (fun _ l => l) := by
  refine Meets.of (vs := [Value.agg #[v0, v1], Value.int .i64 (p1)]) Try.func12 rfl Try.ntmps12 rfl fun c => ?_
  unfold m_law01_GraphMeasures at h
  refine J.seq ?_
  refine J.region ?_
  refine J.loud (Loud.box (cs := [v0, v1]) rfl rfl) rfl fun b1 => ?_
  refine J.quiet (Y.assign rfl) rfl ?_
  refine J.done ?_
  refine J.thenN ?_
  refine J.seq ?_
  refine J.seq ?_
  refine J.region ?_
  refine J.quiet (Y.loadBAll 0 rfl rfl rfl rfl) rfl ?_
  replace h := bnd h; obtain ⟨r2, hr3, h⟩ := h
  refine J.loud (Loud.callL body46 (t_made_LightGraph fuel v0 v1 z2 r2 hr3) rfl (LentAll.cons (Lent.fact 0 rfl) (LentAll.cons (Lent.fact 1 rfl) (LentAll.nil))) (fun _ _ => rfl)) rfl fun x4 => ?_
  refine J.quiet (Y.not rfl) rfl ?_
  refine J.done ?_
  refine J.thenN ?_
  refine J.cond (by exact rfl) (fun hp5 => ?_) (fun hp5 => ?_)
  · replace h := ifP hp5 h
    refine J.seq ?_
    refine J.region ?_
    replace h := bnd h; obtain ⟨r6, hr7, h⟩ := h
    refine J.loud (Loud.callL body33 (t_law01_awake fuel  r6 hr7) rfl (LentAll.nil) (fun _ _ => rfl)) rfl fun x8 => ?_
    refine J.quiet (Y.assign rfl) rfl ?_
    refine J.done ?_
    refine J.thenN ?_
    refine J.ret ?_
    refine J.thenR ?_
    obtain rfl := Option.some.inj h
    exact J.retG1 (()) rfl rfl (RV.tmp rfl) (SubM.nil) LentAll.nil
  · replace h := ifBN hp5 h
    refine J.skip ?_
    refine J.thenN ?_
    refine J.seq ?_
    refine J.midI (A := Bool) (B := Unit) (fun a10 => law01_GraphMeasures_k1  a10 = some r) (fun a10 b11 => [(4, Value.bool (a10))]) (fun a10 b11 => []) (fun a10 b11 => [Sl RI64 v0 p0.1, S2 RI64I64p v1 z2 p0.2]) ?_ ?_
    · refine JR.start [0, 1, 3, 3, 15, 3, 3, 127, 255, 511, 1023, 2047, 4095, 2047, 16383, 32767, 65535, 131071, 262143, 262143, 1048575, 262143, 262143, 8388607, 16777215, 33554431, 67108863, 134217727, 268435455, 134217727, 1073741823, 2147483647, 4294967295, 8589934591, 17179869183, 34359738367, 17179869183, 137438953471, 274877906943, 549755813887, 1099511627775] 37 mixedOrders (by decide +kernel) ?_
      refine JR.open (by exact rfl) ?_
      replace h := bnd h; obtain ⟨r12, hr13, h⟩ := h
      refine JR.loud rfl rfl rfl (Loud.callL body33 (t_law01_awake fuel  r12 hr13) rfl (LentAll.nil) (fun _ _ => rfl)) rfl (fun x14 => BsOk.z) fun x14 => ?_
      refine JR.qt rfl (SubM.nil) (SubL.nil) (Y.move rfl) (HistOk.b rfl HistOk.z) ?_
      refine JR.guard (by exact rfl) (by exact rfl) (by exact rfl) (fun hp15 => ?_) (fun hp15 => ?_)
      · replace h := ifP hp15 h
        refine JR.qtG rfl (SubM.refl _) (SubL.nil) (Y.loadBAll 0 rfl rfl rfl rfl) (HistOk.b rfl HistOk.z) ?_
        refine JR.qtG rfl (SubM.nil) (SubL.nil) (Y.move rfl) (HistOk.b rfl HistOk.z) ?_
        replace h := bnd h; obtain ⟨r16, hr17, h⟩ := h
        refine JR.loudG rfl rfl rfl rfl (Loud.callL body35 (t_graph_Distances fuel v0 v1 z2 r16 hr17) rfl (LentAll.cons (Lent.fact 0 rfl) (LentAll.cons (Lent.fact 1 rfl) (LentAll.nil))) (fun _ _ => rfl)) rfl (fun x18 => (BsOk.b rfl (BsOk.b rfl (BsOk.b rfl BsOk.z)))) fun x18 => ?_
        refine JR.qtG rfl (SubM.cons 1 rfl (SubM.nil)) (SubL.nil) (Y.loadBAll 0 rfl rfl rfl rfl) (HistOk.h (SubM.cons 0 rfl (SubM.nil)) (SubL.nil) (HistOk.b rfl HistOk.z)) ?_
        refine JR.qtG rfl (SubM.nil) (SubL.nil) (Y.move rfl) (HistOk.h (SubM.nil) (SubL.nil) (HistOk.b rfl HistOk.z)) ?_
        replace h := bnd h; obtain ⟨r19, hr20, h⟩ := h
        refine JR.loudG rfl rfl rfl rfl (Loud.callL body54 (t_ref01_Distances fuel v0 v1 z2 r19 hr20) rfl (LentAll.cons (Lent.fact 0 rfl) (LentAll.cons (Lent.fact 1 rfl) (LentAll.nil))) (fun _ _ => rfl)) rfl (fun x21 => (BsOk.b rfl (BsOk.b rfl (BsOk.b rfl (BsOk.b rfl (BsOk.b rfl BsOk.z)))))) fun x21 => ?_
        replace h := bnd h; obtain ⟨r22, hr23, h⟩ := h
        refine JR.loudG rfl rfl rfl rfl (Loud.callL body53 (t_ref01_SameInts fuel x18 x21 r22 hr23) rfl (LentAll.cons (Lent.ar (Lent.res 1 rfl) FI64) (LentAll.cons (Lent.ar (Lent.res 0 rfl) FI64) (LentAll.nil))) (fun _ _ => rfl)) rfl (fun x24 => (BsOk.b rfl (BsOk.b rfl (BsOk.b rfl (BsOk.b rfl (BsOk.b rfl BsOk.z)))))) fun x24 => ?_
        refine JR.qt rfl (SubM.nil) (SubL.nil) (Y.pickT rfl rfl) (HistOk.b rfl (HistOk.b rfl (HistOk.b rfl (HistOk.b rfl HistOk.z)))) ?_
        refine JR.qt rfl (SubM.nil) (SubL.nil) (Y.move rfl) (HistOk.b rfl (HistOk.b rfl (HistOk.b rfl (HistOk.b rfl HistOk.z)))) ?_
        refine JR.guard (by exact rfl) (by exact rfl) (by exact rfl) (fun hp25 => ?_) (fun hp25 => ?_)
        · replace h := ifP hp25 h
          refine JR.qtG rfl (SubM.cons 2 rfl (SubM.nil)) (SubL.nil) (Y.loadBAll 0 rfl rfl rfl rfl) (HistOk.b rfl (HistOk.b rfl (HistOk.b rfl (HistOk.b rfl HistOk.z)))) ?_
          replace h := bnd h; obtain ⟨r26, hr27, h⟩ := h
          refine JR.loudG rfl rfl rfl rfl (Loud.callL body37 (t_graph_Connected fuel v0 v1 z2 r26 hr27) rfl (LentAll.cons (Lent.fact 0 rfl) (LentAll.cons (Lent.fact 1 rfl) (LentAll.nil))) (fun _ _ => rfl)) rfl (fun x28 => (BsOk.b rfl (BsOk.b rfl (BsOk.b rfl (BsOk.b rfl (BsOk.b rfl (BsOk.b rfl (BsOk.b rfl (BsOk.b rfl BsOk.z))))))))) fun x28 => ?_
          refine JR.qtG rfl (SubM.cons 2 rfl (SubM.nil)) (SubL.nil) (Y.loadBAll 0 rfl rfl rfl rfl) (HistOk.h (SubM.cons 2 rfl (SubM.nil)) (SubL.nil) (HistOk.b rfl (HistOk.b rfl (HistOk.b rfl (HistOk.b rfl HistOk.z))))) ?_
          replace h := bnd h; obtain ⟨r29, hr30, h⟩ := h
          refine JR.loudG rfl rfl rfl rfl (Loud.callL body55 (t_ref01_Connected fuel v0 v1 z2 r29 hr30) rfl (LentAll.cons (Lent.fact 0 rfl) (LentAll.cons (Lent.fact 1 rfl) (LentAll.nil))) (fun _ _ => rfl)) rfl (fun x31 => (BsOk.b rfl (BsOk.b rfl (BsOk.b rfl (BsOk.b rfl (BsOk.b rfl (BsOk.b rfl (BsOk.b rfl (BsOk.b rfl (BsOk.b rfl BsOk.z)))))))))) fun x31 => ?_
          refine JR.qtG rfl (SubM.nil) (SubL.nil) (Y.eqlB rfl rfl rfl) (HistOk.b rfl (HistOk.b rfl (HistOk.b rfl (HistOk.b rfl (HistOk.b rfl (HistOk.b rfl HistOk.z)))))) ?_
          refine JR.qt rfl (SubM.nil) (SubL.nil) (Y.pickT rfl rfl) (HistOk.b rfl (HistOk.b rfl (HistOk.b rfl (HistOk.b rfl (HistOk.b rfl (HistOk.b rfl HistOk.z)))))) ?_
          refine JR.qt rfl (SubM.nil) (SubL.nil) (Y.move rfl) (HistOk.b rfl (HistOk.b rfl (HistOk.b rfl (HistOk.b rfl (HistOk.b rfl (HistOk.b rfl HistOk.z)))))) ?_
          refine JR.guard (by exact rfl) (by exact rfl) (by exact rfl) (fun hp32 => ?_) (fun hp32 => ?_)
          · replace h := ifP hp32 h
            refine JR.qtG rfl (SubM.cons 2 rfl (SubM.nil)) (SubL.nil) (Y.loadBAll 0 rfl rfl rfl rfl) (HistOk.b rfl (HistOk.b rfl (HistOk.b rfl (HistOk.b rfl (HistOk.b rfl (HistOk.b rfl HistOk.z)))))) ?_
            refine JR.qtG rfl (SubM.nil) (SubL.nil) (Y.move rfl) (HistOk.b rfl (HistOk.b rfl (HistOk.b rfl (HistOk.b rfl (HistOk.b rfl (HistOk.b rfl HistOk.z)))))) ?_
            replace h := bnd h; obtain ⟨r33, hr34, h⟩ := h
            refine JR.loudG rfl rfl rfl rfl (Loud.callL body38 (t_graph_Eccentricity fuel v0 v1 z2 r33 hr34) rfl (LentAll.cons (Lent.fact 0 rfl) (LentAll.cons (Lent.fact 1 rfl) (LentAll.nil))) (fun _ _ => rfl)) rfl (fun x35 => (BsOk.b rfl (BsOk.b rfl (BsOk.b rfl (BsOk.b rfl (BsOk.b rfl (BsOk.b rfl (BsOk.b rfl (BsOk.b rfl (BsOk.b rfl (BsOk.b rfl (BsOk.b rfl (BsOk.b rfl (BsOk.b rfl (BsOk.b rfl BsOk.z))))))))))))))) fun x35 => ?_
            refine JR.qtG rfl (SubM.cons 2 rfl (SubM.nil)) (SubL.nil) (Y.loadBAll 0 rfl rfl rfl rfl) (HistOk.h (SubM.cons 2 rfl (SubM.nil)) (SubL.nil) (HistOk.b rfl (HistOk.b rfl (HistOk.b rfl (HistOk.b rfl (HistOk.b rfl (HistOk.b rfl HistOk.z))))))) ?_
            refine JR.qtG rfl (SubM.nil) (SubL.nil) (Y.move rfl) (HistOk.h (SubM.nil) (SubL.nil) (HistOk.b rfl (HistOk.b rfl (HistOk.b rfl (HistOk.b rfl (HistOk.b rfl (HistOk.b rfl HistOk.z))))))) ?_
            replace h := bnd h; obtain ⟨r36, hr37, h⟩ := h
            refine JR.loudG rfl rfl rfl rfl (Loud.callL body56 (t_ref01_Eccentricity fuel v0 v1 z2 r36 hr37) rfl (LentAll.cons (Lent.fact 0 rfl) (LentAll.cons (Lent.fact 1 rfl) (LentAll.nil))) (fun _ _ => rfl)) rfl (fun x38 => (BsOk.b rfl (BsOk.b rfl (BsOk.b rfl (BsOk.b rfl (BsOk.b rfl (BsOk.b rfl (BsOk.b rfl (BsOk.b rfl (BsOk.b rfl (BsOk.b rfl (BsOk.b rfl (BsOk.b rfl (BsOk.b rfl (BsOk.b rfl (BsOk.b rfl (BsOk.b rfl BsOk.z))))))))))))))))) fun x38 => ?_
            refine JR.qtG rfl (SubM.nil) (SubL.nil) (Y.eql rfl rfl) (HistOk.b rfl (HistOk.b rfl (HistOk.b rfl (HistOk.b rfl (HistOk.b rfl (HistOk.b rfl (HistOk.b rfl (HistOk.b rfl HistOk.z)))))))) ?_
            refine JR.qt rfl (SubM.nil) (SubL.nil) (Y.pickT rfl rfl) (HistOk.b rfl (HistOk.b rfl (HistOk.b rfl (HistOk.b rfl (HistOk.b rfl (HistOk.b rfl (HistOk.b rfl (HistOk.b rfl HistOk.z)))))))) ?_
            refine JR.qt rfl (SubM.nil) (SubL.nil) (Y.move rfl) (HistOk.b rfl (HistOk.b rfl (HistOk.b rfl (HistOk.b rfl (HistOk.b rfl (HistOk.b rfl (HistOk.b rfl (HistOk.b rfl HistOk.z)))))))) ?_
            refine JR.guardD (by exact rfl) (by exact rfl) (by exact rfl) (fun hp39 => ?_) (fun hp39 => ?_)
            · replace h := ifP hp39 h
              refine JR.qtG rfl (SubM.cons 2 rfl (SubM.nil)) (SubL.nil) (Y.loadBAll 0 rfl rfl rfl rfl) (HistOk.b rfl (HistOk.b rfl (HistOk.b rfl (HistOk.b rfl (HistOk.b rfl (HistOk.b rfl (HistOk.b rfl (HistOk.b rfl HistOk.z)))))))) ?_
              replace h := bnd h; obtain ⟨r40, hr41, h⟩ := h
              refine JR.loudG rfl rfl rfl rfl (Loud.callL body36 (t_graph_Diameter fuel v0 v1 z2 r40 hr41) rfl (LentAll.cons (Lent.fact 0 rfl) (LentAll.cons (Lent.fact 1 rfl) (LentAll.nil))) (fun _ _ => rfl)) rfl (fun x42 => (BsOk.b rfl (BsOk.b rfl (BsOk.b rfl (BsOk.b rfl (BsOk.b rfl (BsOk.b rfl (BsOk.b rfl (BsOk.b rfl (BsOk.b rfl (BsOk.b rfl (BsOk.b rfl (BsOk.b rfl (BsOk.b rfl (BsOk.b rfl (BsOk.b rfl (BsOk.b rfl (BsOk.b rfl (BsOk.b rfl (BsOk.b rfl (BsOk.b rfl BsOk.z))))))))))))))))))))) fun x42 => ?_
              refine JR.qtG rfl (SubM.cons 2 rfl (SubM.nil)) (SubL.nil) (Y.loadBAll 0 rfl rfl rfl rfl) (HistOk.h (SubM.cons 2 rfl (SubM.nil)) (SubL.nil) (HistOk.b rfl (HistOk.b rfl (HistOk.b rfl (HistOk.b rfl (HistOk.b rfl (HistOk.b rfl (HistOk.b rfl (HistOk.b rfl HistOk.z))))))))) ?_
              replace h := bnd h; obtain ⟨r43, hr44, h⟩ := h
              refine JR.loudG rfl rfl rfl rfl (Loud.callL body57 (t_ref01_Diameter fuel v0 v1 z2 r43 hr44) rfl (LentAll.cons (Lent.fact 0 rfl) (LentAll.cons (Lent.fact 1 rfl) (LentAll.nil))) (fun _ _ => rfl)) rfl (fun x45 => (BsOk.b rfl (BsOk.b rfl (BsOk.b rfl (BsOk.b rfl (BsOk.b rfl (BsOk.b rfl (BsOk.b rfl (BsOk.b rfl (BsOk.b rfl (BsOk.b rfl (BsOk.b rfl (BsOk.b rfl (BsOk.b rfl (BsOk.b rfl (BsOk.b rfl (BsOk.b rfl (BsOk.b rfl (BsOk.b rfl (BsOk.b rfl (BsOk.b rfl (BsOk.b rfl BsOk.z)))))))))))))))))))))) fun x45 => ?_
              refine JR.qtG rfl (SubM.nil) (SubL.nil) (Y.eql rfl rfl) (HistOk.b rfl (HistOk.b rfl (HistOk.b rfl (HistOk.b rfl (HistOk.b rfl (HistOk.b rfl (HistOk.b rfl (HistOk.b rfl (HistOk.b rfl (HistOk.b rfl HistOk.z)))))))))) ?_
              refine JR.qt rfl (SubM.nil) (SubL.nil) (Y.pickT rfl rfl) (HistOk.b rfl (HistOk.b rfl (HistOk.b rfl (HistOk.b rfl (HistOk.b rfl (HistOk.b rfl (HistOk.b rfl (HistOk.b rfl (HistOk.b rfl (HistOk.b rfl HistOk.z)))))))))) ?_
              refine JR.qt rfl (SubM.nil) (SubL.nil) (Y.move rfl) (HistOk.b rfl (HistOk.b rfl (HistOk.b rfl (HistOk.b rfl (HistOk.b rfl (HistOk.b rfl (HistOk.b rfl (HistOk.b rfl (HistOk.b rfl (HistOk.b rfl HistOk.z)))))))))) ?_
              refine JR.guardD (by exact rfl) (by exact rfl) (by exact rfl) (fun hp46 => ?_) (fun hp46 => ?_)
              · replace h := ifP hp46 h
                refine JR.qtG rfl (SubM.cons 2 rfl (SubM.nil)) (SubL.nil) (Y.loadBAll 0 rfl rfl rfl rfl) (HistOk.b rfl (HistOk.b rfl (HistOk.b rfl (HistOk.b rfl (HistOk.b rfl (HistOk.b rfl (HistOk.b rfl (HistOk.b rfl (HistOk.b rfl (HistOk.b rfl HistOk.z)))))))))) ?_
                replace h := bnd h; obtain ⟨r47, hr48, h⟩ := h
                refine JR.loudG rfl rfl rfl rfl (Loud.callL body41 (t_graph_Tree fuel v0 v1 z2 r47 hr48) rfl (LentAll.cons (Lent.fact 0 rfl) (LentAll.cons (Lent.fact 1 rfl) (LentAll.nil))) (fun _ _ => rfl)) rfl (fun x49 => (BsOk.b rfl (BsOk.b rfl (BsOk.b rfl (BsOk.b rfl (BsOk.b rfl (BsOk.b rfl (BsOk.b rfl (BsOk.b rfl (BsOk.b rfl (BsOk.b rfl (BsOk.b rfl (BsOk.b rfl (BsOk.b rfl (BsOk.b rfl (BsOk.b rfl (BsOk.b rfl (BsOk.b rfl (BsOk.b rfl (BsOk.b rfl (BsOk.b rfl (BsOk.b rfl (BsOk.b rfl (BsOk.b rfl (BsOk.b rfl (BsOk.b rfl BsOk.z)))))))))))))))))))))))))) fun x49 => ?_
                refine JR.qtG rfl (SubM.cons 2 rfl (SubM.nil)) (SubL.nil) (Y.loadBAll 0 rfl rfl rfl rfl) (HistOk.h (SubM.cons 2 rfl (SubM.nil)) (SubL.nil) (HistOk.b rfl (HistOk.b rfl (HistOk.b rfl (HistOk.b rfl (HistOk.b rfl (HistOk.b rfl (HistOk.b rfl (HistOk.b rfl (HistOk.b rfl (HistOk.b rfl HistOk.z))))))))))) ?_
                refine JR.tailD 37 rfl rfl ?_
                replace h := bnd h; obtain ⟨r50, hr51, h⟩ := h
                refine J.loudG rfl (Loud.callL body58 (t_ref01_Tree fuel v0 v1 z2 r50 hr51) rfl (LentAll.cons (Lent.fact 0 rfl) (LentAll.cons (Lent.fact 1 rfl) (LentAll.nil))) (fun _ _ => rfl)) rfl fun x52 => ?_
                refine J.guardY rfl (Y.eqlB rfl rfl rfl) rfl ?_
                refine J.quiet (Y.pickT rfl rfl) rfl ?_
                refine J.quiet (Y.assign rfl) rfl ?_
                refine J.done ?_
                refine J.thenN ?_
                exact J.meetI ((r47 == r50)) (()) h (by repeat (first | exact SubF.nil | refine SubF.cons rfl ?_)) (SubM.nil) (LentAll.refl _ _)
              · replace h := ifN hp46 h
                refine JR.guardN rfl rfl rfl rfl ?_
                refine JR.guardN rfl rfl rfl rfl ?_
                refine JR.guardN rfl rfl rfl rfl ?_
                refine JR.tailD 37 rfl rfl ?_
                refine J.guardN rfl rfl rfl ?_
                refine J.guardN rfl rfl rfl ?_
                refine J.quiet (Y.pickF rfl rfl) rfl ?_
                refine J.quiet (Y.assign rfl) rfl ?_
                refine J.done ?_
                refine J.thenN ?_
                exact J.meetI (false) (()) h (by repeat (first | exact SubF.nil | refine SubF.cons rfl ?_)) (SubM.nil) (LentAll.refl _ _)
            · replace h := ifN hp39 h
              refine JR.guardN rfl rfl rfl rfl ?_
              refine JR.guardN rfl rfl rfl rfl ?_
              refine JR.guardN rfl rfl rfl rfl ?_
              refine JR.guardN rfl rfl rfl rfl ?_
              refine JR.guardN rfl rfl rfl rfl ?_
              refine JR.qt rfl (SubM.nil) (SubL.nil) (Y.pickF rfl rfl) (HistOk.b rfl (HistOk.b rfl (HistOk.b rfl (HistOk.b rfl (HistOk.b rfl (HistOk.b rfl (HistOk.b rfl (HistOk.b rfl HistOk.z)))))))) ?_
              refine JR.qt rfl (SubM.nil) (SubL.nil) (Y.move rfl) (HistOk.b rfl (HistOk.b rfl (HistOk.b rfl (HistOk.b rfl (HistOk.b rfl (HistOk.b rfl (HistOk.b rfl (HistOk.b rfl HistOk.z)))))))) ?_
              refine JR.guardN rfl rfl rfl rfl ?_
              refine JR.guardN rfl rfl rfl rfl ?_
              refine JR.guardN rfl rfl rfl rfl ?_
              refine JR.tailD 37 rfl rfl ?_
              refine J.guardN rfl rfl rfl ?_
              refine J.guardN rfl rfl rfl ?_
              refine J.quiet (Y.pickF rfl rfl) rfl ?_
              refine J.quiet (Y.assign rfl) rfl ?_
              refine J.done ?_
              refine J.thenN ?_
              exact J.meetI (false) (()) h (by repeat (first | exact SubF.nil | refine SubF.cons rfl ?_)) (SubM.nil) (LentAll.refl _ _)
          · replace h := ifBN hp32 h
            refine JR.guardN rfl rfl rfl rfl ?_
            refine JR.guardN rfl rfl rfl rfl ?_
            refine JR.guardN rfl rfl rfl rfl ?_
            refine JR.guardN rfl rfl rfl rfl ?_
            refine JR.guardN rfl rfl rfl rfl ?_
            refine JR.guardN rfl rfl rfl rfl ?_
            refine JR.guardN rfl rfl rfl rfl ?_
            refine JR.qt rfl (SubM.nil) (SubL.nil) (Y.pickF rfl rfl) (HistOk.b rfl (HistOk.b rfl (HistOk.b rfl (HistOk.b rfl (HistOk.b rfl (HistOk.b rfl HistOk.z)))))) ?_
            refine JR.qt rfl (SubM.nil) (SubL.nil) (Y.move rfl) (HistOk.b rfl (HistOk.b rfl (HistOk.b rfl (HistOk.b rfl (HistOk.b rfl (HistOk.b rfl HistOk.z)))))) ?_
            refine JR.guardN rfl rfl rfl rfl ?_
            refine JR.guardN rfl rfl rfl rfl ?_
            refine JR.guardN rfl rfl rfl rfl ?_
            refine JR.guardN rfl rfl rfl rfl ?_
            refine JR.guardN rfl rfl rfl rfl ?_
            refine JR.qt rfl (SubM.nil) (SubL.nil) (Y.pickF rfl rfl) (HistOk.b rfl (HistOk.b rfl (HistOk.b rfl (HistOk.b rfl (HistOk.b rfl (HistOk.b rfl HistOk.z)))))) ?_
            refine JR.qt rfl (SubM.nil) (SubL.nil) (Y.move rfl) (HistOk.b rfl (HistOk.b rfl (HistOk.b rfl (HistOk.b rfl (HistOk.b rfl (HistOk.b rfl HistOk.z)))))) ?_
            refine JR.guardN rfl rfl rfl rfl ?_
            refine JR.guardN rfl rfl rfl rfl ?_
            refine JR.guardN rfl rfl rfl rfl ?_
            refine JR.tailD 37 rfl rfl ?_
            refine J.guardN rfl rfl rfl ?_
            refine J.guardN rfl rfl rfl ?_
            refine J.quiet (Y.pickF rfl rfl) rfl ?_
            refine J.quiet (Y.assign rfl) rfl ?_
            refine J.done ?_
            refine J.thenN ?_
            exact J.meetI (false) (()) h (by repeat (first | exact SubF.nil | refine SubF.cons rfl ?_)) (SubM.nil) (LentAll.refl _ _)
        · replace h := ifBN hp25 h
          refine JR.guardN rfl rfl rfl rfl ?_
          refine JR.guardN rfl rfl rfl rfl ?_
          refine JR.guardN rfl rfl rfl rfl ?_
          refine JR.guardN rfl rfl rfl rfl ?_
          refine JR.guardN rfl rfl rfl rfl ?_
          refine JR.qt rfl (SubM.nil) (SubL.nil) (Y.pickF rfl rfl) (HistOk.b rfl (HistOk.b rfl (HistOk.b rfl (HistOk.b rfl HistOk.z)))) ?_
          refine JR.qt rfl (SubM.nil) (SubL.nil) (Y.move rfl) (HistOk.b rfl (HistOk.b rfl (HistOk.b rfl (HistOk.b rfl HistOk.z)))) ?_
          refine JR.guardN rfl rfl rfl rfl ?_
          refine JR.guardN rfl rfl rfl rfl ?_
          refine JR.guardN rfl rfl rfl rfl ?_
          refine JR.guardN rfl rfl rfl rfl ?_
          refine JR.guardN rfl rfl rfl rfl ?_
          refine JR.guardN rfl rfl rfl rfl ?_
          refine JR.guardN rfl rfl rfl rfl ?_
          refine JR.qt rfl (SubM.nil) (SubL.nil) (Y.pickF rfl rfl) (HistOk.b rfl (HistOk.b rfl (HistOk.b rfl (HistOk.b rfl HistOk.z)))) ?_
          refine JR.qt rfl (SubM.nil) (SubL.nil) (Y.move rfl) (HistOk.b rfl (HistOk.b rfl (HistOk.b rfl (HistOk.b rfl HistOk.z)))) ?_
          refine JR.guardN rfl rfl rfl rfl ?_
          refine JR.guardN rfl rfl rfl rfl ?_
          refine JR.guardN rfl rfl rfl rfl ?_
          refine JR.guardN rfl rfl rfl rfl ?_
          refine JR.guardN rfl rfl rfl rfl ?_
          refine JR.qt rfl (SubM.nil) (SubL.nil) (Y.pickF rfl rfl) (HistOk.b rfl (HistOk.b rfl (HistOk.b rfl (HistOk.b rfl HistOk.z)))) ?_
          refine JR.qt rfl (SubM.nil) (SubL.nil) (Y.move rfl) (HistOk.b rfl (HistOk.b rfl (HistOk.b rfl (HistOk.b rfl HistOk.z)))) ?_
          refine JR.guardN rfl rfl rfl rfl ?_
          refine JR.guardN rfl rfl rfl rfl ?_
          refine JR.guardN rfl rfl rfl rfl ?_
          refine JR.tailD 37 rfl rfl ?_
          refine J.guardN rfl rfl rfl ?_
          refine J.guardN rfl rfl rfl ?_
          refine J.quiet (Y.pickF rfl rfl) rfl ?_
          refine J.quiet (Y.assign rfl) rfl ?_
          refine J.done ?_
          refine J.thenN ?_
          exact J.meetI (false) (()) h (by repeat (first | exact SubF.nil | refine SubF.cons rfl ?_)) (SubM.nil) (LentAll.refl _ _)
      · replace h := ifBN hp15 h
        refine JR.guardN rfl rfl rfl rfl ?_
        refine JR.guardN rfl rfl rfl rfl ?_
        refine JR.guardN rfl rfl rfl rfl ?_
        refine JR.guardN rfl rfl rfl rfl ?_
        refine JR.guardN rfl rfl rfl rfl ?_
        refine JR.guardN rfl rfl rfl rfl ?_
        refine JR.guardN rfl rfl rfl rfl ?_
        refine JR.qt rfl (SubM.nil) (SubL.nil) (Y.pickF rfl rfl) (HistOk.b rfl HistOk.z) ?_
        refine JR.qt rfl (SubM.nil) (SubL.nil) (Y.move rfl) (HistOk.b rfl HistOk.z) ?_
        refine JR.guardN rfl rfl rfl rfl ?_
        refine JR.guardN rfl rfl rfl rfl ?_
        refine JR.guardN rfl rfl rfl rfl ?_
        refine JR.guardN rfl rfl rfl rfl ?_
        refine JR.guardN rfl rfl rfl rfl ?_
        refine JR.qt rfl (SubM.nil) (SubL.nil) (Y.pickF rfl rfl) (HistOk.b rfl HistOk.z) ?_
        refine JR.qt rfl (SubM.nil) (SubL.nil) (Y.move rfl) (HistOk.b rfl HistOk.z) ?_
        refine JR.guardN rfl rfl rfl rfl ?_
        refine JR.guardN rfl rfl rfl rfl ?_
        refine JR.guardN rfl rfl rfl rfl ?_
        refine JR.guardN rfl rfl rfl rfl ?_
        refine JR.guardN rfl rfl rfl rfl ?_
        refine JR.guardN rfl rfl rfl rfl ?_
        refine JR.guardN rfl rfl rfl rfl ?_
        refine JR.qt rfl (SubM.nil) (SubL.nil) (Y.pickF rfl rfl) (HistOk.b rfl HistOk.z) ?_
        refine JR.qt rfl (SubM.nil) (SubL.nil) (Y.move rfl) (HistOk.b rfl HistOk.z) ?_
        refine JR.guardN rfl rfl rfl rfl ?_
        refine JR.guardN rfl rfl rfl rfl ?_
        refine JR.guardN rfl rfl rfl rfl ?_
        refine JR.guardN rfl rfl rfl rfl ?_
        refine JR.guardN rfl rfl rfl rfl ?_
        refine JR.qt rfl (SubM.nil) (SubL.nil) (Y.pickF rfl rfl) (HistOk.b rfl HistOk.z) ?_
        refine JR.qt rfl (SubM.nil) (SubL.nil) (Y.move rfl) (HistOk.b rfl HistOk.z) ?_
        refine JR.guardN rfl rfl rfl rfl ?_
        refine JR.guardN rfl rfl rfl rfl ?_
        refine JR.guardN rfl rfl rfl rfl ?_
        refine JR.tailD 37 rfl rfl ?_
        refine J.guardN rfl rfl rfl ?_
        refine J.guardN rfl rfl rfl ?_
        refine J.quiet (Y.pickF rfl rfl) rfl ?_
        refine J.quiet (Y.assign rfl) rfl ?_
        refine J.done ?_
        refine J.thenN ?_
        exact J.meetI (false) (()) h (by repeat (first | exact SubF.nil | refine SubF.cons rfl ?_)) (SubM.nil) (LentAll.refl _ _)
    · clear h
      intro a10 b11 h
      unfold law01_GraphMeasures_k1 at h
      refine J.ret ?_
      obtain rfl := Option.some.inj h
      exact J.retG1 (()) rfl rfl (RV.tmp rfl) (SubM.refl _) LentAll.nil

end Go.Proofs.Ytemhmmcakmidkaa
end
section
namespace Go.Proofs.Ytemhmmcakmidkaa
open Go.Sx
set_option linter.unusedVariables false
set_option linter.unusedSimpArgs false

def m_graph_All (fuel : Nat) (p0 : List (Int) × (List (List (Int × Int)))) : Option (Int) :=
  ck (0 ≤ (List.length p0.1 : Int)) (some (wI .u32 ((bShl .u32 (1 : Int) (List.length p0.1 : Int)) - (1 : Int))))

theorem body84 : HasBody Try.prog 84 := Try.call84

set_option maxHeartbeats 4000000 in
set_option maxRecDepth 20000 in
theorem t_graph_All (fuel : Nat) {p0 : List (Int) × (List (List (Int × Int)))} (v0 : Value)  (v1 : Value)  (z2 : List (Value × List (Int × Int))) (r : Int) (h : m_graph_All fuel p0 = some r) :
    Meets Try.prog 84 #[Value.agg #[v0, v1]] [Sl RI64 v0 p0.1, S2 RI64I64p v1 z2 p0.2] (fun x : Unit => Value.int .u32 (r)) (fun x l => l) (fun _ l => l) := by
  refine Meets.of (vs := [Value.agg #[v0, v1]]) Try.func84 rfl Try.ntmps84 rfl fun c => ?_
  unfold m_graph_All at h
  refine J.seq ?_
  refine J.region ?_
  refine J.loud (Loud.box (cs := [v0, v1]) rfl rfl) rfl fun b1 => ?_
  refine J.quiet (Y.assign rfl) rfl ?_
  refine J.done ?_
  refine J.thenN ?_
  refine J.seq ?_
  refine J.region ?_
  refine J.quiet (Y.fieldB rfl rfl rfl rfl rfl) rfl ?_
  refine J.quiet (Y.loadB 0 rfl rfl rfl rfl rfl) rfl ?_
  refine J.quiet (Y.lenS rfl (Lent.fact 0 rfl) rfl) rfl ?_
  replace h := ck_some h; obtain ⟨hc2, h⟩ := h
  refine J.quiet (Y.shl rfl rfl hc2) rfl ?_
  refine J.quiet (Y.subW rfl rfl) rfl ?_
  refine J.quiet (Y.assign rfl) rfl ?_
  refine J.done ?_
  refine J.thenN ?_
  refine J.ret ?_
  obtain rfl := Option.some.inj h
  exact J.retG1 (()) rfl rfl (RV.tmp rfl) (SubM.nil) LentAll.nil

end Go.Proofs.Ytemhmmcakmidkaa
end
section
namespace Go.Proofs.Ytemhmmcakmidkaa
open Go.Sx
set_option linter.unusedVariables false
set_option linter.unusedSimpArgs false

def graph_around_k1  (a3 : Int) : Option (Int) :=
  some (a3)
def graph_around_k2 (a8 : Int × Int) (ag7 : (Int × Int) → Option (Int)) (a13 : Int) : Option (Int) :=
  ag7 (a13, (wI .i64 (a8.2 + (1 : Int))))
def graph_around_k3 (a19 : Int × Int) (ag18 : (Int × Int) → Option (Int)) (a24 : Int) : Option (Int) :=
  ag18 (a24, (wI .i64 (a19.2 + (1 : Int))))
def graph_around_s2 (p0 : List (Int) × (List (List (Int × Int)))) (p1 : Int) (a8 : Int × Int) (ag7 : (Int × Int) → Option (Int)) (a19 : Int × Int) (ag18 : (Int × Int) → Option (Int)) : Option (Int) :=
  if a19.2 < (List.length (at' p0.2 a8.2) : Int) then (ck (0 ≤ a19.2 ∧ a19.2 < (List.length (at' p0.2 a8.2) : Int)) (ck (0 ≤ ((at' (at' p0.2 a8.2) a19.2).1)) (if (bAnd .u32 (bShr .u32 p1 ((at' (at' p0.2 a8.2) a19.2).1)) (1 : Int)) = (1 : Int) then (ck (0 ≤ a8.2) (graph_around_k3 a19 ag18 (bOr .u32 a19.1 (bShl .u32 (1 : Int) a8.2)))) else (graph_around_k3 a19 ag18 (a19.1))))) else (graph_around_k2 a8 ag7 (a19.1))
def graph_around_s1 (fuel : Nat) (p0 : List (Int) × (List (List (Int × Int)))) (p1 : Int) (a8 : Int × Int) (ag7 : (Int × Int) → Option (Int)) : Option (Int) :=
  if a8.2 < (List.length p0.2 : Int) then (ck (0 ≤ a8.2 ∧ a8.2 < (List.length p0.2 : Int)) (iter (graph_around_s2 p0 p1 a8 ag7) fuel (a8.1, (0 : Int)))) else (graph_around_k1  (a8.1))
def m_graph_around (fuel : Nat) (p0 : List (Int) × (List (List (Int × Int)))) (p1 : Int) : Option (Int) :=
  iter (graph_around_s1 fuel p0 p1) fuel ((0 : Int), (0 : Int))

theorem body85 : HasBody Try.prog 85 := Try.call85

set_option maxHeartbeats 4000000 in
set_option maxRecDepth 20000 in
theorem t_graph_around (fuel : Nat) {p0 : List (Int) × (List (List (Int × Int)))} {p1 : Int} (v0 : Value)  (v1 : Value)  (z2 : List (Value × List (Int × Int))) (r : Int) (h : m_graph_around fuel p0 p1 = some r) :
    Meets Try.prog 85 #[Value.agg #[v0, v1], Value.int .u32 (p1)] [Sl RI64 v0 p0.1, S2 RI64I64p v1 z2 p0.2] (fun x : Unit => Value.int .u32 (r)) (fun x l => l) (fun _ l => l) := by
  refine Meets.of (vs := [Value.agg #[v0, v1], Value.int .u32 (p1)]) Try.func85 rfl Try.ntmps85 rfl fun c => ?_
  unfold m_graph_around at h
  refine J.seq ?_
  refine J.region ?_
  refine J.loud (Loud.box (cs := [v0, v1]) rfl rfl) rfl fun b1 => ?_
  refine J.quiet (Y.assign rfl) rfl ?_
  refine J.done ?_
  refine J.thenN ?_
  refine J.seq ?_
  refine J.region ?_
  refine J.quiet (Y.assign rfl) rfl ?_
  refine J.done ?_
  refine J.thenN ?_
  refine J.seq ?_
  refine J.midI (A := Int) (B := Unit) (fun a3 => graph_around_k1  a3 = some r) (fun a3 b4 => [(5, Value.int .u32 (a3))]) (fun a3 b4 => []) (fun a3 b4 => [Sl RI64 v0 p0.1, S2 RI64I64p v1 z2 p0.2]) ?_ ?_
  · refine J.seq ?_
    refine J.region ?_
    refine J.quiet (Y.fieldB rfl rfl rfl rfl rfl) rfl ?_
    refine J.quiet (Y.loadB 0 rfl rfl rfl rfl rfl) rfl ?_
    refine J.quiet (Y.lenN rfl (Lent.fact 1 rfl) rfl) rfl ?_
    refine J.quiet (Y.move rfl) rfl ?_
    refine J.done ?_
    refine J.thenN ?_
    refine J.block ?_
    refine J.loopI (A := Int × Int) (B := Unit) (graph_around_s1 fuel p0 p1) (fun a8 b9 => [(1, Value.int .u32 (p1)), (5, Value.int .u32 (a8.1)), (11, v1), (12, Value.int .i64 (List.length p0.2 : Int)), (13, Value.int .i64 (a8.2))]) (fun a8 b9 => []) (fun a8 b9 => [Sl RI64 v0 p0.1, S2 RI64I64p v1 z2 p0.2]) ((0 : Int), (0 : Int)) (()) h (by repeat (first | exact SubF.nil | refine SubF.cons rfl ?_)) (SubM.nil) (LentAll.refl _ _) ?_
    clear h
    intro k10 a8 b9 h
    unfold graph_around_s1 at h
    refine J.seq ?_
    refine J.region ?_
    refine J.quiet (Y.lss rfl rfl) rfl ?_
    refine J.done ?_
    refine J.thenN ?_
    refine J.seq ?_
    refine J.condD (by exact rfl) (fun hp11 => ?_) (fun hp11 => ?_)
    · replace h := ifP hp11 h
      refine J.skip ?_
      refine J.thenN ?_
      refine J.seq ?_
      refine J.midI (A := Int) (B := Unit) (fun a13 => graph_around_k2 a8 (iter (graph_around_s1 fuel p0 p1) k10) a13 = some r) (fun a13 b14 => [(1, Value.int .u32 (p1)), (5, Value.int .u32 (a13)), (11, v1), (12, Value.int .i64 (List.length p0.2 : Int)), (13, Value.int .i64 (a8.2))]) (fun a13 b14 => []) (fun a13 b14 => [Sl RI64 v0 p0.1, S2 RI64I64p v1 z2 p0.2]) ?_ ?_
      · refine J.block ?_
        refine J.seq ?_
        refine J.region ?_
        refine J.quiet (Y.move rfl) rfl ?_
        replace h := ck_some h; obtain ⟨hc15, h⟩ := h
        refine J.quiet (Y.indexN rfl rfl (Lent.fact 1 rfl) rfl rfl hc15) rfl ?_
        refine J.quiet (Y.loadRow rfl (Lent.fact 1 rfl) rfl rfl hc15) rfl ?_
        refine J.quiet (Y.assign rfl) rfl ?_
        refine J.quiet (Y.assign rfl) rfl ?_
        refine J.done ?_
        refine J.thenN ?_
        refine J.seq ?_
        refine J.region ?_
        refine J.quiet (Y.move rfl) rfl ?_
        refine J.quiet (Y.lenS rfl (Lent.el (Lent.fact 1 rfl) hc15.1 hc15.2) rfl) rfl ?_
        refine J.quiet (Y.move rfl) rfl ?_
        refine J.done ?_
        refine J.thenN ?_
        refine J.block ?_
        refine J.loopI (A := Int × Int) (B := Unit) (graph_around_s2 p0 p1 a8 (iter (graph_around_s1 fuel p0 p1) k10)) (fun a19 b20 => [(1, Value.int .u32 (p1)), (5, Value.int .u32 (a19.1)), (6, Value.int .i64 (a8.2)), (11, v1), (12, Value.int .i64 (List.length p0.2 : Int)), (13, Value.int .i64 (a8.2)), (18, (at' z2 a8.2).1), (19, Value.int .i64 (List.length (at' p0.2 a8.2) : Int)), (20, Value.int .i64 (a19.2))]) (fun a19 b20 => []) (fun a19 b20 => [Sl RI64 v0 p0.1, S2 RI64I64p v1 z2 p0.2]) (a8.1, (0 : Int)) (()) h (by repeat (first | exact SubF.nil | refine SubF.cons rfl ?_)) (SubM.refl _) (LentAll.refl _ _) ?_
        clear h
        intro k21 a19 b20 h
        unfold graph_around_s2 at h
        refine J.seq ?_
        refine J.region ?_
        refine J.quiet (Y.lss rfl rfl) rfl ?_
        refine J.done ?_
        refine J.thenN ?_
        refine J.seq ?_
        refine J.condD (by exact rfl) (fun hp22 => ?_) (fun hp22 => ?_)
        · replace h := ifP hp22 h
          refine J.skip ?_
          refine J.thenN ?_
          refine J.seq ?_
          refine J.midI (A := Int) (B := Unit) (fun a24 => graph_around_k3 a19 (iter (graph_around_s2 p0 p1 a8 (iter (graph_around_s1 fuel p0 p1) k10)) k21) a24 = some r) (fun a24 b25 => [(1, Value.int .u32 (p1)), (5, Value.int .u32 (a24)), (6, Value.int .i64 (a8.2)), (11, v1), (12, Value.int .i64 (List.length p0.2 : Int)), (13, Value.int .i64 (a8.2)), (18, (at' z2 a8.2).1), (19, Value.int .i64 (List.length (at' p0.2 a8.2) : Int)), (20, Value.int .i64 (a19.2))]) (fun a24 b25 => []) (fun a24 b25 => [Sl RI64 v0 p0.1, S2 RI64I64p v1 z2 p0.2]) ?_ ?_
          · refine J.block ?_
            refine J.seq ?_
            refine J.region ?_
            replace h := ck_some h; obtain ⟨hc26, h⟩ := h
            refine J.quiet (Y.indexS rfl rfl (Lent.el (Lent.fact 1 rfl) hc15.1 hc15.2) rfl rfl hc26) rfl ?_
            refine J.quiet (Y.loadAggS (cs := [Value.int .i64 ((at' (at' p0.2 a8.2) a19.2).1), Value.int .i64 ((at' (at' p0.2 a8.2) a19.2).2)]) rfl (Lent.el (Lent.fact 1 rfl) hc15.1 hc15.2) FI64I64p rfl rfl rfl rfl hc26) rfl ?_
            refine J.loud (Loud.alloc (cs := [Value.int .i64 (0 : Int), Value.int .i64 (0 : Int)]) rfl rfl) rfl fun b27 => ?_
            refine J.storeAll 0 (vs := [Value.int .i64 ((at' (at' p0.2 a8.2) a19.2).1), Value.int .i64 ((at' (at' p0.2 a8.2) a19.2).2)]) rfl rfl rfl rfl rfl rfl ?_
            refine J.done ?_
            refine J.thenN ?_
            refine J.seq ?_
            refine J.region ?_
            refine J.quiet (Y.move rfl) rfl ?_
            refine J.quiet (Y.fieldB rfl rfl rfl rfl rfl) rfl ?_
            refine J.quiet (Y.loadB 0 rfl rfl rfl rfl rfl) rfl ?_
            replace h := ck_some h; obtain ⟨hc28, h⟩ := h
            refine J.quiet (Y.shr rfl rfl hc28) rfl ?_
            refine J.quiet (Y.and rfl rfl) rfl ?_
            refine J.quiet (Y.eql rfl rfl) rfl ?_
            refine J.done ?_
            refine J.thenN ?_
            refine J.condD (by exact rfl) (fun hp29 => ?_) (fun hp29 => ?_)
            · replace h := ifP hp29 h
              refine J.region ?_
              refine J.quiet (Y.move rfl) rfl ?_
              refine J.quiet (Y.move rfl) rfl ?_
              replace h := ck_some h; obtain ⟨hc30, h⟩ := h
              refine J.quiet (Y.shl rfl rfl hc30) rfl ?_
              refine J.quiet (Y.or rfl rfl) rfl ?_
              refine J.quiet (Y.assign rfl) rfl ?_
              refine J.done ?_
              refine J.inN ?_
              refine J.thenN ?_
              exact J.meetI (bOr .u32 a19.1 (bShl .u32 (1 : Int) a8.2)) (()) h (by repeat (first | exact SubF.nil | refine SubF.cons rfl ?_)) (SubM.nil) (LentAll.refl _ _)
            · replace h := ifN hp29 h
              refine J.skip ?_
              refine J.inN ?_
              refine J.thenN ?_
              exact J.meetI (a19.1) (()) h (by repeat (first | exact SubF.nil | refine SubF.cons rfl ?_)) (SubM.nil) (LentAll.refl _ _)
          · clear h
            intro a24 b25 h
            unfold graph_around_k3 at h
            refine J.region ?_
            refine J.quiet (Y.addW rfl rfl) rfl ?_
            refine J.quiet (Y.move rfl) rfl ?_
            refine J.done ?_
            refine J.thenN ?_
            exact J.againI (a24, (wI .i64 (a19.2 + (1 : Int)))) (()) h (by repeat (first | exact SubF.nil | refine SubF.cons rfl ?_)) (SubM.refl _) (LentAll.refl _ _)
        · replace h := ifN hp22 h
          refine J.exit ?_
          refine J.thenX ?_
          refine J.thenX ?_
          refine J.inX ?_
          refine J.inN ?_
          refine J.thenN ?_
          exact J.meetI (a19.1) (()) h (by repeat (first | exact SubF.nil | refine SubF.cons rfl ?_)) (SubM.refl _) (LentAll.refl _ _)
      · clear h
        intro a13 b14 h
        unfold graph_around_k2 at h
        refine J.region ?_
        refine J.quiet (Y.addW rfl rfl) rfl ?_
        refine J.quiet (Y.move rfl) rfl ?_
        refine J.done ?_
        refine J.thenN ?_
        exact J.againI (a13, (wI .i64 (a8.2 + (1 : Int)))) (()) h (by repeat (first | exact SubF.nil | refine SubF.cons rfl ?_)) (SubM.refl _) (LentAll.refl _ _)
    · replace h := ifN hp11 h
      refine J.exit ?_
      refine J.thenX ?_
      refine J.thenX ?_
      refine J.inX ?_
      refine J.thenN ?_
      exact J.meetI (a8.1) (()) h (by repeat (first | exact SubF.nil | refine SubF.cons rfl ?_)) (SubM.refl _) (LentAll.refl _ _)
  · clear h
    intro a3 b4 h
    unfold graph_around_k1 at h
    refine J.seq ?_
    refine J.region ?_
    refine J.quiet (Y.move rfl) rfl ?_
    refine J.quiet (Y.assign rfl) rfl ?_
    refine J.done ?_
    refine J.thenN ?_
    refine J.ret ?_
    obtain rfl := Option.some.inj h
    exact J.retG1 (()) rfl rfl (RV.tmp rfl) (SubM.refl _) LentAll.nil

end Go.Proofs.Ytemhmmcakmidkaa
end
section
namespace Go.Proofs.Ytemhmmcakmidkaa
open Go.Sx
set_option linter.unusedVariables false
set_option linter.unusedSimpArgs false

def graph_Independent_k1  (a3 : Bool) : Option (Bool) :=
  some (a3)
def m_graph_Independent (fuel : Nat) (p0 : List (Int) × (List (List (Int × Int)))) (p1 : Int) : Option (Bool) :=
  Option.bind (m_graph_Valid fuel ((p0.1, p0.2))) fun r5 => (if r5 = true then (Option.bind (m_graph_All fuel ((p0.1, p0.2))) fun r9 => (if (bAndNot .u32 p1 r9) = (0 : Int) then (Option.bind (m_graph_around fuel ((p0.1, p0.2)) p1) fun r13 => (graph_Independent_k1  (decide ((bAnd .u32 r13 p1) = (0 : Int))))) else (graph_Independent_k1  (false)))) else (graph_Independent_k1  (false)))

theorem body44 : HasBody Try.prog 44 := Try.call44

set_option maxHeartbeats 4000000 in
set_option maxRecDepth 20000 in
theorem t_graph_Independent (fuel : Nat) {p0 : List (Int) × (List (List (Int × Int)))} {p1 : Int} (v0 : Value)  (v1 : Value)  (z2 : List (Value × List (Int × Int))) (r : Bool) (h : m_graph_Independent fuel p0 p1 = some r) :
    Meets Try.prog 44 #[Value.agg #[v0, v1], Value.int .u32 (p1)] [Sl RI64 v0 p0.1, S2 RI64I64p v1 z2 p0.2] (fun x : Unit => Value.bool (r)) (fun x l => l) (fun _ l => l) := by
  refine Meets.of (vs := [Value.agg #[v0, v1], Value.int .u32 (p1)]) Try.func44 rfl Try.ntmps44 rfl fun c => ?_
  unfold m_graph_Independent at h
  refine J.seq ?_
  refine J.region ?_
  refine J.loud (Loud.box (cs := [v0, v1]) rfl rfl) rfl fun b1 => ?_
  refine J.quiet (Y.assign rfl) rfl ?_
  refine J.done ?_
  refine J.thenN ?_
  refine J.seq ?_
  refine J.midI (A := Bool) (B := Unit) (fun a3 => graph_Independent_k1  a3 = some r) (fun a3 b4 => [(4, Value.bool (a3))]) (fun a3 b4 => []) (fun a3 b4 => [Sl RI64 v0 p0.1, S2 RI64I64p v1 z2 p0.2]) ?_ ?_
  · refine J.region ?_
    refine J.quiet (Y.loadBAll 0 rfl rfl rfl rfl) rfl ?_
    replace h := bnd h; obtain ⟨r5, hr6, h⟩ := h
    refine J.loud (Loud.callL body64 (t_graph_Valid fuel v0 v1 z2 r5 hr6) rfl (LentAll.cons (Lent.fact 0 rfl) (LentAll.cons (Lent.fact 1 rfl) (LentAll.nil))) (fun _ _ => rfl)) rfl fun x7 => ?_
    refine J.quiet (Y.move rfl) rfl ?_
    refine J.guard (by exact rfl) (by exact rfl) (fun hp8 => ?_) (fun hp8 => ?_)
    · replace h := ifP hp8 h
      refine J.guardY rfl (Y.move rfl) rfl ?_
      refine J.guardY rfl (Y.loadBAll 0 rfl rfl rfl rfl) rfl ?_
      replace h := bnd h; obtain ⟨r9, hr10, h⟩ := h
      refine J.loudG rfl (Loud.callL body84 (t_graph_All fuel v0 v1 z2 r9 hr10) rfl (LentAll.cons (Lent.fact 0 rfl) (LentAll.cons (Lent.fact 1 rfl) (LentAll.nil))) (fun _ _ => rfl)) rfl fun x11 => ?_
      refine J.guardY rfl (Y.andNot rfl rfl) rfl ?_
      refine J.guardY rfl (Y.eql rfl rfl) rfl ?_
      refine J.quiet (Y.pickT rfl rfl) rfl ?_
      refine J.quiet (Y.move rfl) rfl ?_
      refine J.guardD (by exact rfl) (by exact rfl) (fun hp12 => ?_) (fun hp12 => ?_)
      · replace h := ifP hp12 h
        refine J.guardY rfl (Y.loadBAll 0 rfl rfl rfl rfl) rfl ?_
        refine J.guardY rfl (Y.move rfl) rfl ?_
        replace h := bnd h; obtain ⟨r13, hr14, h⟩ := h
        refine J.loudG rfl (Loud.callL body85 (t_graph_around fuel v0 v1 z2 r13 hr14) rfl (LentAll.cons (Lent.fact 0 rfl) (LentAll.cons (Lent.fact 1 rfl) (LentAll.nil))) (fun _ _ => rfl)) rfl fun x15 => ?_
        refine J.guardY rfl (Y.move rfl) rfl ?_
        refine J.guardY rfl (Y.and rfl rfl) rfl ?_
        refine J.guardY rfl (Y.eql rfl rfl) rfl ?_
        refine J.quiet (Y.pickT rfl rfl) rfl ?_
        refine J.quiet (Y.assign rfl) rfl ?_
        refine J.done ?_
        refine J.thenN ?_
        exact J.meetI (decide ((bAnd .u32 r13 p1) = (0 : Int))) (()) h (by repeat (first | exact SubF.nil | refine SubF.cons rfl ?_)) (SubM.nil) (LentAll.refl _ _)
      · replace h := ifN hp12 h
        refine J.guardN rfl rfl rfl ?_
        refine J.guardN rfl rfl rfl ?_
        refine J.guardN rfl rfl rfl ?_
        refine J.guardN rfl rfl rfl ?_
        refine J.guardN rfl rfl rfl ?_
        refine J.guardN rfl rfl rfl ?_
        refine J.quiet (Y.pickF rfl rfl) rfl ?_
        refine J.quiet (Y.assign rfl) rfl ?_
        refine J.done ?_
        refine J.thenN ?_
        exact J.meetI (false) (()) h (by repeat (first | exact SubF.nil | refine SubF.cons rfl ?_)) (SubM.nil) (LentAll.refl _ _)
    · replace h := ifBN hp8 h
      refine J.guardN rfl rfl rfl ?_
      refine J.guardN rfl rfl rfl ?_
      refine J.guardN rfl rfl rfl ?_
      refine J.guardN rfl rfl rfl ?_
      refine J.guardN rfl rfl rfl ?_
      refine J.quiet (Y.pickF rfl rfl) rfl ?_
      refine J.quiet (Y.move rfl) rfl ?_
      refine J.guardN rfl rfl rfl ?_
      refine J.guardN rfl rfl rfl ?_
      refine J.guardN rfl rfl rfl ?_
      refine J.guardN rfl rfl rfl ?_
      refine J.guardN rfl rfl rfl ?_
      refine J.guardN rfl rfl rfl ?_
      refine J.quiet (Y.pickF rfl rfl) rfl ?_
      refine J.quiet (Y.assign rfl) rfl ?_
      refine J.done ?_
      refine J.thenN ?_
      exact J.meetI (false) (()) h (by repeat (first | exact SubF.nil | refine SubF.cons rfl ?_)) (SubM.nil) (LentAll.refl _ _)
  · clear h
    intro a3 b4 h
    unfold graph_Independent_k1 at h
    refine J.ret ?_
    obtain rfl := Option.some.inj h
    exact J.retG1 (()) rfl rfl (RV.tmp rfl) (SubM.refl _) LentAll.nil

end Go.Proofs.Ytemhmmcakmidkaa
end
section
namespace Go.Proofs.Ytemhmmcakmidkaa
open Go.Sx
set_option linter.unusedVariables false
set_option linter.unusedSimpArgs false

def ref01_Degree_k1 (p0 : List (Int) × (List (List (Int × Int)))) (p1 : Int) (a3 : Bool) : Option (Int) :=
  if a3 = true then (some (0 : Int)) else (ck (0 ≤ p1 ∧ p1 < (List.length p0.2 : Int)) (some (List.length (at' p0.2 p1) : Int)))
def m_ref01_Degree (fuel : Nat) (p0 : List (Int) × (List (List (Int × Int)))) (p1 : Int) : Option (Int) :=
  Option.bind (m_ref01_Valid fuel ((p0.1, p0.2))) fun r7 => (if (!r7) = true then (ref01_Degree_k1 p0 p1 (true)) else (Option.bind (m_ref01_In fuel p1 (0 : Int) (wI .i64 ((List.length p0.2 : Int) - (1 : Int)))) fun r11 => (ref01_Degree_k1 p0 p1 ((!r11)))))

theorem body65 : HasBody Try.prog 65 := Try.call65

set_option maxHeartbeats 4000000 in
set_option maxRecDepth 20000 in
theorem t_ref01_Degree (fuel : Nat) {p0 : List (Int) × (List (List (Int × Int)))} {p1 : Int} (v0 : Value)  (v1 : Value)  (z2 : List (Value × List (Int × Int))) (r : Int) (h : m_ref01_Degree fuel p0 p1 = some r) :
    Meets Try.prog 65 #[Value.agg #[v0, v1], Value.int .i64 (p1)] [Sl RI64 v0 p0.1, S2 RI64I64p v1 z2 p0.2] (fun x : Unit => Value.int .i64 (r)) (fun x l => l) (fun _ l => l) := by
  refine Meets.of (vs := [Value.agg #[v0, v1], Value.int .i64 (p1)]) Try.func65 rfl Try.ntmps65 rfl fun c => ?_
  unfold m_ref01_Degree at h
  refine J.seq ?_
  refine J.region ?_
  refine J.loud (Loud.box (cs := [v0, v1]) rfl rfl) rfl fun b1 => ?_
  refine J.quiet (Y.assign rfl) rfl ?_
  refine J.done ?_
  refine J.thenN ?_
  refine J.seq ?_
  refine J.seq ?_
  refine J.midI (A := Bool) (B := Unit) (fun a3 => ref01_Degree_k1 p0 p1 a3 = some r) (fun a3 b4 => [(1, Value.int .i64 (p1)), (2, Value.pointer (some ⟨b1, 0, none⟩)), (16, Value.bool (a3))]) (fun a3 b4 => [Blk b1 [v0, v1] 26]) (fun a3 b4 => [Sl RI64 v0 p0.1, S2 RI64I64p v1 z2 p0.2]) ?_ ?_
  · refine J.region ?_
    refine J.quiet (Y.loadBAll 0 rfl rfl rfl rfl) rfl ?_
    replace h := bnd h; obtain ⟨r7, hr8, h⟩ := h
    refine J.loud (Loud.callL body51 (t_ref01_Valid fuel v0 v1 z2 r7 hr8) rfl (LentAll.cons (Lent.fact 0 rfl) (LentAll.cons (Lent.fact 1 rfl) (LentAll.nil))) (fun _ _ => rfl)) rfl fun x9 => ?_
    refine J.quiet (Y.not rfl) rfl ?_
    refine J.quiet (Y.move rfl) rfl ?_
    refine J.guard (by exact rfl) (by exact rfl) (fun hp10 => ?_) (fun hp10 => ?_)
    · replace h := ifP hp10 h
      refine J.guardN rfl rfl rfl ?_
      refine J.guardN rfl rfl rfl ?_
      refine J.guardN rfl rfl rfl ?_
      refine J.guardN rfl rfl rfl ?_
      refine J.guardN rfl rfl rfl ?_
      refine J.guardN rfl rfl rfl ?_
      refine J.guardN rfl rfl rfl ?_
      refine J.quiet (Y.pickT rfl rfl) rfl ?_
      refine J.done ?_
      refine J.thenN ?_
      exact J.meetI (true) (()) h (by repeat (first | exact SubF.nil | refine SubF.cons rfl ?_)) (SubM.refl _) (LentAll.refl _ _)
    · replace h := ifBN hp10 h
      refine J.guardY rfl (Y.move rfl) rfl ?_
      refine J.guardY rfl (Y.fieldB rfl rfl rfl rfl rfl) rfl ?_
      refine J.guardY rfl (Y.loadB 0 rfl rfl rfl rfl rfl) rfl ?_
      refine J.guardY rfl (Y.lenN rfl (Lent.fact 1 rfl) rfl) rfl ?_
      refine J.guardY rfl (Y.subW rfl rfl) rfl ?_
      replace h := bnd h; obtain ⟨r11, hr12, h⟩ := h
      refine J.loudG rfl (Loud.callL body72 (t_ref01_In fuel  r11 hr12) rfl (LentAll.nil) (fun _ _ => rfl)) rfl fun x13 => ?_
      refine J.guardY rfl (Y.not rfl) rfl ?_
      refine J.quiet (Y.pickF rfl rfl) rfl ?_
      refine J.done ?_
      refine J.thenN ?_
      exact J.meetI ((!r11)) (()) h (by repeat (first | exact SubF.nil | refine SubF.cons rfl ?_)) (SubM.refl _) (LentAll.refl _ _)
  · clear h
    intro a3 b4 h
    unfold ref01_Degree_k1 at h
    refine J.cond (by exact rfl) (fun hp5 => ?_) (fun hp5 => ?_)
    · replace h := ifP hp5 h
      refine J.seq ?_
      refine J.region ?_
      refine J.quiet (Y.assign rfl) rfl ?_
      refine J.done ?_
      refine J.thenN ?_
      refine J.ret ?_
      refine J.thenR ?_
      obtain rfl := Option.some.inj h
      exact J.retG1 (()) rfl rfl (RV.tmp rfl) (SubM.nil) LentAll.nil
    · replace h := ifBN hp5 h
      refine J.skip ?_
      refine J.thenN ?_
      refine J.seq ?_
      refine J.region ?_
      refine J.quiet (Y.fieldB rfl rfl rfl rfl rfl) rfl ?_
      refine J.quiet (Y.loadB 0 rfl rfl rfl rfl rfl) rfl ?_
      refine J.quiet (Y.move rfl) rfl ?_
      replace h := ck_some h; obtain ⟨hc6, h⟩ := h
      refine J.quiet (Y.indexN rfl rfl (Lent.fact 1 rfl) rfl rfl hc6) rfl ?_
      refine J.quiet (Y.loadRow rfl (Lent.fact 1 rfl) rfl rfl hc6) rfl ?_
      refine J.quiet (Y.lenS rfl (Lent.el (Lent.fact 1 rfl) hc6.1 hc6.2) rfl) rfl ?_
      refine J.quiet (Y.assign rfl) rfl ?_
      refine J.done ?_
      refine J.thenN ?_
      refine J.ret ?_
      obtain rfl := Option.some.inj h
      exact J.retG1 (()) rfl rfl (RV.tmp rfl) (SubM.nil) LentAll.nil

end Go.Proofs.Ytemhmmcakmidkaa
end
section
namespace Go.Proofs.Ytemhmmcakmidkaa
open Go.Sx
set_option linter.unusedVariables false
set_option linter.unusedSimpArgs false

def m_ref01_Back (fuel : Nat) (p0 : List (Int) × (List (List (Int × Int)))) (p1 : Int) (p2 : Int) : Option (Int) :=
  Option.bind (m_ref01_Degree fuel ((p0.1, p0.2)) p1) fun r2 => (Option.bind (m_ref01_In fuel p2 (0 : Int) (wI .i64 (r2 - (1 : Int)))) fun r5 => (if (!r5) = true then (some (-1 : Int)) else (ck (0 ≤ p1 ∧ p1 < (List.length p0.2 : Int)) (ck (0 ≤ p2 ∧ p2 < (List.length (at' p0.2 p1) : Int)) (Option.bind (m_ref01_Port fuel ((p0.1, p0.2)) ((at' (at' p0.2 p1) p2).1) p1) fun r11 => (some (r11)))))))

theorem body66 : HasBody Try.prog 66 := Try.call66

set_option maxHeartbeats 4000000 in
set_option maxRecDepth 20000 in
theorem t_ref01_Back (fuel : Nat) {p0 : List (Int) × (List (List (Int × Int)))} {p1 : Int} {p2 : Int} (v0 : Value)  (v1 : Value)  (z2 : List (Value × List (Int × Int))) (r : Int) (h : m_ref01_Back fuel p0 p1 p2 = some r) :
    Meets Try.prog 66 #[Value.agg #[v0, v1], Value.int .i64 (p1), Value.int .i64 (p2)] [Sl RI64 v0 p0.1, S2 RI64I64p v1 z2 p0.2] (fun x : Unit => Value.int .i64 (r)) (fun x l => l) (fun _ l => l) := by
  refine Meets.of (vs := [Value.agg #[v0, v1], Value.int .i64 (p1), Value.int .i64 (p2)]) Try.func66 rfl Try.ntmps66 rfl fun c => ?_
  unfold m_ref01_Back at h
  refine J.seq ?_
  refine J.region ?_
  refine J.loud (Loud.box (cs := [v0, v1]) rfl rfl) rfl fun b1 => ?_
  refine J.quiet (Y.assign rfl) rfl ?_
  refine J.done ?_
  refine J.thenN ?_
  refine J.seq ?_
  refine J.seq ?_
  refine J.region ?_
  refine J.quiet (Y.move rfl) rfl ?_
  refine J.quiet (Y.loadBAll 0 rfl rfl rfl rfl) rfl ?_
  refine J.quiet (Y.move rfl) rfl ?_
  replace h := bnd h; obtain ⟨r2, hr3, h⟩ := h
  refine J.loud (Loud.callL body65 (t_ref01_Degree fuel v0 v1 z2 r2 hr3) rfl (LentAll.cons (Lent.fact 0 rfl) (LentAll.cons (Lent.fact 1 rfl) (LentAll.nil))) (fun _ _ => rfl)) rfl fun x4 => ?_
  refine J.quiet (Y.subW rfl rfl) rfl ?_
  replace h := bnd h; obtain ⟨r5, hr6, h⟩ := h
  refine J.loud (Loud.callL body72 (t_ref01_In fuel  r5 hr6) rfl (LentAll.nil) (fun _ _ => rfl)) rfl fun x7 => ?_
  refine J.quiet (Y.not rfl) rfl ?_
  refine J.done ?_
  refine J.thenN ?_
  refine J.cond (by exact rfl) (fun hp8 => ?_) (fun hp8 => ?_)
  · replace h := ifP hp8 h
    refine J.seq ?_
    refine J.region ?_
    refine J.quiet (Y.assign rfl) rfl ?_
    refine J.done ?_
    refine J.thenN ?_
    refine J.ret ?_
    refine J.thenR ?_
    obtain rfl := Option.some.inj h
    exact J.retG1 (()) rfl rfl (RV.tmp rfl) (SubM.nil) LentAll.nil
  · replace h := ifBN hp8 h
    refine J.skip ?_
    refine J.thenN ?_
    refine J.seq ?_
    refine JR.start [0, 0, 2, 0, 14, 30, 0, 126, 254, 510, 0, 2047, 4095] 11 mixedOrders (by decide +kernel) ?_
    refine JR.open (by exact rfl) ?_
    refine JR.qt rfl (SubM.refl _) (SubL.nil) (Y.loadBAll 0 rfl rfl rfl rfl) HistOk.z ?_
    refine JR.qt rfl (SubM.nil) (SubL.nil) (Y.fieldB rfl rfl rfl rfl rfl) HistOk.z ?_
    refine JR.qt rfl (SubM.refl _) (SubL.nil) (Y.loadB 0 rfl rfl rfl rfl rfl) HistOk.z ?_
    refine JR.qt rfl (SubM.nil) (SubL.nil) (Y.move rfl) HistOk.z ?_
    replace h := ck_some h; obtain ⟨hc9, h⟩ := h
    refine JR.qt rfl (SubM.nil) (SubL.cons (List.mem_of_getElem? (i := 1) rfl) (SubL.nil)) (Y.indexN rfl rfl (Lent.fact 0 rfl) rfl rfl hc9) HistOk.z ?_
    refine JR.qt rfl (SubM.nil) (SubL.cons (List.mem_of_getElem? (i := 1) rfl) (SubL.nil)) (Y.loadRow rfl (Lent.fact 0 rfl) rfl rfl hc9) HistOk.z ?_
    refine JR.qt rfl (SubM.nil) (SubL.nil) (Y.move rfl) HistOk.z ?_
    replace h := ck_some h; obtain ⟨hc10, h⟩ := h
    refine JR.qt rfl (SubM.nil) (SubL.cons (List.mem_of_getElem? (i := 1) rfl) (SubL.nil)) (Y.indexS rfl rfl (Lent.el (Lent.fact 0 rfl) hc9.1 hc9.2) rfl rfl hc10) HistOk.z ?_
    refine JR.qt rfl (SubM.nil) (SubL.nil) (Y.fieldEl rfl rfl rfl rfl rfl) HistOk.z ?_
    refine JR.qt rfl (SubM.nil) (SubL.cons (List.mem_of_getElem? (i := 1) rfl) (SubL.nil)) (Y.loadS rfl (Lent.el (Lent.fact 0 rfl) hc9.1 hc9.2) rfl rfl rfl RI64I64pc0 hc10) HistOk.z ?_
    refine JR.qt rfl (SubM.nil) (SubL.nil) (Y.move rfl) HistOk.z ?_
    refine JR.tailD 11 rfl rfl ?_
    replace h := bnd h; obtain ⟨r11, hr12, h⟩ := h
    refine J.loud (Loud.callL body92 (t_ref01_Port fuel v0 v1 z2 r11 hr12) rfl (LentAll.cons (Lent.fact 0 rfl) (LentAll.cons (Lent.fact 1 rfl) (LentAll.nil))) (fun _ _ => rfl)) rfl fun x13 => ?_
    refine J.quiet (Y.assign rfl) rfl ?_
    refine J.done ?_
    refine J.thenN ?_
    refine J.ret ?_
    obtain rfl := Option.some.inj h
    exact J.retG1 (()) rfl rfl (RV.tmp rfl) (SubM.nil) LentAll.nil

end Go.Proofs.Ytemhmmcakmidkaa
end
section
namespace Go.Proofs.Ytemhmmcakmidkaa
open Go.Sx
set_option linter.unusedVariables false
set_option linter.unusedSimpArgs false

def m_graph_Neighbours (fuel : Nat) (p0 : List (Int) × (List (List (Int × Int)))) (p1 : Int) : Option (Int) :=
  Option.bind (m_graph_Valid fuel ((p0.1, p0.2))) fun r2 => (if (!r2) = true then (some (0 : Int)) else (Option.bind (m_graph_around fuel ((p0.1, p0.2)) p1) fun r6 => (some (r6))))

theorem body67 : HasBody Try.prog 67 := Try.call67

set_option maxHeartbeats 4000000 in
set_option maxRecDepth 20000 in
theorem t_graph_Neighbours (fuel : Nat) {p0 : List (Int) × (List (List (Int × Int)))} {p1 : Int} (v0 : Value)  (v1 : Value)  (z2 : List (Value × List (Int × Int))) (r : Int) (h : m_graph_Neighbours fuel p0 p1 = some r) :
    Meets Try.prog 67 #[Value.agg #[v0, v1], Value.int .u32 (p1)] [Sl RI64 v0 p0.1, S2 RI64I64p v1 z2 p0.2] (fun x : Unit => Value.int .u32 (r)) (fun x l => l) (fun _ l => l) := by
  refine Meets.of (vs := [Value.agg #[v0, v1], Value.int .u32 (p1)]) Try.func67 rfl Try.ntmps67 rfl fun c => ?_
  unfold m_graph_Neighbours at h
  refine J.seq ?_
  refine J.region ?_
  refine J.loud (Loud.box (cs := [v0, v1]) rfl rfl) rfl fun b1 => ?_
  refine J.quiet (Y.assign rfl) rfl ?_
  refine J.done ?_
  refine J.thenN ?_
  refine J.seq ?_
  refine J.seq ?_
  refine J.region ?_
  refine J.quiet (Y.loadBAll 0 rfl rfl rfl rfl) rfl ?_
  replace h := bnd h; obtain ⟨r2, hr3, h⟩ := h
  refine J.loud (Loud.callL body64 (t_graph_Valid fuel v0 v1 z2 r2 hr3) rfl (LentAll.cons (Lent.fact 0 rfl) (LentAll.cons (Lent.fact 1 rfl) (LentAll.nil))) (fun _ _ => rfl)) rfl fun x4 => ?_
  refine J.quiet (Y.not rfl) rfl ?_
  refine J.done ?_
  refine J.thenN ?_
  refine J.cond (by exact rfl) (fun hp5 => ?_) (fun hp5 => ?_)
  · replace h := ifP hp5 h
    refine J.seq ?_
    refine J.region ?_
    refine J.quiet (Y.assign rfl) rfl ?_
    refine J.done ?_
    refine J.thenN ?_
    refine J.ret ?_
    refine J.thenR ?_
    obtain rfl := Option.some.inj h
    exact J.retG1 (()) rfl rfl (RV.tmp rfl) (SubM.nil) LentAll.nil
  · replace h := ifBN hp5 h
    refine J.skip ?_
    refine J.thenN ?_
    refine J.seq ?_
    refine J.region ?_
    refine J.quiet (Y.loadBAll 0 rfl rfl rfl rfl) rfl ?_
    refine J.quiet (Y.move rfl) rfl ?_
    replace h := bnd h; obtain ⟨r6, hr7, h⟩ := h
    refine J.loud (Loud.callL body85 (t_graph_around fuel v0 v1 z2 r6 hr7) rfl (LentAll.cons (Lent.fact 0 rfl) (LentAll.cons (Lent.fact 1 rfl) (LentAll.nil))) (fun _ _ => rfl)) rfl fun x8 => ?_
    refine J.quiet (Y.assign rfl) rfl ?_
    refine J.done ?_
    refine J.thenN ?_
    refine J.ret ?_
    obtain rfl := Option.some.inj h
    exact J.retG1 (()) rfl rfl (RV.tmp rfl) (SubM.nil) LentAll.nil

end Go.Proofs.Ytemhmmcakmidkaa
end
section
namespace Go.Proofs.Ytemhmmcakmidkaa
open Go.Sx
set_option linter.unusedVariables false
set_option linter.unusedSimpArgs false

def ref01_Has_k1  (a2 : Bool) : Option (Bool) :=
  some (a2)
def m_ref01_Has (fuel : Nat) (p0 : Int) (p1 : Int) : Option (Bool) :=
  if (0 : Int) ≤ p1 then (if p1 < (32 : Int) then (ck (0 ≤ (wI .u64 p1)) (ref01_Has_k1  (decide ((bAnd .u32 (bShr .u32 p0 (wI .u64 p1)) (1 : Int)) = (1 : Int))))) else (ref01_Has_k1  (false))) else (ref01_Has_k1  (false))

theorem body45 : HasBody Try.prog 45 := Try.call45

set_option maxHeartbeats 4000000 in
set_option maxRecDepth 20000 in
theorem t_ref01_Has (fuel : Nat) {p0 : Int} {p1 : Int} (r : Bool) (h : m_ref01_Has fuel p0 p1 = some r) :
    Meets Try.prog 45 #[Value.int .u32 (p0), Value.int .i64 (p1)] [] (fun x : Unit => Value.bool (r)) (fun x l => l) (fun _ l => l) := by
  refine Meets.of (vs := [Value.int .u32 (p0), Value.int .i64 (p1)]) Try.func45 rfl Try.ntmps45 rfl fun c => ?_
  unfold m_ref01_Has at h
  refine J.seq ?_
  refine J.region ?_
  refine J.quiet (Y.assign rfl) rfl ?_
  refine J.done ?_
  refine J.thenN ?_
  refine J.seq ?_
  refine J.midI (A := Bool) (B := Unit) (fun a2 => ref01_Has_k1  a2 = some r) (fun a2 b3 => [(4, Value.bool (a2))]) (fun a2 b3 => []) (fun a2 b3 => []) ?_ ?_
  · refine J.region ?_
    refine J.quiet (Y.move rfl) rfl ?_
    refine J.quiet (Y.geq rfl rfl) rfl ?_
    refine J.quiet (Y.move rfl) rfl ?_
    refine J.guardD (by exact rfl) (by exact rfl) (fun hp4 => ?_) (fun hp4 => ?_)
    · replace h := ifP hp4 h
      refine J.guardY rfl (Y.move rfl) rfl ?_
      refine J.guardY rfl (Y.lss rfl rfl) rfl ?_
      refine J.quiet (Y.pickT rfl rfl) rfl ?_
      refine J.quiet (Y.move rfl) rfl ?_
      refine J.guardD (by exact rfl) (by exact rfl) (fun hp5 => ?_) (fun hp5 => ?_)
      · replace h := ifP hp5 h
        refine J.guardY rfl (Y.move rfl) rfl ?_
        refine J.guardY rfl (Y.move rfl) rfl ?_
        refine J.guardY rfl (Y.conv rfl rfl rfl) rfl ?_
        replace h := ck_some h; obtain ⟨hc6, h⟩ := h
        refine J.guardY rfl (Y.shr rfl rfl hc6) rfl ?_
        refine J.guardY rfl (Y.and rfl rfl) rfl ?_
        refine J.guardY rfl (Y.eql rfl rfl) rfl ?_
        refine J.quiet (Y.pickT rfl rfl) rfl ?_
        refine J.quiet (Y.assign rfl) rfl ?_
        refine J.done ?_
        refine J.thenN ?_
        exact J.meetI (decide ((bAnd .u32 (bShr .u32 p0 (wI .u64 p1)) (1 : Int)) = (1 : Int))) (()) h (by repeat (first | exact SubF.nil | refine SubF.cons rfl ?_)) (SubM.refl _) (LentAll.refl _ _)
      · replace h := ifN hp5 h
        refine J.guardN rfl rfl rfl ?_
        refine J.guardN rfl rfl rfl ?_
        refine J.guardN rfl rfl rfl ?_
        refine J.guardN rfl rfl rfl ?_
        refine J.guardN rfl rfl rfl ?_
        refine J.guardN rfl rfl rfl ?_
        refine J.quiet (Y.pickF rfl rfl) rfl ?_
        refine J.quiet (Y.assign rfl) rfl ?_
        refine J.done ?_
        refine J.thenN ?_
        exact J.meetI (false) (()) h (by repeat (first | exact SubF.nil | refine SubF.cons rfl ?_)) (SubM.refl _) (LentAll.refl _ _)
    · replace h := ifN hp4 h
      refine J.guardN rfl rfl rfl ?_
      refine J.guardN rfl rfl rfl ?_
      refine J.quiet (Y.pickF rfl rfl) rfl ?_
      refine J.quiet (Y.move rfl) rfl ?_
      refine J.guardN rfl rfl rfl ?_
      refine J.guardN rfl rfl rfl ?_
      refine J.guardN rfl rfl rfl ?_
      refine J.guardN rfl rfl rfl ?_
      refine J.guardN rfl rfl rfl ?_
      refine J.guardN rfl rfl rfl ?_
      refine J.quiet (Y.pickF rfl rfl) rfl ?_
      refine J.quiet (Y.assign rfl) rfl ?_
      refine J.done ?_
      refine J.thenN ?_
      exact J.meetI (false) (()) h (by repeat (first | exact SubF.nil | refine SubF.cons rfl ?_)) (SubM.refl _) (LentAll.refl _ _)
  · clear h
    intro a2 b3 h
    unfold ref01_Has_k1 at h
    refine J.ret ?_
    obtain rfl := Option.some.inj h
    exact J.retG1 (()) rfl rfl (RV.tmp rfl) (SubM.refl _) LentAll.nil

end Go.Proofs.Ytemhmmcakmidkaa
end
section
namespace Go.Proofs.Ytemhmmcakmidkaa
open Go.Sx
set_option linter.unusedVariables false
set_option linter.unusedSimpArgs false

def ref01_Neighbours_k1  (a7 : Int) : Option (Int) :=
  some (a7)
def ref01_Neighbours_k2 (a12 : Int × Int) (ag11 : (Int × Int) → Option (Int)) (a17 : Int) : Option (Int) :=
  ag11 (a17, (wI .i64 (a12.2 + (1 : Int))))
def ref01_Neighbours_k3 (a22 : Int × Int) (ag21 : (Int × Int) → Option (Int)) (a28 : Int) : Option (Int) :=
  ag21 (a28, (wI .i64 (a22.2 + (1 : Int))))
def ref01_Neighbours_s2 (fuel : Nat) (p0 : List (Int) × (List (List (Int × Int)))) (p1 : Int) (a12 : Int × Int) (ag11 : (Int × Int) → Option (Int)) (a22 : Int × Int) (ag21 : (Int × Int) → Option (Int)) : Option (Int) :=
  ck (0 ≤ a12.2 ∧ a12.2 < (List.length p0.2 : Int)) (if a22.2 < (List.length (at' p0.2 a12.2) : Int) then (ck (0 ≤ a12.2 ∧ a12.2 < (List.length p0.2 : Int)) (ck (0 ≤ a22.2 ∧ a22.2 < (List.length (at' p0.2 a12.2) : Int)) (Option.bind (m_ref01_Has fuel p1 ((at' (at' p0.2 a12.2) a22.2).1)) fun r32 => (if r32 = true then (ck (0 ≤ (wI .u64 a12.2)) (ref01_Neighbours_k3 a22 ag21 (bOr .u32 a22.1 (bShl .u32 (1 : Int) (wI .u64 a12.2))))) else (ref01_Neighbours_k3 a22 ag21 (a22.1)))))) else (ref01_Neighbours_k2 a12 ag11 (a22.1)))
def ref01_Neighbours_s1 (fuel : Nat) (p0 : List (Int) × (List (List (Int × Int)))) (p1 : Int) (a12 : Int × Int) (ag11 : (Int × Int) → Option (Int)) : Option (Int) :=
  if a12.2 < (List.length p0.2 : Int) then (iter (ref01_Neighbours_s2 fuel p0 p1 a12 ag11) fuel (a12.1, (0 : Int))) else (ref01_Neighbours_k1  (a12.1))
def m_ref01_Neighbours (fuel : Nat) (p0 : List (Int) × (List (List (Int × Int)))) (p1 : Int) : Option (Int) :=
  Option.bind (m_ref01_Valid fuel ((p0.1, p0.2))) fun r2 => (if (!r2) = true then (some (0 : Int)) else (iter (ref01_Neighbours_s1 fuel p0 p1) fuel ((0 : Int), (0 : Int))))

theorem body68 : HasBody Try.prog 68 := Try.call68

set_option maxHeartbeats 4000000 in
set_option maxRecDepth 20000 in
theorem t_ref01_Neighbours (fuel : Nat) {p0 : List (Int) × (List (List (Int × Int)))} {p1 : Int} (v0 : Value)  (v1 : Value)  (z2 : List (Value × List (Int × Int))) (r : Int) (h : m_ref01_Neighbours fuel p0 p1 = some r) :
    Meets Try.prog 68 #[Value.agg #[v0, v1], Value.int .u32 (p1)] [Sl RI64 v0 p0.1, S2 RI64I64p v1 z2 p0.2] (fun x : Unit => Value.int .u32 (r)) (fun x l => l) (fun _ l => l) := by
  refine Meets.of (vs := [Value.agg #[v0, v1], Value.int .u32 (p1)]) Try.func68 rfl Try.ntmps68 rfl fun c => ?_
  unfold m_ref01_Neighbours at h
  refine J.seq ?_
  refine J.region ?_
  refine J.loud (Loud.box (cs := [v0, v1]) rfl rfl) rfl fun b1 => ?_
  refine J.quiet (Y.assign rfl) rfl ?_
  refine J.done ?_
  refine J.thenN ?_
  refine J.seq ?_
  refine J.seq ?_
  refine J.region ?_
  refine J.quiet (Y.loadBAll 0 rfl rfl rfl rfl) rfl ?_
  replace h := bnd h; obtain ⟨r2, hr3, h⟩ := h
  refine J.loud (Loud.callL body51 (t_ref01_Valid fuel v0 v1 z2 r2 hr3) rfl (LentAll.cons (Lent.fact 0 rfl) (LentAll.cons (Lent.fact 1 rfl) (LentAll.nil))) (fun _ _ => rfl)) rfl fun x4 => ?_
  refine J.quiet (Y.not rfl) rfl ?_
  refine J.done ?_
  refine J.thenN ?_
  refine J.cond (by exact rfl) (fun hp5 => ?_) (fun hp5 => ?_)
  · replace h := ifP hp5 h
    refine J.seq ?_
    refine J.region ?_
    refine J.quiet (Y.assign rfl) rfl ?_
    refine J.done ?_
    refine J.thenN ?_
    refine J.ret ?_
    refine J.thenR ?_
    obtain rfl := Option.some.inj h
    exact J.retG1 (()) rfl rfl (RV.tmp rfl) (SubM.nil) LentAll.nil
  · replace h := ifBN hp5 h
    refine J.skip ?_
    refine J.thenN ?_
    refine J.seq ?_
    refine J.region ?_
    refine J.quiet (Y.assign rfl) rfl ?_
    refine J.done ?_
    refine J.thenN ?_
    refine J.seq ?_
    refine J.midI (A := Int) (B := Unit) (fun a7 => ref01_Neighbours_k1  a7 = some r) (fun a7 b8 => [(5, Value.int .u32 (a7))]) (fun a7 b8 => []) (fun a7 b8 => [Sl RI64 v0 p0.1, S2 RI64I64p v1 z2 p0.2]) ?_ ?_
    · refine J.seq ?_
      refine J.region ?_
      refine J.quiet (Y.assign rfl) rfl ?_
      refine J.done ?_
      refine J.thenN ?_
      refine J.block ?_
      refine J.loopI (A := Int × Int) (B := Unit) (ref01_Neighbours_s1 fuel p0 p1) (fun a12 b13 => [(1, Value.int .u32 (p1)), (2, Value.pointer (some ⟨b1, 0, none⟩)), (5, Value.int .u32 (a12.1)), (6, Value.int .i64 (a12.2))]) (fun a12 b13 => [Blk b1 [v0, v1] 26]) (fun a12 b13 => [Sl RI64 v0 p0.1, S2 RI64I64p v1 z2 p0.2]) ((0 : Int), (0 : Int)) (()) h (by repeat (first | exact SubF.nil | refine SubF.cons rfl ?_)) (SubM.refl _) (LentAll.refl _ _) ?_
      clear h
      intro k14 a12 b13 h
      unfold ref01_Neighbours_s1 at h
      refine J.seq ?_
      refine J.seq ?_
      refine J.region ?_
      refine J.quiet (Y.move rfl) rfl ?_
      refine J.quiet (Y.fieldB rfl rfl rfl rfl rfl) rfl ?_
      refine J.quiet (Y.loadB 0 rfl rfl rfl rfl rfl) rfl ?_
      refine J.quiet (Y.lenN rfl (Lent.fact 1 rfl) rfl) rfl ?_
      refine J.quiet (Y.lss rfl rfl) rfl ?_
      refine J.done ?_
      refine J.thenN ?_
      refine J.condD (by exact rfl) (fun hp15 => ?_) (fun hp15 => ?_)
      · replace h := ifP hp15 h
        refine J.skip ?_
        refine J.thenN ?_
        refine J.seq ?_
        refine J.midI (A := Int) (B := Unit) (fun a17 => ref01_Neighbours_k2 a12 (iter (ref01_Neighbours_s1 fuel p0 p1) k14) a17 = some r) (fun a17 b18 => [(1, Value.int .u32 (p1)), (2, Value.pointer (some ⟨b1, 0, none⟩)), (5, Value.int .u32 (a17)), (6, Value.int .i64 (a12.2))]) (fun a17 b18 => [Blk b1 [v0, v1] 26]) (fun a17 b18 => [Sl RI64 v0 p0.1, S2 RI64I64p v1 z2 p0.2]) ?_ ?_
        · refine J.block ?_
          refine J.seq ?_
          refine J.region ?_
          refine J.quiet (Y.assign rfl) rfl ?_
          refine J.done ?_
          refine J.thenN ?_
          refine J.block ?_
          refine J.loopI (A := Int × Int) (B := Unit) (ref01_Neighbours_s2 fuel p0 p1 a12 (iter (ref01_Neighbours_s1 fuel p0 p1) k14)) (fun a22 b23 => [(1, Value.int .u32 (p1)), (2, Value.pointer (some ⟨b1, 0, none⟩)), (5, Value.int .u32 (a22.1)), (6, Value.int .i64 (a12.2)), (7, Value.int .i64 (a22.2))]) (fun a22 b23 => [Blk b1 [v0, v1] 26]) (fun a22 b23 => [Sl RI64 v0 p0.1, S2 RI64I64p v1 z2 p0.2]) (a12.1, (0 : Int)) (()) h (by repeat (first | exact SubF.nil | refine SubF.cons rfl ?_)) (SubM.refl _) (LentAll.refl _ _) ?_
          clear h
          intro k24 a22 b23 h
          unfold ref01_Neighbours_s2 at h
          refine J.seq ?_
          refine J.seq ?_
          refine J.region ?_
          refine J.quiet (Y.move rfl) rfl ?_
          refine J.quiet (Y.fieldB rfl rfl rfl rfl rfl) rfl ?_
          refine J.quiet (Y.loadB 0 rfl rfl rfl rfl rfl) rfl ?_
          refine J.quiet (Y.move rfl) rfl ?_
          replace h := ck_some h; obtain ⟨hc25, h⟩ := h
          refine J.quiet (Y.indexN rfl rfl (Lent.fact 1 rfl) rfl rfl hc25) rfl ?_
          refine J.quiet (Y.loadRow rfl (Lent.fact 1 rfl) rfl rfl hc25) rfl ?_
          refine J.quiet (Y.lenS rfl (Lent.el (Lent.fact 1 rfl) hc25.1 hc25.2) rfl) rfl ?_
          refine J.quiet (Y.lss rfl rfl) rfl ?_
          refine J.done ?_
          refine J.thenN ?_
          refine J.condD (by exact rfl) (fun hp26 => ?_) (fun hp26 => ?_)
          · replace h := ifP hp26 h
            refine J.skip ?_
            refine J.thenN ?_
            refine J.seq ?_
            refine J.midI (A := Int) (B := Unit) (fun a28 => ref01_Neighbours_k3 a22 (iter (ref01_Neighbours_s2 fuel p0 p1 a12 (iter (ref01_Neighbours_s1 fuel p0 p1) k14)) k24) a28 = some r) (fun a28 b29 => [(1, Value.int .u32 (p1)), (2, Value.pointer (some ⟨b1, 0, none⟩)), (5, Value.int .u32 (a28)), (6, Value.int .i64 (a12.2)), (7, Value.int .i64 (a22.2))]) (fun a28 b29 => [Blk b1 [v0, v1] 26]) (fun a28 b29 => [Sl RI64 v0 p0.1, S2 RI64I64p v1 z2 p0.2]) ?_ ?_
            · refine J.block ?_
              refine J.seq ?_
              refine J.region ?_
              refine J.quiet (Y.move rfl) rfl ?_
              refine J.quiet (Y.fieldB rfl rfl rfl rfl rfl) rfl ?_
              refine J.quiet (Y.loadB 0 rfl rfl rfl rfl rfl) rfl ?_
              refine J.quiet (Y.move rfl) rfl ?_
              replace h := ck_some h; obtain ⟨hc30, h⟩ := h
              refine J.quiet (Y.indexN rfl rfl (Lent.fact 1 rfl) rfl rfl hc30) rfl ?_
              refine J.quiet (Y.loadRow rfl (Lent.fact 1 rfl) rfl rfl hc30) rfl ?_
              refine J.quiet (Y.move rfl) rfl ?_
              replace h := ck_some h; obtain ⟨hc31, h⟩ := h
              refine J.quiet (Y.indexS rfl rfl (Lent.el (Lent.fact 1 rfl) hc30.1 hc30.2) rfl rfl hc31) rfl ?_
              refine J.quiet (Y.fieldEl rfl rfl rfl rfl rfl) rfl ?_
              refine J.quiet (Y.loadS rfl (Lent.el (Lent.fact 1 rfl) hc30.1 hc30.2) rfl rfl rfl RI64I64pc0 hc31) rfl ?_
              replace h := bnd h; obtain ⟨r32, hr33, h⟩ := h
              refine J.loud (Loud.callL body45 (t_ref01_Has fuel  r32 hr33) rfl (LentAll.nil) (fun _ _ => rfl)) rfl fun x34 => ?_
              refine J.done ?_
              refine J.thenN ?_
              refine J.cond (by exact rfl) (fun hp35 => ?_) (fun hp35 => ?_)
              · replace h := ifP hp35 h
                refine J.region ?_
                refine J.quiet (Y.move rfl) rfl ?_
                refine J.quiet (Y.move rfl) rfl ?_
                refine J.quiet (Y.conv rfl rfl rfl) rfl ?_
                replace h := ck_some h; obtain ⟨hc36, h⟩ := h
                refine J.quiet (Y.shl rfl rfl hc36) rfl ?_
                refine J.quiet (Y.or rfl rfl) rfl ?_
                refine J.quiet (Y.assign rfl) rfl ?_
                refine J.done ?_
                refine J.inN ?_
                refine J.thenN ?_
                exact J.meetI (bOr .u32 a22.1 (bShl .u32 (1 : Int) (wI .u64 a12.2))) (()) h (by repeat (first | exact SubF.nil | refine SubF.cons rfl ?_)) (SubM.refl _) (LentAll.refl _ _)
              · replace h := ifBN hp35 h
                refine J.skip ?_
                refine J.inN ?_
                refine J.thenN ?_
                exact J.meetI (a22.1) (()) h (by repeat (first | exact SubF.nil | refine SubF.cons rfl ?_)) (SubM.refl _) (LentAll.refl _ _)
            · clear h
              intro a28 b29 h
              unfold ref01_Neighbours_k3 at h
              refine J.region ?_
              refine J.quiet (Y.move rfl) rfl ?_
              refine J.quiet (Y.addW rfl rfl) rfl ?_
              refine J.quiet (Y.assign rfl) rfl ?_
              refine J.done ?_
              refine J.thenN ?_
              exact J.againI (a28, (wI .i64 (a22.2 + (1 : Int)))) (()) h (by repeat (first | exact SubF.nil | refine SubF.cons rfl ?_)) (SubM.refl _) (LentAll.refl _ _)
          · replace h := ifN hp26 h
            refine J.exit ?_
            refine J.thenX ?_
            refine J.thenX ?_
            refine J.inX ?_
            refine J.inN ?_
            refine J.thenN ?_
            exact J.meetI (a22.1) (()) h (by repeat (first | exact SubF.nil | refine SubF.cons rfl ?_)) (SubM.refl _) (LentAll.refl _ _)
        · clear h
          intro a17 b18 h
          unfold ref01_Neighbours_k2 at h
          refine J.region ?_
          refine J.quiet (Y.move rfl) rfl ?_
          refine J.quiet (Y.addW rfl rfl) rfl ?_
          refine J.quiet (Y.assign rfl) rfl ?_
          refine J.done ?_
          refine J.thenN ?_
          exact J.againI (a17, (wI .i64 (a12.2 + (1 : Int)))) (()) h (by repeat (first | exact SubF.nil | refine SubF.cons rfl ?_)) (SubM.refl _) (LentAll.refl _ _)
      · replace h := ifN hp15 h
        refine J.exit ?_
        refine J.thenX ?_
        refine J.thenX ?_
        refine J.inX ?_
        refine J.thenN ?_
        exact J.meetI (a12.1) (()) h (by repeat (first | exact SubF.nil | refine SubF.cons rfl ?_)) (SubM.nil) (LentAll.refl _ _)
    · clear h
      intro a7 b8 h
      unfold ref01_Neighbours_k1 at h
      refine J.seq ?_
      refine J.region ?_
      refine J.quiet (Y.move rfl) rfl ?_
      refine J.quiet (Y.assign rfl) rfl ?_
      refine J.done ?_
      refine J.thenN ?_
      refine J.ret ?_
      obtain rfl := Option.some.inj h
      exact J.retG1 (()) rfl rfl (RV.tmp rfl) (SubM.refl _) LentAll.nil

end Go.Proofs.Ytemhmmcakmidkaa
end
section
namespace Go.Proofs.Ytemhmmcakmidkaa
open Go.Sx
set_option linter.unusedVariables false
set_option linter.unusedSimpArgs false

def ref01_All_k1  (a2 : Int) : Option (Int) :=
  some (a2)
def ref01_All_k2 (a7 : Int × Int) (ag6 : (Int × Int) → Option (Int)) (a11 : Bool) : Option (Int) :=
  if a11 = true then (ck (0 ≤ (wI .u64 a7.2)) (ag6 ((bOr .u32 a7.1 (bShl .u32 (1 : Int) (wI .u64 a7.2))), (wI .i64 (a7.2 + (1 : Int)))))) else (ref01_All_k1  (a7.1))
def ref01_All_s1 (p0 : Int) (a7 : Int × Int) (ag6 : (Int × Int) → Option (Int)) : Option (Int) :=
  if a7.2 < p0 then (ref01_All_k2 a7 ag6 (decide (a7.2 < (32 : Int)))) else (ref01_All_k2 a7 ag6 (false))
def m_ref01_All (fuel : Nat) (p0 : Int) : Option (Int) :=
  iter (ref01_All_s1 p0) fuel ((0 : Int), (0 : Int))

theorem body43 : HasBody Try.prog 43 := Try.call43

set_option maxHeartbeats 4000000 in
set_option maxRecDepth 20000 in
theorem t_ref01_All (fuel : Nat) {p0 : Int} (r : Int) (h : m_ref01_All fuel p0 = some r) :
    Meets Try.prog 43 #[Value.int .i64 (p0)] [] (fun x : Unit => Value.int .u32 (r)) (fun x l => l) (fun _ l => l) := by
  refine Meets.of (vs := [Value.int .i64 (p0)]) Try.func43 rfl Try.ntmps43 rfl fun c => ?_
  unfold m_ref01_All at h
  refine J.seq ?_
  refine J.region ?_
  refine J.quiet (Y.assign rfl) rfl ?_
  refine J.done ?_
  refine J.thenN ?_
  refine J.seq ?_
  refine J.region ?_
  refine J.quiet (Y.assign rfl) rfl ?_
  refine J.done ?_
  refine J.thenN ?_
  refine J.seq ?_
  refine J.midI (A := Int) (B := Unit) (fun a2 => ref01_All_k1  a2 = some r) (fun a2 b3 => [(3, Value.int .u32 (a2))]) (fun a2 b3 => []) (fun a2 b3 => []) ?_ ?_
  · refine J.seq ?_
    refine J.region ?_
    refine J.quiet (Y.assign rfl) rfl ?_
    refine J.done ?_
    refine J.thenN ?_
    refine J.block ?_
    refine J.loopI (A := Int × Int) (B := Unit) (ref01_All_s1 p0) (fun a7 b8 => [(0, Value.int .i64 (p0)), (3, Value.int .u32 (a7.1)), (4, Value.int .i64 (a7.2))]) (fun a7 b8 => []) (fun a7 b8 => []) ((0 : Int), (0 : Int)) (()) h (by repeat (first | exact SubF.nil | refine SubF.cons rfl ?_)) (SubM.refl _) (LentAll.refl _ _) ?_
    clear h
    intro k9 a7 b8 h
    unfold ref01_All_s1 at h
    refine J.seq ?_
    refine J.seq ?_
    refine J.midI (A := Bool) (B := Unit) (fun a11 => ref01_All_k2 a7 (iter (ref01_All_s1 p0) k9) a11 = some r) (fun a11 b12 => [(0, Value.int .i64 (p0)), (3, Value.int .u32 (a7.1)), (4, Value.int .i64 (a7.2)), (11, Value.bool (a11))]) (fun a11 b12 => []) (fun a11 b12 => []) ?_ ?_
    · refine J.region ?_
      refine J.quiet (Y.move rfl) rfl ?_
      refine J.quiet (Y.move rfl) rfl ?_
      refine J.quiet (Y.lss rfl rfl) rfl ?_
      refine J.quiet (Y.move rfl) rfl ?_
      refine J.guardD (by exact rfl) (by exact rfl) (fun hp15 => ?_) (fun hp15 => ?_)
      · replace h := ifP hp15 h
        refine J.guardY rfl (Y.move rfl) rfl ?_
        refine J.guardY rfl (Y.lss rfl rfl) rfl ?_
        refine J.quiet (Y.pickT rfl rfl) rfl ?_
        refine J.done ?_
        refine J.thenN ?_
        exact J.meetI (decide (a7.2 < (32 : Int))) (()) h (by repeat (first | exact SubF.nil | refine SubF.cons rfl ?_)) (SubM.refl _) (LentAll.refl _ _)
      · replace h := ifN hp15 h
        refine J.guardN rfl rfl rfl ?_
        refine J.guardN rfl rfl rfl ?_
        refine J.quiet (Y.pickF rfl rfl) rfl ?_
        refine J.done ?_
        refine J.thenN ?_
        exact J.meetI (false) (()) h (by repeat (first | exact SubF.nil | refine SubF.cons rfl ?_)) (SubM.refl _) (LentAll.refl _ _)
    · clear h
      intro a11 b12 h
      unfold ref01_All_k2 at h
      refine J.cond (by exact rfl) (fun hp13 => ?_) (fun hp13 => ?_)
      · replace h := ifP hp13 h
        refine J.skip ?_
        refine J.thenN ?_
        refine J.seq ?_
        refine J.block ?_
        refine J.region ?_
        refine J.quiet (Y.move rfl) rfl ?_
        refine J.quiet (Y.move rfl) rfl ?_
        refine J.quiet (Y.conv rfl rfl rfl) rfl ?_
        replace h := ck_some h; obtain ⟨hc14, h⟩ := h
        refine J.quiet (Y.shl rfl rfl hc14) rfl ?_
        refine J.quiet (Y.or rfl rfl) rfl ?_
        refine J.quiet (Y.assign rfl) rfl ?_
        refine J.done ?_
        refine J.inN ?_
        refine J.thenN ?_
        refine J.region ?_
        refine J.quiet (Y.move rfl) rfl ?_
        refine J.quiet (Y.addW rfl rfl) rfl ?_
        refine J.quiet (Y.assign rfl) rfl ?_
        refine J.done ?_
        refine J.thenN ?_
        exact J.againI ((bOr .u32 a7.1 (bShl .u32 (1 : Int) (wI .u64 a7.2))), (wI .i64 (a7.2 + (1 : Int)))) (()) h (by repeat (first | exact SubF.nil | refine SubF.cons rfl ?_)) (SubM.refl _) (LentAll.refl _ _)
      · replace h := ifBN hp13 h
        refine J.exit ?_
        refine J.thenX ?_
        refine J.thenX ?_
        refine J.inX ?_
        refine J.thenN ?_
        exact J.meetI (a7.1) (()) h (by repeat (first | exact SubF.nil | refine SubF.cons rfl ?_)) (SubM.refl _) (LentAll.refl _ _)
  · clear h
    intro a2 b3 h
    unfold ref01_All_k1 at h
    refine J.seq ?_
    refine J.region ?_
    refine J.quiet (Y.move rfl) rfl ?_
    refine J.quiet (Y.assign rfl) rfl ?_
    refine J.done ?_
    refine J.thenN ?_
    refine J.ret ?_
    obtain rfl := Option.some.inj h
    exact J.retG1 (()) rfl rfl (RV.tmp rfl) (SubM.refl _) LentAll.nil

end Go.Proofs.Ytemhmmcakmidkaa
end
section
namespace Go.Proofs.Ytemhmmcakmidkaa
open Go.Sx
set_option linter.unusedVariables false
set_option linter.unusedSimpArgs false

def ref01_Independent_k1 (fuel : Nat) (p0 : List (Int) × (List (List (Int × Int)))) (p1 : Int) (a3 : Bool) : Option (Bool) :=
  if a3 = true then (some (false)) else (Option.bind (m_ref01_Neighbours fuel ((p0.1, p0.2)) p1) fun r6 => (some (decide ((bAnd .u32 r6 p1) = (0 : Int)))))
def m_ref01_Independent (fuel : Nat) (p0 : List (Int) × (List (List (Int × Int)))) (p1 : Int) : Option (Bool) :=
  Option.bind (m_ref01_Valid fuel ((p0.1, p0.2))) fun r9 => (if (!r9) = true then (ref01_Independent_k1 fuel p0 p1 (true)) else (Option.bind (m_ref01_All fuel (List.length p0.2 : Int)) fun r13 => (ref01_Independent_k1 fuel p0 p1 (decide ((bAndNot .u32 p1 r13) ≠ (0 : Int))))))

theorem body69 : HasBody Try.prog 69 := Try.call69

set_option maxHeartbeats 4000000 in
set_option maxRecDepth 20000 in
theorem t_ref01_Independent (fuel : Nat) {p0 : List (Int) × (List (List (Int × Int)))} {p1 : Int} (v0 : Value)  (v1 : Value)  (z2 : List (Value × List (Int × Int))) (r : Bool) (h : m_ref01_Independent fuel p0 p1 = some r) :
    Meets Try.prog 69 #[Value.agg #[v0, v1], Value.int .u32 (p1)] [Sl RI64 v0 p0.1, S2 RI64I64p v1 z2 p0.2] (fun x : Unit => Value.bool (r)) (fun x l => l) (fun _ l => l) := by
  refine Meets.of (vs := [Value.agg #[v0, v1], Value.int .u32 (p1)]) Try.func69 rfl Try.ntmps69 rfl fun c => ?_
  unfold m_ref01_Independent at h
  refine J.seq ?_
  refine J.region ?_
  refine J.loud (Loud.box (cs := [v0, v1]) rfl rfl) rfl fun b1 => ?_
  refine J.quiet (Y.assign rfl) rfl ?_
  refine J.done ?_
  refine J.thenN ?_
  refine J.seq ?_
  refine J.seq ?_
  refine J.midI (A := Bool) (B := Unit) (fun a3 => ref01_Independent_k1 fuel p0 p1 a3 = some r) (fun a3 b4 => [(1, Value.int .u32 (p1)), (2, Value.pointer (some ⟨b1, 0, none⟩)), (16, Value.bool (a3))]) (fun a3 b4 => [Blk b1 [v0, v1] 26]) (fun a3 b4 => [Sl RI64 v0 p0.1, S2 RI64I64p v1 z2 p0.2]) ?_ ?_
  · refine J.region ?_
    refine J.quiet (Y.loadBAll 0 rfl rfl rfl rfl) rfl ?_
    replace h := bnd h; obtain ⟨r9, hr10, h⟩ := h
    refine J.loud (Loud.callL body51 (t_ref01_Valid fuel v0 v1 z2 r9 hr10) rfl (LentAll.cons (Lent.fact 0 rfl) (LentAll.cons (Lent.fact 1 rfl) (LentAll.nil))) (fun _ _ => rfl)) rfl fun x11 => ?_
    refine J.quiet (Y.not rfl) rfl ?_
    refine J.quiet (Y.move rfl) rfl ?_
    refine J.guard (by exact rfl) (by exact rfl) (fun hp12 => ?_) (fun hp12 => ?_)
    · replace h := ifP hp12 h
      refine J.guardN rfl rfl rfl ?_
      refine J.guardN rfl rfl rfl ?_
      refine J.guardN rfl rfl rfl ?_
      refine J.guardN rfl rfl rfl ?_
      refine J.guardN rfl rfl rfl ?_
      refine J.guardN rfl rfl rfl ?_
      refine J.guardN rfl rfl rfl ?_
      refine J.quiet (Y.pickT rfl rfl) rfl ?_
      refine J.done ?_
      refine J.thenN ?_
      exact J.meetI (true) (()) h (by repeat (first | exact SubF.nil | refine SubF.cons rfl ?_)) (SubM.refl _) (LentAll.refl _ _)
    · replace h := ifBN hp12 h
      refine J.guardY rfl (Y.move rfl) rfl ?_
      refine J.guardY rfl (Y.fieldB rfl rfl rfl rfl rfl) rfl ?_
      refine J.guardY rfl (Y.loadB 0 rfl rfl rfl rfl rfl) rfl ?_
      refine J.guardY rfl (Y.lenN rfl (Lent.fact 1 rfl) rfl) rfl ?_
      replace h := bnd h; obtain ⟨r13, hr14, h⟩ := h
      refine J.loudG rfl (Loud.callL body43 (t_ref01_All fuel  r13 hr14) rfl (LentAll.nil) (fun _ _ => rfl)) rfl fun x15 => ?_
      refine J.guardY rfl (Y.andNot rfl rfl) rfl ?_
      refine J.guardY rfl (Y.neq rfl rfl) rfl ?_
      refine J.quiet (Y.pickF rfl rfl) rfl ?_
      refine J.done ?_
      refine J.thenN ?_
      exact J.meetI (decide ((bAndNot .u32 p1 r13) ≠ (0 : Int))) (()) h (by repeat (first | exact SubF.nil | refine SubF.cons rfl ?_)) (SubM.refl _) (LentAll.refl _ _)
  · clear h
    intro a3 b4 h
    unfold ref01_Independent_k1 at h
    refine J.cond (by exact rfl) (fun hp5 => ?_) (fun hp5 => ?_)
    · replace h := ifP hp5 h
      refine J.seq ?_
      refine J.region ?_
      refine J.quiet (Y.assign rfl) rfl ?_
      refine J.done ?_
      refine J.thenN ?_
      refine J.ret ?_
      refine J.thenR ?_
      obtain rfl := Option.some.inj h
      exact J.retG1 (()) rfl rfl (RV.tmp rfl) (SubM.nil) LentAll.nil
    · replace h := ifBN hp5 h
      refine J.skip ?_
      refine J.thenN ?_
      refine J.seq ?_
      refine J.region ?_
      refine J.quiet (Y.loadBAll 0 rfl rfl rfl rfl) rfl ?_
      refine J.quiet (Y.move rfl) rfl ?_
      replace h := bnd h; obtain ⟨r6, hr7, h⟩ := h
      refine J.loud (Loud.callL body68 (t_ref01_Neighbours fuel v0 v1 z2 r6 hr7) rfl (LentAll.cons (Lent.fact 0 rfl) (LentAll.cons (Lent.fact 1 rfl) (LentAll.nil))) (fun _ _ => rfl)) rfl fun x8 => ?_
      refine J.quiet (Y.move rfl) rfl ?_
      refine J.quiet (Y.and rfl rfl) rfl ?_
      refine J.quiet (Y.eql rfl rfl) rfl ?_
      refine J.quiet (Y.assign rfl) rfl ?_
      refine J.done ?_
      refine J.thenN ?_
      refine J.ret ?_
      obtain rfl := Option.some.inj h
      exact J.retG1 (()) rfl rfl (RV.tmp rfl) (SubM.nil) LentAll.nil

end Go.Proofs.Ytemhmmcakmidkaa
end
section
namespace Go.Proofs.Ytemhmmcakmidkaa
open Go.Sx
set_option linter.unusedVariables false
set_option linter.unusedSimpArgs false

def law01_GraphChecks_k1  (a16 : Bool) : Option (Bool) :=
  some (a16)
def m_law01_GraphChecks (fuel : Nat) (p0 : List (Int) × (List (List (Int × Int)))) (p1 : Int) (p2 : Int) (p3 : Int) : Option (Bool) :=
  Option.bind (m_made_LightGraph fuel ((p0.1, p0.2))) fun r2 => (if (!r2) = true then (Option.bind (m_law01_awake fuel ) fun r6 => (some (r6))) else (Option.bind (m_graph_Size fuel ((p0.1, p0.2))) fun r9 => (Option.bind (m_ref01_Size fuel ((p0.1, p0.2))) fun r12 => (Option.bind (m_law01_awake fuel ) fun r18 => (if r18 = true then (Option.bind (m_graph_Valid fuel ((p0.1, p0.2))) fun r22 => (Option.bind (m_ref01_Valid fuel ((p0.1, p0.2))) fun r25 => (if (r22 == r25) = true then (if r9.1 = r12.1 then (if r9.2 = r12.2 then (Option.bind (m_graph_Degree fuel ((p0.1, p0.2)) p1) fun r31 => (Option.bind (m_ref01_Degree fuel ((p0.1, p0.2)) p1) fun r34 => (if r31 = r34 then (Option.bind (m_graph_Back fuel ((p0.1, p0.2)) p1 p2) fun r38 => (Option.bind (m_ref01_Back fuel ((p0.1, p0.2)) p1 p2) fun r41 => (if r38 = r41 then (Option.bind (m_graph_Neighbours fuel ((p0.1, p0.2)) p3) fun r45 => (Option.bind (m_ref01_Neighbours fuel ((p0.1, p0.2)) p3) fun r48 => (if r45 = r48 then (Option.bind (m_graph_Independent fuel ((p0.1, p0.2)) p3) fun r52 => (Option.bind (m_ref01_Independent fuel ((p0.1, p0.2)) p3) fun r55 => (law01_GraphChecks_k1  ((r52 == r55))))) else (law01_GraphChecks_k1  (false))))) else (law01_GraphChecks_k1  (false))))) else (law01_GraphChecks_k1  (false))))) else (law01_GraphChecks_k1  (false))) else (law01_GraphChecks_k1  (false))) else (law01_GraphChecks_k1  (false))))) else (law01_GraphChecks_k1  (false)))))))

theorem body15 : HasBody Try.prog 15 := Try.call15

set_option maxHeartbeats 4000000 in
set_option maxRecDepth 20000 in
theorem t_law01_GraphChecks (fuel : Nat) {p0 : List (Int) × (List (List (Int × Int)))} {p1 : Int} {p2 : Int} {p3 : Int} (v0 : Value)  (v1 : Value)  (z2 : List (Value × List (Int × Int))) (r : Bool) (h : m_law01_GraphChecks fuel p0 p1 p2 p3 = some r) :
    Meets Try.prog 15 #[Value.agg #[v0, v1], Value.int .i64 (p1), Value.int .i64 (p2), Value.int .u32 (p3)] [Sl RI64 v0 p0.1, S2 RI64I64p v1 z2 p0.2] (fun x : Unit => Value.bool (r)) (fun x l => l) (fun _ l => l) := by
  refine Meets.of (vs := [Value.agg #[v0, v1], Value.int .i64 (p1), Value.int .i64 (p2), Value.int .u32 (p3)]) Try.func15 rfl Try.ntmps15 rfl fun c => ?_
  unfold m_law01_GraphChecks at h
  refine J.seq ?_
  refine J.region ?_
  refine J.loud (Loud.box (cs := [v0, v1]) rfl rfl) rfl fun b1 => ?_
  refine J.quiet (Y.assign rfl) rfl ?_
  refine J.done ?_
  refine J.thenN ?_
  refine J.seq ?_
  refine J.seq ?_
  refine J.region ?_
  refine J.quiet (Y.loadBAll 0 rfl rfl rfl rfl) rfl ?_
  replace h := bnd h; obtain ⟨r2, hr3, h⟩ := h
  refine J.loud (Loud.callL body46 (t_made_LightGraph fuel v0 v1 z2 r2 hr3) rfl (LentAll.cons (Lent.fact 0 rfl) (LentAll.cons (Lent.fact 1 rfl) (LentAll.nil))) (fun _ _ => rfl)) rfl fun x4 => ?_
  refine J.quiet (Y.not rfl) rfl ?_
  refine J.done ?_
  refine J.thenN ?_
  refine J.cond (by exact rfl) (fun hp5 => ?_) (fun hp5 => ?_)
  · replace h := ifP hp5 h
    refine J.seq ?_
    refine J.region ?_
    replace h := bnd h; obtain ⟨r6, hr7, h⟩ := h
    refine J.loud (Loud.callL body33 (t_law01_awake fuel  r6 hr7) rfl (LentAll.nil) (fun _ _ => rfl)) rfl fun x8 => ?_
    refine J.quiet (Y.assign rfl) rfl ?_
    refine J.done ?_
    refine J.thenN ?_
    refine J.ret ?_
    refine J.thenR ?_
    obtain rfl := Option.some.inj h
    exact J.retG1 (()) rfl rfl (RV.tmp rfl) (SubM.nil) LentAll.nil
  · replace h := ifBN hp5 h
    refine J.skip ?_
    refine J.thenN ?_
    refine J.seq ?_
    refine J.region ?_
    refine J.quiet (Y.loadBAll 0 rfl rfl rfl rfl) rfl ?_
    replace h := bnd h; obtain ⟨r9, hr10, h⟩ := h
    refine J.loud (Loud.callL body39 (t_graph_Size fuel v0 v1 z2 r9 hr10) rfl (LentAll.cons (Lent.fact 0 rfl) (LentAll.cons (Lent.fact 1 rfl) (LentAll.nil))) (fun _ _ => rfl)) rfl fun x11 => ?_
    refine J.quiet (Y.move rfl) rfl ?_
    refine J.quiet (Y.extract rfl rfl) rfl ?_
    refine J.quiet (Y.extract rfl rfl) rfl ?_
    refine J.quiet (Y.assign rfl) rfl ?_
    refine J.quiet (Y.assign rfl) rfl ?_
    refine J.done ?_
    refine J.thenN ?_
    refine J.seq ?_
    refine J.region ?_
    refine J.quiet (Y.loadBAll 0 rfl rfl rfl rfl) rfl ?_
    replace h := bnd h; obtain ⟨r12, hr13, h⟩ := h
    refine J.loud (Loud.callL body63 (t_ref01_Size fuel v0 v1 z2 r12 hr13) rfl (LentAll.cons (Lent.fact 0 rfl) (LentAll.cons (Lent.fact 1 rfl) (LentAll.nil))) (fun _ _ => rfl)) rfl fun x14 => ?_
    refine J.quiet (Y.move rfl) rfl ?_
    refine J.quiet (Y.extract rfl rfl) rfl ?_
    refine J.quiet (Y.extract rfl rfl) rfl ?_
    refine J.quiet (Y.assign rfl) rfl ?_
    refine J.quiet (Y.assign rfl) rfl ?_
    refine J.done ?_
    refine J.thenN ?_
    refine J.seq ?_
    refine J.midI (A := Bool) (B := Unit) (fun a16 => law01_GraphChecks_k1  a16 = some r) (fun a16 b17 => [(8, Value.bool (a16))]) (fun a16 b17 => []) (fun a16 b17 => [Sl RI64 v0 p0.1, S2 RI64I64p v1 z2 p0.2]) ?_ ?_
    · refine JR.start [0, 1, 3, 7, 3, 31, 63, 127, 255, 511, 511, 2047, 4095, 8191, 16383, 16383, 65535, 131071, 262143, 524287, 524287, 2097151, 524287, 524287, 16777215, 33554431, 67108863, 134217727, 268435455, 268435455, 268435455, 2147483647, 268435455, 268435455, 268435455, 34359738367, 68719476735, 137438953471, 274877906943, 549755813887, 549755813887, 2199023255551, 549755813887, 549755813887, 17592186044415, 35184372088831, 70368744177663, 140737488355327, 281474976710655, 281474976710655, 1125899906842623, 281474976710655, 281474976710655, 9007199254740991, 18014398509481983, 36028797018963967, 72057594037927935] 53 mixedOrders (by decide +kernel) ?_
      refine JR.open (by exact rfl) ?_
      replace h := bnd h; obtain ⟨r18, hr19, h⟩ := h
      refine JR.loud rfl rfl rfl (Loud.callL body33 (t_law01_awake fuel  r18 hr19) rfl (LentAll.nil) (fun _ _ => rfl)) rfl (fun x20 => BsOk.z) fun x20 => ?_
      refine JR.qt rfl (SubM.nil) (SubL.nil) (Y.move rfl) (HistOk.b rfl HistOk.z) ?_
      refine JR.guard (by exact rfl) (by exact rfl) (by exact rfl) (fun hp21 => ?_) (fun hp21 => ?_)
      · replace h := ifP hp21 h
        refine JR.qtG rfl (SubM.refl _) (SubL.nil) (Y.loadBAll 0 rfl rfl rfl rfl) (HistOk.b rfl HistOk.z) ?_
        replace h := bnd h; obtain ⟨r22, hr23, h⟩ := h
        refine JR.loudG rfl rfl rfl rfl (Loud.callL body64 (t_graph_Valid fuel v0 v1 z2 r22 hr23) rfl (LentAll.cons (Lent.fact 0 rfl) (LentAll.cons (Lent.fact 1 rfl) (LentAll.nil))) (fun _ _ => rfl)) rfl (fun x24 => (BsOk.b rfl (BsOk.b rfl BsOk.z))) fun x24 => ?_
        refine JR.qtG rfl (SubM.refl _) (SubL.nil) (Y.loadBAll 0 rfl rfl rfl rfl) (HistOk.h (SubM.cons 0 rfl (SubM.nil)) (SubL.nil) (HistOk.b rfl HistOk.z)) ?_
        replace h := bnd h; obtain ⟨r25, hr26, h⟩ := h
        refine JR.loudG rfl rfl rfl rfl (Loud.callL body51 (t_ref01_Valid fuel v0 v1 z2 r25 hr26) rfl (LentAll.cons (Lent.fact 0 rfl) (LentAll.cons (Lent.fact 1 rfl) (LentAll.nil))) (fun _ _ => rfl)) rfl (fun x27 => (BsOk.b rfl (BsOk.b rfl (BsOk.b rfl BsOk.z)))) fun x27 => ?_
        refine JR.qtG rfl (SubM.nil) (SubL.nil) (Y.eqlB rfl rfl rfl) (HistOk.b rfl (HistOk.b rfl (HistOk.b rfl HistOk.z))) ?_
        refine JR.qt rfl (SubM.nil) (SubL.nil) (Y.pickT rfl rfl) (HistOk.b rfl (HistOk.b rfl (HistOk.b rfl HistOk.z))) ?_
        refine JR.qt rfl (SubM.nil) (SubL.nil) (Y.move rfl) (HistOk.b rfl (HistOk.b rfl (HistOk.b rfl HistOk.z))) ?_
        refine JR.guard (by exact rfl) (by exact rfl) (by exact rfl) (fun hp28 => ?_) (fun hp28 => ?_)
        · replace h := ifP hp28 h
          refine JR.qtG rfl (SubM.nil) (SubL.nil) (Y.move rfl) (HistOk.b rfl (HistOk.b rfl (HistOk.b rfl HistOk.z))) ?_
          refine JR.qtG rfl (SubM.nil) (SubL.nil) (Y.move rfl) (HistOk.b rfl (HistOk.b rfl (HistOk.b rfl HistOk.z))) ?_
          refine JR.qtG rfl (SubM.nil) (SubL.nil) (Y.eql rfl rfl) (HistOk.b rfl (HistOk.b rfl (HistOk.b rfl HistOk.z))) ?_
          refine JR.qt rfl (SubM.nil) (SubL.nil) (Y.pickT rfl rfl) (HistOk.b rfl (HistOk.b rfl (HistOk.b rfl HistOk.z))) ?_
          refine JR.qt rfl (SubM.nil) (SubL.nil) (Y.move rfl) (HistOk.b rfl (HistOk.b rfl (HistOk.b rfl HistOk.z))) ?_
          refine JR.guardD (by exact rfl) (by exact rfl) (by exact rfl) (fun hp29 => ?_) (fun hp29 => ?_)
          · replace h := ifP hp29 h
            refine JR.qtG rfl (SubM.nil) (SubL.nil) (Y.move rfl) (HistOk.b rfl (HistOk.b rfl (HistOk.b rfl HistOk.z))) ?_
            refine JR.qtG rfl (SubM.nil) (SubL.nil) (Y.move rfl) (HistOk.b rfl (HistOk.b rfl (HistOk.b rfl HistOk.z))) ?_
            refine JR.qtG rfl (SubM.nil) (SubL.nil) (Y.eql rfl rfl) (HistOk.b rfl (HistOk.b rfl (HistOk.b rfl HistOk.z))) ?_
            refine JR.qt rfl (SubM.nil) (SubL.nil) (Y.pickT rfl rfl) (HistOk.b rfl (HistOk.b rfl (HistOk.b rfl HistOk.z))) ?_
            refine JR.qt rfl (SubM.nil) (SubL.nil) (Y.move rfl) (HistOk.b rfl (HistOk.b rfl (HistOk.b rfl HistOk.z))) ?_
            refine JR.guardD (by exact rfl) (by exact rfl) (by exact rfl) (fun hp30 => ?_) (fun hp30 => ?_)
            · replace h := ifP hp30 h
              refine JR.qtG rfl (SubM.refl _) (SubL.nil) (Y.loadBAll 0 rfl rfl rfl rfl) (HistOk.b rfl (HistOk.b rfl (HistOk.b rfl HistOk.z))) ?_
              refine JR.qtG rfl (SubM.nil) (SubL.nil) (Y.move rfl) (HistOk.b rfl (HistOk.b rfl (HistOk.b rfl HistOk.z))) ?_
              replace h := bnd h; obtain ⟨r31, hr32, h⟩ := h
              refine JR.loudG rfl rfl rfl rfl (Loud.callL body40 (t_graph_Degree fuel v0 v1 z2 r31 hr32) rfl (LentAll.cons (Lent.fact 0 rfl) (LentAll.cons (Lent.fact 1 rfl) (LentAll.nil))) (fun _ _ => rfl)) rfl (fun x33 => (BsOk.b rfl (BsOk.b rfl (BsOk.b rfl (BsOk.b rfl (BsOk.b rfl (BsOk.b rfl (BsOk.b rfl (BsOk.b rfl (BsOk.b rfl (BsOk.b rfl (BsOk.b rfl (BsOk.b rfl (BsOk.b rfl (BsOk.b rfl (BsOk.b rfl (BsOk.b rfl (BsOk.b rfl (BsOk.b rfl BsOk.z))))))))))))))))))) fun x33 => ?_
              refine JR.qtG rfl (SubM.refl _) (SubL.nil) (Y.loadBAll 0 rfl rfl rfl rfl) (HistOk.h (SubM.cons 0 rfl (SubM.nil)) (SubL.nil) (HistOk.b rfl (HistOk.b rfl (HistOk.b rfl HistOk.z)))) ?_
              refine JR.qtG rfl (SubM.nil) (SubL.nil) (Y.move rfl) (HistOk.h (SubM.nil) (SubL.nil) (HistOk.b rfl (HistOk.b rfl (HistOk.b rfl HistOk.z)))) ?_
              replace h := bnd h; obtain ⟨r34, hr35, h⟩ := h
              refine JR.loudG rfl rfl rfl rfl (Loud.callL body65 (t_ref01_Degree fuel v0 v1 z2 r34 hr35) rfl (LentAll.cons (Lent.fact 0 rfl) (LentAll.cons (Lent.fact 1 rfl) (LentAll.nil))) (fun _ _ => rfl)) rfl (fun x36 => (BsOk.b rfl (BsOk.b rfl (BsOk.b rfl (BsOk.b rfl (BsOk.b rfl (BsOk.b rfl (BsOk.b rfl (BsOk.b rfl (BsOk.b rfl (BsOk.b rfl (BsOk.b rfl (BsOk.b rfl (BsOk.b rfl (BsOk.b rfl (BsOk.b rfl (BsOk.b rfl (BsOk.b rfl (BsOk.b rfl (BsOk.b rfl (BsOk.b rfl BsOk.z))))))))))))))))))))) fun x36 => ?_
              refine JR.qtG rfl (SubM.nil) (SubL.nil) (Y.eql rfl rfl) (HistOk.b rfl (HistOk.b rfl (HistOk.b rfl (HistOk.b rfl (HistOk.b rfl HistOk.z))))) ?_
              refine JR.qt rfl (SubM.nil) (SubL.nil) (Y.pickT rfl rfl) (HistOk.b rfl (HistOk.b rfl (HistOk.b rfl (HistOk.b rfl (HistOk.b rfl HistOk.z))))) ?_
              refine JR.qt rfl (SubM.nil) (SubL.nil) (Y.move rfl) (HistOk.b rfl (HistOk.b rfl (HistOk.b rfl (HistOk.b rfl (HistOk.b rfl HistOk.z))))) ?_
              refine JR.guardD (by exact rfl) (by exact rfl) (by exact rfl) (fun hp37 => ?_) (fun hp37 => ?_)
              · replace h := ifP hp37 h
                refine JR.qtG rfl (SubM.refl _) (SubL.nil) (Y.loadBAll 0 rfl rfl rfl rfl) (HistOk.b rfl (HistOk.b rfl (HistOk.b rfl (HistOk.b rfl (HistOk.b rfl HistOk.z))))) ?_
                refine JR.qtG rfl (SubM.nil) (SubL.nil) (Y.move rfl) (HistOk.b rfl (HistOk.b rfl (HistOk.b rfl (HistOk.b rfl (HistOk.b rfl HistOk.z))))) ?_
                refine JR.qtG rfl (SubM.nil) (SubL.nil) (Y.move rfl) (HistOk.b rfl (HistOk.b rfl (HistOk.b rfl (HistOk.b rfl (HistOk.b rfl HistOk.z))))) ?_
                replace h := bnd h; obtain ⟨r38, hr39, h⟩ := h
                refine JR.loudG rfl rfl rfl rfl (Loud.callL body42 (t_graph_Back fuel v0 v1 z2 r38 hr39) rfl (LentAll.cons (Lent.fact 0 rfl) (LentAll.cons (Lent.fact 1 rfl) (LentAll.nil))) (fun _ _ => rfl)) rfl (fun x40 => (BsOk.b rfl (BsOk.b rfl (BsOk.b rfl (BsOk.b rfl (BsOk.b rfl (BsOk.b rfl (BsOk.b rfl (BsOk.b rfl (BsOk.b rfl (BsOk.b rfl (BsOk.b rfl (BsOk.b rfl (BsOk.b rfl (BsOk.b rfl (BsOk.b rfl (BsOk.b rfl (BsOk.b rfl (BsOk.b rfl (BsOk.b rfl (BsOk.b rfl (BsOk.b rfl (BsOk.b rfl (BsOk.b rfl (BsOk.b rfl (BsOk.b rfl (BsOk.b rfl BsOk.z))))))))))))))))))))))))))) fun x40 => ?_
                refine JR.qtG rfl (SubM.refl _) (SubL.nil) (Y.loadBAll 0 rfl rfl rfl rfl) (HistOk.h (SubM.cons 0 rfl (SubM.nil)) (SubL.nil) (HistOk.b rfl (HistOk.b rfl (HistOk.b rfl (HistOk.b rfl (HistOk.b rfl HistOk.z)))))) ?_
                refine JR.qtG rfl (SubM.nil) (SubL.nil) (Y.move rfl) (HistOk.h (SubM.nil) (SubL.nil) (HistOk.b rfl (HistOk.b rfl (HistOk.b rfl (HistOk.b rfl (HistOk.b rfl HistOk.z)))))) ?_
                refine JR.qtG rfl (SubM.nil) (SubL.nil) (Y.move rfl) (HistOk.h (SubM.nil) (SubL.nil) (HistOk.b rfl (HistOk.b rfl (HistOk.b rfl (HistOk.b rfl (HistOk.b rfl HistOk.z)))))) ?_
                replace h := bnd h; obtain ⟨r41, hr42, h⟩ := h
                refine JR.loudG rfl rfl rfl rfl (Loud.callL body66 (t_ref01_Back fuel v0 v1 z2 r41 hr42) rfl (LentAll.cons (Lent.fact 0 rfl) (LentAll.cons (Lent.fact 1 rfl) (LentAll.nil))) (fun _ _ => rfl)) rfl (fun x43 => (BsOk.b rfl (BsOk.b rfl (BsOk.b rfl (BsOk.b rfl (BsOk.b rfl (BsOk.b rfl (BsOk.b rfl (BsOk.b rfl (BsOk.b rfl (BsOk.b rfl (BsOk.b rfl (BsOk.b rfl (BsOk.b rfl (BsOk.b rfl (BsOk.b rfl (BsOk.b rfl (BsOk.b rfl (BsOk.b rfl (BsOk.b rfl (BsOk.b rfl (BsOk.b rfl (BsOk.b rfl (BsOk.b rfl (BsOk.b rfl (BsOk.b rfl (BsOk.b rfl (BsOk.b rfl (BsOk.b rfl (BsOk.b rfl BsOk.z)))))))))))))))))))))))))))))) fun x43 => ?_
                refine JR.qtG rfl (SubM.nil) (SubL.nil) (Y.eql rfl rfl) (HistOk.b rfl (HistOk.b rfl (HistOk.b rfl (HistOk.b rfl (HistOk.b rfl (HistOk.b rfl (HistOk.b rfl HistOk.z))))))) ?_
                refine JR.qt rfl (SubM.nil) (SubL.nil) (Y.pickT rfl rfl) (HistOk.b rfl (HistOk.b rfl (HistOk.b rfl (HistOk.b rfl (HistOk.b rfl (HistOk.b rfl (HistOk.b rfl HistOk.z))))))) ?_
                refine JR.qt rfl (SubM.nil) (SubL.nil) (Y.move rfl) (HistOk.b rfl (HistOk.b rfl (HistOk.b rfl (HistOk.b rfl (HistOk.b rfl (HistOk.b rfl (HistOk.b rfl HistOk.z))))))) ?_
                refine JR.guardD (by exact rfl) (by exact rfl) (by exact rfl) (fun hp44 => ?_) (fun hp44 => ?_)
                · replace h := ifP hp44 h
                  refine JR.qtG rfl (SubM.refl _) (SubL.nil) (Y.loadBAll 0 rfl rfl rfl rfl) (HistOk.b rfl (HistOk.b rfl (HistOk.b rfl (HistOk.b rfl (HistOk.b rfl (HistOk.b rfl (HistOk.b rfl HistOk.z))))))) ?_
                  refine JR.qtG rfl (SubM.nil) (SubL.nil) (Y.move rfl) (HistOk.b rfl (HistOk.b rfl (HistOk.b rfl (HistOk.b rfl (HistOk.b rfl (HistOk.b rfl (HistOk.b rfl HistOk.z))))))) ?_
                  replace h := bnd h; obtain ⟨r45, hr46, h⟩ := h
                  refine JR.loudG rfl rfl rfl rfl (Loud.callL body67 (t_graph_Neighbours fuel v0 v1 z2 r45 hr46) rfl (LentAll.cons (Lent.fact 0 rfl) (LentAll.cons (Lent.fact 1 rfl) (LentAll.nil))) (fun _ _ => rfl)) rfl (fun x47 => (BsOk.b rfl (BsOk.b rfl (BsOk.b rfl (BsOk.b rfl (BsOk.b rfl (BsOk.b rfl (BsOk.b rfl (BsOk.b rfl (BsOk.b rfl (BsOk.b rfl (BsOk.b rfl (BsOk.b rfl (BsOk.b rfl (BsOk.b rfl (BsOk.b rfl (BsOk.b rfl (BsOk.b rfl (BsOk.b rfl (BsOk.b rfl (BsOk.b rfl (BsOk.b rfl (BsOk.b rfl (BsOk.b rfl (BsOk.b rfl (BsOk.b rfl (BsOk.b rfl (BsOk.b rfl (BsOk.b rfl (BsOk.b rfl (BsOk.b rfl (BsOk.b rfl (BsOk.b rfl (BsOk.b rfl (BsOk.b rfl BsOk.z))))))))))))))))))))))))))))))))))) fun x47 => ?_
                  refine JR.qtG rfl (SubM.refl _) (SubL.nil) (Y.loadBAll 0 rfl rfl rfl rfl) (HistOk.h (SubM.cons 0 rfl (SubM.nil)) (SubL.nil) (HistOk.b rfl (HistOk.b rfl (HistOk.b rfl (HistOk.b rfl (HistOk.b rfl (HistOk.b rfl (HistOk.b rfl HistOk.z)))))))) ?_
                  refine JR.qtG rfl (SubM.nil) (SubL.nil) (Y.move rfl) (HistOk.h (SubM.nil) (SubL.nil) (HistOk.b rfl (HistOk.b rfl (HistOk.b rfl (HistOk.b rfl (HistOk.b rfl (HistOk.b rfl (HistOk.b rfl HistOk.z)))))))) ?_
                  replace h := bnd h; obtain ⟨r48, hr49, h⟩ := h
                  refine JR.loudG rfl rfl rfl rfl (Loud.callL body68 (t_ref01_Neighbours fuel v0 v1 z2 r48 hr49) rfl (LentAll.cons (Lent.fact 0 rfl) (LentAll.cons (Lent.fact 1 rfl) (LentAll.nil))) (fun _ _ => rfl)) rfl (fun x50 => (BsOk.b rfl (BsOk.b rfl (BsOk.b rfl (BsOk.b rfl (BsOk.b rfl (BsOk.b rfl (BsOk.b rfl (BsOk.b rfl (BsOk.b rfl (BsOk.b rfl (BsOk.b rfl (BsOk.b rfl (BsOk.b rfl (BsOk.b rfl (BsOk.b rfl (BsOk.b rfl (BsOk.b rfl (BsOk.b rfl (BsOk.b rfl (BsOk.b rfl (BsOk.b rfl (BsOk.b rfl (BsOk.b rfl (BsOk.b rfl (BsOk.b rfl (BsOk.b rfl (BsOk.b rfl (BsOk.b rfl (BsOk.b rfl (BsOk.b rfl (BsOk.b rfl (BsOk.b rfl (BsOk.b rfl (BsOk.b rfl (BsOk.b rfl (BsOk.b rfl BsOk.z))))))))))))))))))))))))))))))))))))) fun x50 => ?_
                  refine JR.qtG rfl (SubM.nil) (SubL.nil) (Y.eql rfl rfl) (HistOk.b rfl (HistOk.b rfl (HistOk.b rfl (HistOk.b rfl (HistOk.b rfl (HistOk.b rfl (HistOk.b rfl (HistOk.b rfl (HistOk.b rfl HistOk.z))))))))) ?_
                  refine JR.qt rfl (SubM.nil) (SubL.nil) (Y.pickT rfl rfl) (HistOk.b rfl (HistOk.b rfl (HistOk.b rfl (HistOk.b rfl (HistOk.b rfl (HistOk.b rfl (HistOk.b rfl (HistOk.b rfl (HistOk.b rfl HistOk.z))))))))) ?_
                  refine JR.qt rfl (SubM.nil) (SubL.nil) (Y.move rfl) (HistOk.b rfl (HistOk.b rfl (HistOk.b rfl (HistOk.b rfl (HistOk.b rfl (HistOk.b rfl (HistOk.b rfl (HistOk.b rfl (HistOk.b rfl HistOk.z))))))))) ?_
                  refine JR.guardD (by exact rfl) (by exact rfl) (by exact rfl) (fun hp51 => ?_) (fun hp51 => ?_)
                  · replace h := ifP hp51 h
                    refine JR.qtG rfl (SubM.refl _) (SubL.nil) (Y.loadBAll 0 rfl rfl rfl rfl) (HistOk.b rfl (HistOk.b rfl (HistOk.b rfl (HistOk.b rfl (HistOk.b rfl (HistOk.b rfl (HistOk.b rfl (HistOk.b rfl (HistOk.b rfl HistOk.z))))))))) ?_
                    refine JR.qtG rfl (SubM.nil) (SubL.nil) (Y.move rfl) (HistOk.b rfl (HistOk.b rfl (HistOk.b rfl (HistOk.b rfl (HistOk.b rfl (HistOk.b rfl (HistOk.b rfl (HistOk.b rfl (HistOk.b rfl HistOk.z))))))))) ?_
                    replace h := bnd h; obtain ⟨r52, hr53, h⟩ := h
                    refine JR.loudG rfl rfl rfl rfl (Loud.callL body44 (t_graph_Independent fuel v0 v1 z2 r52 hr53) rfl (LentAll.cons (Lent.fact 0 rfl) (LentAll.cons (Lent.fact 1 rfl) (LentAll.nil))) (fun _ _ => rfl)) rfl (fun x54 => (BsOk.b rfl (BsOk.b rfl (BsOk.b rfl (BsOk.b rfl (BsOk.b rfl (BsOk.b rfl (BsOk.b rfl (BsOk.b rfl (BsOk.b rfl (BsOk.b rfl (BsOk.b rfl (BsOk.b rfl (BsOk.b rfl (BsOk.b rfl (BsOk.b rfl (BsOk.b rfl (BsOk.b rfl (BsOk.b rfl (BsOk.b rfl (BsOk.b rfl (BsOk.b rfl (BsOk.b rfl (BsOk.b rfl (BsOk.b rfl (BsOk.b rfl (BsOk.b rfl (BsOk.b rfl (BsOk.b rfl (BsOk.b rfl (BsOk.b rfl (BsOk.b rfl (BsOk.b rfl (BsOk.b rfl (BsOk.b rfl (BsOk.b rfl (BsOk.b rfl (BsOk.b rfl (BsOk.b rfl (BsOk.b rfl (BsOk.b rfl (BsOk.b rfl BsOk.z)))))))))))))))))))))))))))))))))))))))))) fun x54 => ?_
                    refine JR.qtG rfl (SubM.refl _) (SubL.nil) (Y.loadBAll 0 rfl rfl rfl rfl) (HistOk.h (SubM.cons 0 rfl (SubM.nil)) (SubL.nil) (HistOk.b rfl (HistOk.b rfl (HistOk.b rfl (HistOk.b rfl (HistOk.b rfl (HistOk.b rfl (HistOk.b rfl (HistOk.b rfl (HistOk.b rfl HistOk.z)))))))))) ?_
                    refine JR.qtG rfl (SubM.nil) (SubL.nil) (Y.move rfl) (HistOk.h (SubM.nil) (SubL.nil) (HistOk.b rfl (HistOk.b rfl (HistOk.b rfl (HistOk.b rfl (HistOk.b rfl (HistOk.b rfl (HistOk.b rfl (HistOk.b rfl (HistOk.b rfl HistOk.z)))))))))) ?_
                    refine JR.tailD 53 rfl rfl ?_
                    replace h := bnd h; obtain ⟨r55, hr56, h⟩ := h
                    refine J.loudG rfl (Loud.callL body69 (t_ref01_Independent fuel v0 v1 z2 r55 hr56) rfl (LentAll.cons (Lent.fact 0 rfl) (LentAll.cons (Lent.fact 1 rfl) (LentAll.nil))) (fun _ _ => rfl)) rfl fun x57 => ?_
                    refine J.guardY rfl (Y.eqlB rfl rfl rfl) rfl ?_
                    refine J.quiet (Y.pickT rfl rfl) rfl ?_
                    refine J.quiet (Y.assign rfl) rfl ?_
                    refine J.done ?_
                    refine J.thenN ?_
                    exact J.meetI ((r52 == r55)) (()) h (by repeat (first | exact SubF.nil | refine SubF.cons rfl ?_)) (SubM.nil) (LentAll.refl _ _)
                  · replace h := ifN hp51 h
                    refine JR.guardN rfl rfl rfl rfl ?_
                    refine JR.guardN rfl rfl rfl rfl ?_
                    refine JR.guardN rfl rfl rfl rfl ?_
                    refine JR.guardN rfl rfl rfl rfl ?_
                    refine JR.guardN rfl rfl rfl rfl ?_
                    refine JR.tailD 53 rfl rfl ?_
                    refine J.guardN rfl rfl rfl ?_
                    refine J.guardN rfl rfl rfl ?_
                    refine J.quiet (Y.pickF rfl rfl) rfl ?_
                    refine J.quiet (Y.assign rfl) rfl ?_
                    refine J.done ?_
                    refine J.thenN ?_
                    exact J.meetI (false) (()) h (by repeat (first | exact SubF.nil | refine SubF.cons rfl ?_)) (SubM.nil) (LentAll.refl _ _)
                · replace h := ifN hp44 h
                  refine JR.guardN rfl rfl rfl rfl ?_
                  refine JR.guardN rfl rfl rfl rfl ?_
                  refine JR.guardN rfl rfl rfl rfl ?_
                  refine JR.guardN rfl rfl rfl rfl ?_
                  refine JR.guardN rfl rfl rfl rfl ?_
                  refine JR.guardN rfl rfl rfl rfl ?_
                  refine JR.guardN rfl rfl rfl rfl ?_
                  refine JR.qt rfl (SubM.nil) (SubL.nil) (Y.pickF rfl rfl) (HistOk.b rfl (HistOk.b rfl (HistOk.b rfl (HistOk.b rfl (HistOk.b rfl (HistOk.b rfl (HistOk.b rfl HistOk.z))))))) ?_
                  refine JR.qt rfl (SubM.nil) (SubL.nil) (Y.move rfl) (HistOk.b rfl (HistOk.b rfl (HistOk.b rfl (HistOk.b rfl (HistOk.b rfl (HistOk.b rfl (HistOk.b rfl HistOk.z))))))) ?_
                  refine JR.guardN rfl rfl rfl rfl ?_
                  refine JR.guardN rfl rfl rfl rfl ?_
                  refine JR.guardN rfl rfl rfl rfl ?_
                  refine JR.guardN rfl rfl rfl rfl ?_
                  refine JR.guardN rfl rfl rfl rfl ?_
                  refine JR.tailD 53 rfl rfl ?_
                  refine J.guardN rfl rfl rfl ?_
                  refine J.guardN rfl rfl rfl ?_
                  refine J.quiet (Y.pickF rfl rfl) rfl ?_
                  refine J.quiet (Y.assign rfl) rfl ?_
                  refine J.done ?_
                  refine J.thenN ?_
                  exact J.meetI (false) (()) h (by repeat (first | exact SubF.nil | refine SubF.cons rfl ?_)) (SubM.nil) (LentAll.refl _ _)
              · replace h := ifN hp37 h
                refine JR.guardN rfl rfl rfl rfl ?_
                refine JR.guardN rfl rfl rfl rfl ?_
                refine JR.guardN rfl rfl rfl rfl ?_
                refine JR.guardN rfl rfl rfl rfl ?_
                refine JR.guardN rfl rfl rfl rfl ?_
                refine JR.guardN rfl rfl rfl rfl ?_
                refine JR.guardN rfl rfl rfl rfl ?_
                refine JR.guardN rfl rfl rfl rfl ?_
                refine JR.guardN rfl rfl rfl rfl ?_
                refine JR.qt rfl (SubM.nil) (SubL.nil) (Y.pickF rfl rfl) (HistOk.b rfl (HistOk.b rfl (HistOk.b rfl (HistOk.b rfl (HistOk.b rfl HistOk.z))))) ?_
                refine JR.qt rfl (SubM.nil) (SubL.nil) (Y.move rfl) (HistOk.b rfl (HistOk.b rfl (HistOk.b rfl (HistOk.b rfl (HistOk.b rfl HistOk.z))))) ?_
                refine JR.guardN rfl rfl rfl rfl ?_
                refine JR.guardN rfl rfl rfl rfl ?_
                refine JR.guardN rfl rfl rfl rfl ?_
                refine JR.guardN rfl rfl rfl rfl ?_
                refine JR.guardN rfl rfl rfl rfl ?_
                refine JR.guardN rfl rfl rfl rfl ?_
                refine JR.guardN rfl rfl rfl rfl ?_
                refine JR.qt rfl (SubM.nil) (SubL.nil) (Y.pickF rfl rfl) (HistOk.b rfl (HistOk.b rfl (HistOk.b rfl (HistOk.b rfl (HistOk.b rfl HistOk.z))))) ?_
                refine JR.qt rfl (SubM.nil) (SubL.nil) (Y.move rfl) (HistOk.b rfl (HistOk.b rfl (HistOk.b rfl (HistOk.b rfl (HistOk.b rfl HistOk.z))))) ?_
                refine JR.guardN rfl rfl rfl rfl ?_
                refine JR.guardN rfl rfl rfl rfl ?_
                refine JR.guardN rfl rfl rfl rfl ?_
                refine JR.guardN rfl rfl rfl rfl ?_
                refine JR.guardN rfl rfl rfl rfl ?_
                refine JR.tailD 53 rfl rfl ?_
                refine J.guardN rfl rfl rfl ?_
                refine J.guardN rfl rfl rfl ?_
                refine J.quiet (Y.pickF rfl rfl) rfl ?_
                refine J.quiet (Y.assign rfl) rfl ?_
                refine J.done ?_
                refine J.thenN ?_
                exact J.meetI (false) (()) h (by repeat (first | exact SubF.nil | refine SubF.cons rfl ?_)) (SubM.nil) (LentAll.refl _ _)
            · replace h := ifN hp30 h
              refine JR.guardN rfl rfl rfl rfl ?_
              refine JR.guardN rfl rfl rfl rfl ?_
              refine JR.guardN rfl rfl rfl rfl ?_
              refine JR.guardN rfl rfl rfl rfl ?_
              refine JR.guardN rfl rfl rfl rfl ?_
              refine JR.guardN rfl rfl rfl rfl ?_
              refine JR.guardN rfl rfl rfl rfl ?_
              refine JR.qt rfl (SubM.nil) (SubL.nil) (Y.pickF rfl rfl) (HistOk.b rfl (HistOk.b rfl (HistOk.b rfl HistOk.z))) ?_
              refine JR.qt rfl (SubM.nil) (SubL.nil) (Y.move rfl) (HistOk.b rfl (HistOk.b rfl (HistOk.b rfl HistOk.z))) ?_
              refine JR.guardN rfl rfl rfl rfl ?_
              refine JR.guardN rfl rfl rfl rfl ?_
              refine JR.guardN rfl rfl rfl rfl ?_
              refine JR.guardN rfl rfl rfl rfl ?_
              refine JR.guardN rfl rfl rfl rfl ?_
              refine JR.guardN rfl rfl rfl rfl ?_
              refine JR.guardN rfl rfl rfl rfl ?_
              refine JR.guardN rfl rfl rfl rfl ?_
              refine JR.guardN rfl rfl rfl rfl ?_
              refine JR.qt rfl (SubM.nil) (SubL.nil) (Y.pickF rfl rfl) (HistOk.b rfl (HistOk.b rfl (HistOk.b rfl HistOk.z))) ?_
              refine JR.qt rfl (SubM.nil) (SubL.nil) (Y.move rfl) (HistOk.b rfl (HistOk.b rfl (HistOk.b rfl HistOk.z))) ?_
              refine JR.guardN rfl rfl rfl rfl ?_
              refine JR.guardN rfl rfl rfl rfl ?_
              refine JR.guardN rfl rfl rfl rfl ?_
              refine JR.guardN rfl rfl rfl rfl ?_
              refine JR.guardN rfl rfl rfl rfl ?_
              refine JR.guardN rfl rfl rfl rfl ?_
              refine JR.guardN rfl rfl rfl rfl ?_
              refine JR.qt rfl (SubM.nil) (SubL.nil) (Y.pickF rfl rfl) (HistOk.b rfl (HistOk.b rfl (HistOk.b rfl HistOk.z))) ?_
              refine JR.qt rfl (SubM.nil) (SubL.nil) (Y.move rfl) (HistOk.b rfl (HistOk.b rfl (HistOk.b rfl HistOk.z))) ?_
              refine JR.guardN rfl rfl rfl rfl ?_
              refine JR.guardN rfl rfl rfl rfl ?_
              refine JR.guardN rfl rfl rfl rfl ?_
              refine JR.guardN rfl rfl rfl rfl ?_
              refine JR.guardN rfl rfl rfl rfl ?_
              refine JR.tailD 53 rfl rfl ?_
              refine J.guardN rfl rfl rfl ?_
              refine J.guardN rfl rfl rfl ?_
              refine J.quiet (Y.pickF rfl rfl) rfl ?_
              refine J.quiet (Y.assign rfl) rfl ?_
              refine J.done ?_
              refine J.thenN ?_
              exact J.meetI (false) (()) h (by repeat (first | exact SubF.nil | refine SubF.cons rfl ?_)) (SubM.nil) (LentAll.refl _ _)
          · replace h := ifN hp29 h
            refine JR.guardN rfl rfl rfl rfl ?_
            refine JR.guardN rfl rfl rfl rfl ?_
            refine JR.guardN rfl rfl rfl rfl ?_
            refine JR.qt rfl (SubM.nil) (SubL.nil) (Y.pickF rfl rfl) (HistOk.b rfl (HistOk.b rfl (HistOk.b rfl HistOk.z))) ?_
            refine JR.qt rfl (SubM.nil) (SubL.nil) (Y.move rfl) (HistOk.b rfl (HistOk.b rfl (HistOk.b rfl HistOk.z))) ?_
            refine JR.guardN rfl rfl rfl rfl ?_
            refine JR.guardN rfl rfl rfl rfl ?_
            refine JR.guardN rfl rfl rfl rfl ?_
            refine JR.guardN rfl rfl rfl rfl ?_
            refine JR.guardN rfl rfl rfl rfl ?_
            refine JR.guardN rfl rfl rfl rfl ?_
            refine JR.guardN rfl rfl rfl rfl ?_
            refine JR.qt rfl (SubM.nil) (SubL.nil) (Y.pickF rfl rfl) (HistOk.b rfl (HistOk.b rfl (HistOk.b rfl HistOk.z))) ?_
            refine JR.qt rfl (SubM.nil) (SubL.nil) (Y.move rfl) (HistOk.b rfl (HistOk.b rfl (HistOk.b rfl HistOk.z))) ?_
            refine JR.guardN rfl rfl rfl rfl ?_
            refine JR.guardN rfl rfl rfl rfl ?_
            refine JR.guardN rfl rfl rfl rfl ?_
            refine JR.guardN rfl rfl rfl rfl ?_
            refine JR.guardN rfl rfl rfl rfl ?_
            refine JR.guardN rfl rfl rfl rfl ?_
            refine JR.guardN rfl rfl rfl rfl ?_
            refine JR.guardN rfl rfl rfl rfl ?_
            refine JR.guardN rfl rfl rfl rfl ?_
            refine JR.qt rfl (SubM.nil) (SubL.nil) (Y.pickF rfl rfl) (HistOk.b rfl (HistOk.b rfl (HistOk.b rfl HistOk.z))) ?_
            refine JR.qt rfl (SubM.nil) (SubL.nil) (Y.move rfl) (HistOk.b rfl (HistOk.b rfl (HistOk.b rfl HistOk.z))) ?_
            refine JR.guardN rfl rfl rfl rfl ?_
            refine JR.guardN rfl rfl rfl rfl ?_
            refine JR.guardN rfl rfl rfl rfl ?_
            refine JR.guardN rfl rfl rfl rfl ?_
            refine JR.guardN rfl rfl rfl rfl ?_
            refine JR.guardN rfl rfl rfl rfl ?_
            refine JR.guardN rfl rfl rfl rfl ?_
            refine JR.qt rfl (SubM.nil) (SubL.nil) (Y.pickF rfl rfl) (HistOk.b rfl (HistOk.b rfl (HistOk.b rfl HistOk.z))) ?_
            refine JR.qt rfl (SubM.nil) (SubL.nil) (Y.move rfl) (HistOk.b rfl (HistOk.b rfl (HistOk.b rfl HistOk.z))) ?_
            refine JR.guardN rfl rfl rfl rfl ?_
            refine JR.guardN rfl rfl rfl rfl ?_
            refine JR.guardN rfl rfl rfl rfl ?_
            refine JR.guardN rfl rfl rfl rfl ?_
            refine JR.guardN rfl rfl rfl rfl ?_
            refine JR.tailD 53 rfl rfl ?_
            refine J.guardN rfl rfl rfl ?_
            refine J.guardN rfl rfl rfl ?_
            refine J.quiet (Y.pickF rfl rfl) rfl ?_
            refine J.quiet (Y.assign rfl) rfl ?_
            refine J.done ?_
            refine J.thenN ?_
            exact J.meetI (false) (()) h (by repeat (first | exact SubF.nil | refine SubF.cons rfl ?_)) (SubM.nil) (LentAll.refl _ _)
        · replace h := ifBN hp28 h
          refine JR.guardN rfl rfl rfl rfl ?_
          refine JR.guardN rfl rfl rfl rfl ?_
          refine JR.guardN rfl rfl rfl rfl ?_
          refine JR.qt rfl (SubM.nil) (SubL.nil) (Y.pickF rfl rfl) (HistOk.b rfl (HistOk.b rfl (HistOk.b rfl HistOk.z))) ?_
          refine JR.qt rfl (SubM.nil) (SubL.nil) (Y.move rfl) (HistOk.b rfl (HistOk.b rfl (HistOk.b rfl HistOk.z))) ?_
          refine JR.guardN rfl rfl rfl rfl ?_
          refine JR.guardN rfl rfl rfl rfl ?_
          refine JR.guardN rfl rfl rfl rfl ?_
          refine JR.qt rfl (SubM.nil) (SubL.nil) (Y.pickF rfl rfl) (HistOk.b rfl (HistOk.b rfl (HistOk.b rfl HistOk.z))) ?_
          refine JR.qt rfl (SubM.nil) (SubL.nil) (Y.move rfl) (HistOk.b rfl (HistOk.b rfl (HistOk.b rfl HistOk.z))) ?_
          refine JR.guardN rfl rfl rfl rfl ?_
          refine JR.guardN rfl rfl rfl rfl ?_
          refine JR.guardN rfl rfl rfl rfl ?_
          refine JR.guardN rfl rfl rfl rfl ?_
          refine JR.guardN rfl rfl rfl rfl ?_
          refine JR.guardN rfl rfl rfl rfl ?_
          refine JR.guardN rfl rfl rfl rfl ?_
          refine JR.qt rfl (SubM.nil) (SubL.nil) (Y.pickF rfl rfl) (HistOk.b rfl (HistOk.b rfl (HistOk.b rfl HistOk.z))) ?_
          refine JR.qt rfl (SubM.nil) (SubL.nil) (Y.move rfl) (HistOk.b rfl (HistOk.b rfl (HistOk.b rfl HistOk.z))) ?_
          refine JR.guardN rfl rfl rfl rfl ?_
          refine JR.guardN rfl rfl rfl rfl ?_
          refine JR.guardN rfl rfl rfl rfl ?_
          refine JR.guardN rfl rfl rfl rfl ?_
          refine JR.guardN rfl rfl rfl rfl ?_
          refine JR.guardN rfl rfl rfl rfl ?_
          refine JR.guardN rfl rfl rfl rfl ?_
          refine JR.guardN rfl rfl rfl rfl ?_
          refine JR.guardN rfl rfl rfl rfl ?_
          refine JR.qt rfl (SubM.nil) (SubL.nil) (Y.pickF rfl rfl) (HistOk.b rfl (HistOk.b rfl (HistOk.b rfl HistOk.z))) ?_
          refine JR.qt rfl (SubM.nil) (SubL.nil) (Y.move rfl) (HistOk.b rfl (HistOk.b rfl (HistOk.b rfl HistOk.z))) ?_
          refine JR.guardN rfl rfl rfl rfl ?_
          refine JR.guardN rfl rfl rfl rfl ?_
          refine JR.guardN rfl rfl rfl rfl ?_
          refine JR.guardN rfl rfl rfl rfl ?_
          refine JR.guardN rfl rfl rfl rfl ?_
          refine JR.guardN rfl rfl rfl rfl ?_
          refine JR.guardN rfl rfl rfl rfl ?_
          refine JR.qt rfl (SubM.nil) (SubL.nil) (Y.pickF rfl rfl) (HistOk.b rfl (HistOk.b rfl (HistOk.b rfl HistOk.z))) ?_
          refine JR.qt rfl (SubM.nil) (SubL.nil) (Y.move rfl) (HistOk.b rfl (HistOk.b rfl (HistOk.b rfl HistOk.z))) ?_
          refine JR.guardN rfl rfl rfl rfl ?_
          refine JR.guardN rfl rfl rfl rfl ?_
          refine JR.guardN rfl rfl rfl rfl ?_
          refine JR.guardN rfl rfl rfl rfl ?_
          refine JR.guardN rfl rfl rfl rfl ?_
          refine JR.tailD 53 rfl rfl ?_
          refine J.guardN rfl rfl rfl ?_
          refine J.guardN rfl rfl rfl ?_
          refine J.quiet (Y.pickF rfl rfl) rfl ?_
          refine J.quiet (Y.assign rfl) rfl ?_
          refine J.done ?_
          refine J.thenN ?_
          exact J.meetI (false) (()) h (by repeat (first | exact SubF.nil | refine SubF.cons rfl ?_)) (SubM.nil) (LentAll.refl _ _)
      · replace h := ifBN hp21 h
        refine JR.guardN rfl rfl rfl rfl ?_
        refine JR.guardN rfl rfl rfl rfl ?_
        refine JR.guardN rfl rfl rfl rfl ?_
        refine JR.guardN rfl rfl rfl rfl ?_
        refine JR.guardN rfl rfl rfl rfl ?_
        refine JR.qt rfl (SubM.nil) (SubL.nil) (Y.pickF rfl rfl) (HistOk.b rfl HistOk.z) ?_
        refine JR.qt rfl (SubM.nil) (SubL.nil) (Y.move rfl) (HistOk.b rfl HistOk.z) ?_
        refine JR.guardN rfl rfl rfl rfl ?_
        refine JR.guardN rfl rfl rfl rfl ?_
        refine JR.guardN rfl rfl rfl rfl ?_
        refine JR.qt rfl (SubM.nil) (SubL.nil) (Y.pickF rfl rfl) (HistOk.b rfl HistOk.z) ?_
        refine JR.qt rfl (SubM.nil) (SubL.nil) (Y.move rfl) (HistOk.b rfl HistOk.z) ?_
        refine JR.guardN rfl rfl rfl rfl ?_
        refine JR.guardN rfl rfl rfl rfl ?_
        refine JR.guardN rfl rfl rfl rfl ?_
        refine JR.qt rfl (SubM.nil) (SubL.nil) (Y.pickF rfl rfl) (HistOk.b rfl HistOk.z) ?_
        refine JR.qt rfl (SubM.nil) (SubL.nil) (Y.move rfl) (HistOk.b rfl HistOk.z) ?_
        refine JR.guardN rfl rfl rfl rfl ?_
        refine JR.guardN rfl rfl rfl rfl ?_
        refine JR.guardN rfl rfl rfl rfl ?_
        refine JR.guardN rfl rfl rfl rfl ?_
        refine JR.guardN rfl rfl rfl rfl ?_
        refine JR.guardN rfl rfl rfl rfl ?_
        refine JR.guardN rfl rfl rfl rfl ?_
        refine JR.qt rfl (SubM.nil) (SubL.nil) (Y.pickF rfl rfl) (HistOk.b rfl HistOk.z) ?_
        refine JR.qt rfl (SubM.nil) (SubL.nil) (Y.move rfl) (HistOk.b rfl HistOk.z) ?_
        refine JR.guardN rfl rfl rfl rfl ?_
        refine JR.guardN rfl rfl rfl rfl ?_
        refine JR.guardN rfl rfl rfl rfl ?_
        refine JR.guardN rfl rfl rfl rfl ?_
        refine JR.guardN rfl rfl rfl rfl ?_
        refine JR.guardN rfl rfl rfl rfl ?_
        refine JR.guardN rfl rfl rfl rfl ?_
        refine JR.guardN rfl rfl rfl rfl ?_
        refine JR.guardN rfl rfl rfl rfl ?_
        refine JR.qt rfl (SubM.nil) (SubL.nil) (Y.pickF rfl rfl) (HistOk.b rfl HistOk.z) ?_
        refine JR.qt rfl (SubM.nil) (SubL.nil) (Y.move rfl) (HistOk.b rfl HistOk.z) ?_
        refine JR.guardN rfl rfl rfl rfl ?_
        refine JR.guardN rfl rfl rfl rfl ?_
        refine JR.guardN rfl rfl rfl rfl ?_
        refine JR.guardN rfl rfl rfl rfl ?_
        refine JR.guardN rfl rfl rfl rfl ?_
        refine JR.guardN rfl rfl rfl rfl ?_
        refine JR.guardN rfl rfl rfl rfl ?_
        refine JR.qt rfl (SubM.nil) (SubL.nil) (Y.pickF rfl rfl) (HistOk.b rfl HistOk.z) ?_
        refine JR.qt rfl (SubM.nil) (SubL.nil) (Y.move rfl) (HistOk.b rfl HistOk.z) ?_
        refine JR.guardN rfl rfl rfl rfl ?_
        refine JR.guardN rfl rfl rfl rfl ?_
        refine JR.guardN rfl rfl rfl rfl ?_
        refine JR.guardN rfl rfl rfl rfl ?_
        refine JR.guardN rfl rfl rfl rfl ?_
        refine JR.tailD 53 rfl rfl ?_
        refine J.guardN rfl rfl rfl ?_
        refine J.guardN rfl rfl rfl ?_
        refine J.quiet (Y.pickF rfl rfl) rfl ?_
        refine J.quiet (Y.assign rfl) rfl ?_
        refine J.done ?_
        refine J.thenN ?_
        exact J.meetI (false) (()) h (by repeat (first | exact SubF.nil | refine SubF.cons rfl ?_)) (SubM.nil) (LentAll.refl _ _)
    · clear h
      intro a16 b17 h
      unfold law01_GraphChecks_k1 at h
      refine J.ret ?_
      obtain rfl := Option.some.inj h
      exact J.retG1 (()) rfl rfl (RV.tmp rfl) (SubM.refl _) LentAll.nil

end Go.Proofs.Ytemhmmcakmidkaa
end
section
namespace Go.Proofs.Ytemhmmcakmidkaa
open Go.Sx
set_option linter.unusedVariables false
set_option linter.unusedSimpArgs false

def law01_GraphIndependentParts_k3  (a23 : Bool) : Option (Bool) :=
  some (a23)
def law01_GraphIndependentParts_k2 (fuel : Nat) (r12 : Bool) (a20 : Bool) : Option (Bool) :=
  Option.bind (m_law01_awake fuel ) fun r25 => (if r25 = true then (law01_GraphIndependentParts_k3  ((r12 == (!a20)))) else (law01_GraphIndependentParts_k3  (false)))
def law01_GraphIndependentParts_k4 (a32 : Bool × Int) (ag31 : (Bool × Int) → Option (Bool)) (a37 : Bool) : Option (Bool) :=
  ag31 (a37, (wI .i64 (a32.2 + (1 : Int))))
def law01_GraphIndependentParts_k5 (a42 : Bool × Int) (ag41 : (Bool × Int) → Option (Bool)) (a48 : Bool) : Option (Bool) :=
  ag41 (a48, (wI .i64 (a42.2 + (1 : Int))))
def law01_GraphIndependentParts_s2 (fuel : Nat) (p0 : List (Int) × (List (List (Int × Int)))) (p1 : Int) (r9 : Int) (a32 : Bool × Int) (ag31 : (Bool × Int) → Option (Bool)) (a42 : Bool × Int) (ag41 : (Bool × Int) → Option (Bool)) : Option (Bool) :=
  ck (0 ≤ a32.2 ∧ a32.2 < (List.length p0.2 : Int)) (if a42.2 < (List.length (at' p0.2 a32.2) : Int) then (if a42.1 = true then (law01_GraphIndependentParts_k5 a42 ag41 (true)) else (Option.bind (m_ref01_Has fuel (bAnd .u32 p1 r9) a32.2) fun r51 => (if r51 = true then (ck (0 ≤ a32.2 ∧ a32.2 < (List.length p0.2 : Int)) (ck (0 ≤ a42.2 ∧ a42.2 < (List.length (at' p0.2 a32.2) : Int)) (Option.bind (m_ref01_Has fuel (bAnd .u32 p1 r9) ((at' (at' p0.2 a32.2) a42.2).1)) fun r57 => (law01_GraphIndependentParts_k5 a42 ag41 (r57))))) else (law01_GraphIndependentParts_k5 a42 ag41 (false))))) else (law01_GraphIndependentParts_k4 a32 ag31 (a42.1)))
def law01_GraphIndependentParts_s1 (fuel : Nat) (p0 : List (Int) × (List (List (Int × Int)))) (p1 : Int) (r9 : Int) (r12 : Bool) (a32 : Bool × Int) (ag31 : (Bool × Int) → Option (Bool)) : Option (Bool) :=
  if a32.2 < (List.length p0.2 : Int) then (iter (law01_GraphIndependentParts_s2 fuel p0 p1 r9 a32 ag31) fuel (a32.1, (0 : Int))) else (law01_GraphIndependentParts_k2 fuel r12 (a32.1))
def law01_GraphIndependentParts_k1 (fuel : Nat) (p0 : List (Int) × (List (List (Int × Int)))) (p1 : Int) (r9 : Int) (r12 : Bool) (a16 : Bool) : Option (Bool) :=
  if a16 = true then (some (false)) else (iter (law01_GraphIndependentParts_s1 fuel p0 p1 r9 r12) fuel (false, (0 : Int)))
def m_law01_GraphIndependentParts (fuel : Nat) (p0 : List (Int) × (List (List (Int × Int)))) (p1 : Int) (p2 : Int) : Option (Bool) :=
  Option.bind (m_law01_fair fuel ((p0.1, p0.2))) fun r2 => (if (!r2) = true then (Option.bind (m_law01_awake fuel ) fun r6 => (some (r6))) else (Option.bind (m_ref01_All fuel (List.length p0.2 : Int)) fun r9 => (Option.bind (m_graph_Independent fuel ((p0.1, p0.2)) (bAnd .u32 p1 r9)) fun r12 => (if r12 = true then (Option.bind (m_graph_Independent fuel ((p0.1, p0.2)) (bAnd .u32 (bAnd .u32 p1 r9) p2)) fun r61 => (law01_GraphIndependentParts_k1 fuel p0 p1 r9 r12 ((!r61)))) else (law01_GraphIndependentParts_k1 fuel p0 p1 r9 r12 (false))))))

theorem body9 : HasBody Try.prog 9 := Try.call9

set_option maxHeartbeats 4000000 in
set_option maxRecDepth 20000 in
theorem t_law01_GraphIndependentParts (fuel : Nat) {p0 : List (Int) × (List (List (Int × Int)))} {p1 : Int} {p2 : Int} (v0 : Value)  (v1 : Value)  (z2 : List (Value × List (Int × Int))) (r : Bool) (h : m_law01_GraphIndependentParts fuel p0 p1 p2 = some r) :
    Meets Try.prog 9 #[Value.agg #[v0, v1], Value.int .u32 (p1), Value.int .u32 (p2)] [Sl RI64 v0 p0.1, S2 RI64I64p v1 z2 p0.2] (fun x : Unit => Value.bool (r)) (fun x l => l) (fun _ l => l) := by
  refine Meets.of (vs := [Value.agg #[v0, v1], Value.int .u32 (p1), Value.int .u32 (p2)]) Try.func9 rfl Try.ntmps9 rfl fun c => ?_
  unfold m_law01_GraphIndependentParts at h
  refine J.seq ?_
  refine J.region ?_
  refine J.loud (Loud.box (cs := [v0, v1]) rfl rfl) rfl fun b1 => ?_
  refine J.quiet (Y.assign rfl) rfl ?_
  refine J.done ?_
  refine J.thenN ?_
  refine J.seq ?_
  refine J.seq ?_
  refine J.region ?_
  refine J.quiet (Y.loadBAll 0 rfl rfl rfl rfl) rfl ?_
  replace h := bnd h; obtain ⟨r2, hr3, h⟩ := h
  refine J.loud (Loud.callL body32 (t_law01_fair fuel v0 v1 z2 r2 hr3) rfl (LentAll.cons (Lent.fact 0 rfl) (LentAll.cons (Lent.fact 1 rfl) (LentAll.nil))) (fun _ _ => rfl)) rfl fun x4 => ?_
  refine J.quiet (Y.not rfl) rfl ?_
  refine J.done ?_
  refine J.thenN ?_
  refine J.cond (by exact rfl) (fun hp5 => ?_) (fun hp5 => ?_)
  · replace h := ifP hp5 h
    refine J.seq ?_
    refine J.region ?_
    replace h := bnd h; obtain ⟨r6, hr7, h⟩ := h
    refine J.loud (Loud.callL body33 (t_law01_awake fuel  r6 hr7) rfl (LentAll.nil) (fun _ _ => rfl)) rfl fun x8 => ?_
    refine J.quiet (Y.assign rfl) rfl ?_
    refine J.done ?_
    refine J.thenN ?_
    refine J.ret ?_
    refine J.thenR ?_
    obtain rfl := Option.some.inj h
    exact J.retG1 (()) rfl rfl (RV.tmp rfl) (SubM.nil) LentAll.nil
  · replace h := ifBN hp5 h
    refine J.skip ?_
    refine J.thenN ?_
    refine J.seq ?_
    refine J.region ?_
    refine J.quiet (Y.move rfl) rfl ?_
    refine J.quiet (Y.fieldB rfl rfl rfl rfl rfl) rfl ?_
    refine J.quiet (Y.loadB 0 rfl rfl rfl rfl rfl) rfl ?_
    refine J.quiet (Y.lenN rfl (Lent.fact 1 rfl) rfl) rfl ?_
    replace h := bnd h; obtain ⟨r9, hr10, h⟩ := h
    refine J.loud (Loud.callL body43 (t_ref01_All fuel  r9 hr10) rfl (LentAll.nil) (fun _ _ => rfl)) rfl fun x11 => ?_
    refine J.quiet (Y.and rfl rfl) rfl ?_
    refine J.quiet (Y.assign rfl) rfl ?_
    refine J.done ?_
    refine J.thenN ?_
    refine J.seq ?_
    refine J.region ?_
    refine J.quiet (Y.loadBAll 0 rfl rfl rfl rfl) rfl ?_
    refine J.quiet (Y.move rfl) rfl ?_
    replace h := bnd h; obtain ⟨r12, hr13, h⟩ := h
    refine J.loud (Loud.callL body44 (t_graph_Independent fuel v0 v1 z2 r12 hr13) rfl (LentAll.cons (Lent.fact 0 rfl) (LentAll.cons (Lent.fact 1 rfl) (LentAll.nil))) (fun _ _ => rfl)) rfl fun x14 => ?_
    refine J.quiet (Y.assign rfl) rfl ?_
    refine J.done ?_
    refine J.thenN ?_
    refine J.seq ?_
    refine J.seq ?_
    refine J.midI (A := Bool) (B := Unit) (fun a16 => law01_GraphIndependentParts_k1 fuel p0 p1 r9 r12 a16 = some r) (fun a16 b17 => [(1, Value.int .u32 (bAnd .u32 p1 r9)), (3, Value.pointer (some ⟨b1, 0, none⟩)), (7, Value.bool (r12)), (32, Value.bool (a16))]) (fun a16 b17 => [Blk b1 [v0, v1] 26]) (fun a16 b17 => [Sl RI64 v0 p0.1, S2 RI64I64p v1 z2 p0.2]) ?_ ?_
    · refine J.region ?_
      refine J.quiet (Y.move rfl) rfl ?_
      refine J.quiet (Y.move rfl) rfl ?_
      refine J.guard (by exact rfl) (by exact rfl) (fun hp60 => ?_) (fun hp60 => ?_)
      · replace h := ifP hp60 h
        refine J.guardY rfl (Y.loadBAll 0 rfl rfl rfl rfl) rfl ?_
        refine J.guardY rfl (Y.move rfl) rfl ?_
        refine J.guardY rfl (Y.move rfl) rfl ?_
        refine J.guardY rfl (Y.and rfl rfl) rfl ?_
        replace h := bnd h; obtain ⟨r61, hr62, h⟩ := h
        refine J.loudG rfl (Loud.callL body44 (t_graph_Independent fuel v0 v1 z2 r61 hr62) rfl (LentAll.cons (Lent.fact 0 rfl) (LentAll.cons (Lent.fact 1 rfl) (LentAll.nil))) (fun _ _ => rfl)) rfl fun x63 => ?_
        refine J.guardY rfl (Y.not rfl) rfl ?_
        refine J.quiet (Y.pickT rfl rfl) rfl ?_
        refine J.done ?_
        refine J.thenN ?_
        exact J.meetI ((!r61)) (()) h (by repeat (first | exact SubF.nil | refine SubF.cons rfl ?_)) (SubM.refl _) (LentAll.refl _ _)
      · replace h := ifBN hp60 h
        refine J.guardN rfl rfl rfl ?_
        refine J.guardN rfl rfl rfl ?_
        refine J.guardN rfl rfl rfl ?_
        refine J.guardN rfl rfl rfl ?_
        refine J.guardN rfl rfl rfl ?_
        refine J.guardN rfl rfl rfl ?_
        refine J.quiet (Y.pickF rfl rfl) rfl ?_
        refine J.done ?_
        refine J.thenN ?_
        exact J.meetI (false) (()) h (by repeat (first | exact SubF.nil | refine SubF.cons rfl ?_)) (SubM.refl _) (LentAll.refl _ _)
    · clear h
      intro a16 b17 h
      unfold law01_GraphIndependentParts_k1 at h
      refine J.cond (by exact rfl) (fun hp18 => ?_) (fun hp18 => ?_)
      · replace h := ifP hp18 h
        refine J.seq ?_
        refine J.region ?_
        refine J.quiet (Y.assign rfl) rfl ?_
        refine J.done ?_
        refine J.thenN ?_
        refine J.ret ?_
        refine J.thenR ?_
        obtain rfl := Option.some.inj h
        exact J.retG1 (()) rfl rfl (RV.tmp rfl) (SubM.nil) LentAll.nil
      · replace h := ifBN hp18 h
        refine J.skip ?_
        refine J.thenN ?_
        refine J.seq ?_
        refine J.region ?_
        refine J.quiet (Y.assign rfl) rfl ?_
        refine J.done ?_
        refine J.thenN ?_
        refine J.seq ?_
        refine J.midI (A := Bool) (B := Unit) (fun a20 => law01_GraphIndependentParts_k2 fuel r12 a20 = some r) (fun a20 b21 => [(7, Value.bool (r12)), (8, Value.bool (a20))]) (fun a20 b21 => []) (fun a20 b21 => [Sl RI64 v0 p0.1, S2 RI64I64p v1 z2 p0.2]) ?_ ?_
        · refine J.seq ?_
          refine J.region ?_
          refine J.quiet (Y.assign rfl) rfl ?_
          refine J.done ?_
          refine J.thenN ?_
          refine J.block ?_
          refine J.loopI (A := Bool × Int) (B := Unit) (law01_GraphIndependentParts_s1 fuel p0 p1 r9 r12) (fun a32 b33 => [(1, Value.int .u32 (bAnd .u32 p1 r9)), (3, Value.pointer (some ⟨b1, 0, none⟩)), (7, Value.bool (r12)), (8, Value.bool (a32.1)), (9, Value.int .i64 (a32.2))]) (fun a32 b33 => [Blk b1 [v0, v1] 26]) (fun a32 b33 => [Sl RI64 v0 p0.1, S2 RI64I64p v1 z2 p0.2]) (false, (0 : Int)) (()) h (by repeat (first | exact SubF.nil | refine SubF.cons rfl ?_)) (SubM.refl _) (LentAll.refl _ _) ?_
          clear h
          intro k34 a32 b33 h
          unfold law01_GraphIndependentParts_s1 at h
          refine J.seq ?_
          refine J.seq ?_
          refine J.region ?_
          refine J.quiet (Y.move rfl) rfl ?_
          refine J.quiet (Y.fieldB rfl rfl rfl rfl rfl) rfl ?_
          refine J.quiet (Y.loadB 0 rfl rfl rfl rfl rfl) rfl ?_
          refine J.quiet (Y.lenN rfl (Lent.fact 1 rfl) rfl) rfl ?_
          refine J.quiet (Y.lss rfl rfl) rfl ?_
          refine J.done ?_
          refine J.thenN ?_
          refine J.condD (by exact rfl) (fun hp35 => ?_) (fun hp35 => ?_)
          · replace h := ifP hp35 h
            refine J.skip ?_
            refine J.thenN ?_
            refine J.seq ?_
            refine J.midI (A := Bool) (B := Unit) (fun a37 => law01_GraphIndependentParts_k4 a32 (iter (law01_GraphIndependentParts_s1 fuel p0 p1 r9 r12) k34) a37 = some r) (fun a37 b38 => [(1, Value.int .u32 (bAnd .u32 p1 r9)), (3, Value.pointer (some ⟨b1, 0, none⟩)), (7, Value.bool (r12)), (8, Value.bool (a37)), (9, Value.int .i64 (a32.2))]) (fun a37 b38 => [Blk b1 [v0, v1] 26]) (fun a37 b38 => [Sl RI64 v0 p0.1, S2 RI64I64p v1 z2 p0.2]) ?_ ?_
            · refine J.block ?_
              refine J.seq ?_
              refine J.region ?_
              refine J.quiet (Y.assign rfl) rfl ?_
              refine J.done ?_
              refine J.thenN ?_
              refine J.block ?_
              refine J.loopI (A := Bool × Int) (B := Unit) (law01_GraphIndependentParts_s2 fuel p0 p1 r9 a32 (iter (law01_GraphIndependentParts_s1 fuel p0 p1 r9 r12) k34)) (fun a42 b43 => [(1, Value.int .u32 (bAnd .u32 p1 r9)), (3, Value.pointer (some ⟨b1, 0, none⟩)), (7, Value.bool (r12)), (8, Value.bool (a42.1)), (9, Value.int .i64 (a32.2)), (10, Value.int .i64 (a42.2))]) (fun a42 b43 => [Blk b1 [v0, v1] 26]) (fun a42 b43 => [Sl RI64 v0 p0.1, S2 RI64I64p v1 z2 p0.2]) (a32.1, (0 : Int)) (()) h (by repeat (first | exact SubF.nil | refine SubF.cons rfl ?_)) (SubM.refl _) (LentAll.refl _ _) ?_
              clear h
              intro k44 a42 b43 h
              unfold law01_GraphIndependentParts_s2 at h
              refine J.seq ?_
              refine J.seq ?_
              refine J.region ?_
              refine J.quiet (Y.move rfl) rfl ?_
              refine J.quiet (Y.fieldB rfl rfl rfl rfl rfl) rfl ?_
              refine J.quiet (Y.loadB 0 rfl rfl rfl rfl rfl) rfl ?_
              refine J.quiet (Y.move rfl) rfl ?_
              replace h := ck_some h; obtain ⟨hc45, h⟩ := h
              refine J.quiet (Y.indexN rfl rfl (Lent.fact 1 rfl) rfl rfl hc45) rfl ?_
              refine J.quiet (Y.loadRow rfl (Lent.fact 1 rfl) rfl rfl hc45) rfl ?_
              refine J.quiet (Y.lenS rfl (Lent.el (Lent.fact 1 rfl) hc45.1 hc45.2) rfl) rfl ?_
              refine J.quiet (Y.lss rfl rfl) rfl ?_
              refine J.done ?_
              refine J.thenN ?_
              refine J.condD (by exact rfl) (fun hp46 => ?_) (fun hp46 => ?_)
              · replace h := ifP hp46 h
                refine J.skip ?_
                refine J.thenN ?_
                refine J.seq ?_
                refine J.midI (A := Bool) (B := Unit) (fun a48 => law01_GraphIndependentParts_k5 a42 (iter (law01_GraphIndependentParts_s2 fuel p0 p1 r9 a32 (iter (law01_GraphIndependentParts_s1 fuel p0 p1 r9 r12) k34)) k44) a48 = some r) (fun a48 b49 => [(1, Value.int .u32 (bAnd .u32 p1 r9)), (3, Value.pointer (some ⟨b1, 0, none⟩)), (7, Value.bool (r12)), (8, Value.bool (a48)), (9, Value.int .i64 (a32.2)), (10, Value.int .i64 (a42.2))]) (fun a48 b49 => [Blk b1 [v0, v1] 26]) (fun a48 b49 => [Sl RI64 v0 p0.1, S2 RI64I64p v1 z2 p0.2]) ?_ ?_
                · refine J.block ?_
                  refine J.region ?_
                  refine J.quiet (Y.move rfl) rfl ?_
                  refine J.quiet (Y.move rfl) rfl ?_
                  refine J.guard (by exact rfl) (by exact rfl) (fun hp50 => ?_) (fun hp50 => ?_)
                  · replace h := ifP hp50 h
                    refine J.guardN rfl rfl rfl ?_
                    refine J.guardN rfl rfl rfl ?_
                    refine J.guardN rfl rfl rfl ?_
                    refine J.guardN rfl rfl rfl ?_
                    refine J.qu (h := ?_)
                    refine J.qu (h := ?_)
                    refine J.qu (h := ?_)
                    refine J.qu (h := ?_)
                    refine J.qu (h := ?_)
                    refine J.qu (h := ?_)
                    refine J.qu (h := ?_)
                    refine J.qu (h := ?_)
                    refine J.qu (h := ?_)
                    refine J.qu (h := ?_)
                    refine J.qu (h := ?_)
                    refine J.guardN rfl rfl rfl ?_
                    refine J.quiet (Y.pickT rfl rfl) rfl ?_
                    refine J.quiet (Y.assign rfl) rfl ?_
                    refine J.done ?_
                    refine J.inN ?_
                    refine J.thenN ?_
                    exact J.meetI (true) (()) h (by repeat (first | exact SubF.nil | refine SubF.cons rfl ?_)) (SubM.refl _) (LentAll.refl _ _)
                  · replace h := ifBN hp50 h
                    refine J.guardY rfl (Y.move rfl) rfl ?_
                    refine J.guardY rfl (Y.move rfl) rfl ?_
                    replace h := bnd h; obtain ⟨r51, hr52, h⟩ := h
                    refine J.loudG rfl (Loud.callL body45 (t_ref01_Has fuel  r51 hr52) rfl (LentAll.nil) (fun _ _ => rfl)) rfl fun x53 => ?_
                    refine J.guardY rfl (Y.move rfl) rfl ?_
                    refine J.guard (by exact rfl) (by exact rfl) (fun hp54 => ?_) (fun hp54 => ?_)
                    · replace h := ifP hp54 h
                      refine J.guardY rfl (Y.move rfl) rfl ?_
                      refine J.guardY rfl (Y.fieldB rfl rfl rfl rfl rfl) rfl ?_
                      refine J.guardY rfl (Y.loadB 0 rfl rfl rfl rfl rfl) rfl ?_
                      refine J.guardY rfl (Y.move rfl) rfl ?_
                      replace h := ck_some h; obtain ⟨hc55, h⟩ := h
                      refine J.guardY rfl (Y.indexN rfl rfl (Lent.fact 1 rfl) rfl rfl hc55) rfl ?_
                      refine J.guardY rfl (Y.loadRow rfl (Lent.fact 1 rfl) rfl rfl hc55) rfl ?_
                      refine J.guardY rfl (Y.move rfl) rfl ?_
                      replace h := ck_some h; obtain ⟨hc56, h⟩ := h
                      refine J.guardY rfl (Y.indexS rfl rfl (Lent.el (Lent.fact 1 rfl) hc55.1 hc55.2) rfl rfl hc56) rfl ?_
                      refine J.guardY rfl (Y.fieldEl rfl rfl rfl rfl rfl) rfl ?_
                      refine J.guardY rfl (Y.loadS rfl (Lent.el (Lent.fact 1 rfl) hc55.1 hc55.2) rfl rfl rfl RI64I64pc0 hc56) rfl ?_
                      replace h := bnd h; obtain ⟨r57, hr58, h⟩ := h
                      refine J.loudG rfl (Loud.callL body45 (t_ref01_Has fuel  r57 hr58) rfl (LentAll.nil) (fun _ _ => rfl)) rfl fun x59 => ?_
                      refine J.guardY rfl (Y.pickT rfl rfl) rfl ?_
                      refine J.quiet (Y.pickF rfl rfl) rfl ?_
                      refine J.quiet (Y.assign rfl) rfl ?_
                      refine J.done ?_
                      refine J.inN ?_
                      refine J.thenN ?_
                      exact J.meetI (r57) (()) h (by repeat (first | exact SubF.nil | refine SubF.cons rfl ?_)) (SubM.refl _) (LentAll.refl _ _)
                    · replace h := ifBN hp54 h
                      refine J.guardN rfl rfl rfl ?_
                      refine J.guardN rfl rfl rfl ?_
                      refine J.guardN rfl rfl rfl ?_
                      refine J.guardN rfl rfl rfl ?_
                      refine J.guardN rfl rfl rfl ?_
                      refine J.guardN rfl rfl rfl ?_
                      refine J.guardN rfl rfl rfl ?_
                      refine J.guardN rfl rfl rfl ?_
                      refine J.guardN rfl rfl rfl ?_
                      refine J.guardN rfl rfl rfl ?_
                      refine J.guardN rfl rfl rfl ?_
                      refine J.guardY rfl (Y.pickF rfl rfl) rfl ?_
                      refine J.quiet (Y.pickF rfl rfl) rfl ?_
                      refine J.quiet (Y.assign rfl) rfl ?_
                      refine J.done ?_
                      refine J.inN ?_
                      refine J.thenN ?_
                      exact J.meetI (false) (()) h (by repeat (first | exact SubF.nil | refine SubF.cons rfl ?_)) (SubM.refl _) (LentAll.refl _ _)
                · clear h
                  intro a48 b49 h
                  unfold law01_GraphIndependentParts_k5 at h
                  refine J.region ?_
                  refine J.quiet (Y.move rfl) rfl ?_
                  refine J.quiet (Y.addW rfl rfl) rfl ?_
                  refine J.quiet (Y.assign rfl) rfl ?_
                  refine J.done ?_
                  refine J.thenN ?_
                  exact J.againI (a48, (wI .i64 (a42.2 + (1 : Int)))) (()) h (by repeat (first | exact SubF.nil | refine SubF.cons rfl ?_)) (SubM.refl _) (LentAll.refl _ _)
              · replace h := ifN hp46 h
                refine J.exit ?_
                refine J.thenX ?_
                refine J.thenX ?_
                refine J.inX ?_
                refine J.inN ?_
                refine J.thenN ?_
                exact J.meetI (a42.1) (()) h (by repeat (first | exact SubF.nil | refine SubF.cons rfl ?_)) (SubM.refl _) (LentAll.refl _ _)
            · clear h
              intro a37 b38 h
              unfold law01_GraphIndependentParts_k4 at h
              refine J.region ?_
              refine J.quiet (Y.move rfl) rfl ?_
              refine J.quiet (Y.addW rfl rfl) rfl ?_
              refine J.quiet (Y.assign rfl) rfl ?_
              refine J.done ?_
              refine J.thenN ?_
              exact J.againI (a37, (wI .i64 (a32.2 + (1 : Int)))) (()) h (by repeat (first | exact SubF.nil | refine SubF.cons rfl ?_)) (SubM.refl _) (LentAll.refl _ _)
          · replace h := ifN hp35 h
            refine J.exit ?_
            refine J.thenX ?_
            refine J.thenX ?_
            refine J.inX ?_
            refine J.thenN ?_
            exact J.meetI (a32.1) (()) h (by repeat (first | exact SubF.nil | refine SubF.cons rfl ?_)) (SubM.nil) (LentAll.refl _ _)
        · clear h
          intro a20 b21 h
          unfold law01_GraphIndependentParts_k2 at h
          refine J.seq ?_
          refine J.midI (A := Bool) (B := Unit) (fun a23 => law01_GraphIndependentParts_k3  a23 = some r) (fun a23 b24 => [(6, Value.bool (a23))]) (fun a23 b24 => []) (fun a23 b24 => [Sl RI64 v0 p0.1, S2 RI64I64p v1 z2 p0.2]) ?_ ?_
          · refine J.region ?_
            replace h := bnd h; obtain ⟨r25, hr26, h⟩ := h
            refine J.loud (Loud.callL body33 (t_law01_awake fuel  r25 hr26) rfl (LentAll.nil) (fun _ _ => rfl)) rfl fun x27 => ?_
            refine J.quiet (Y.move rfl) rfl ?_
            refine J.guard (by exact rfl) (by exact rfl) (fun hp28 => ?_) (fun hp28 => ?_)
            · replace h := ifP hp28 h
              refine J.guardY rfl (Y.move rfl) rfl ?_
              refine J.guardY rfl (Y.move rfl) rfl ?_
              refine J.guardY rfl (Y.not rfl) rfl ?_
              refine J.guardY rfl (Y.eqlB rfl rfl rfl) rfl ?_
              refine J.quiet (Y.pickT rfl rfl) rfl ?_
              refine J.quiet (Y.assign rfl) rfl ?_
              refine J.done ?_
              refine J.thenN ?_
              exact J.meetI ((r12 == (!a20))) (()) h (by repeat (first | exact SubF.nil | refine SubF.cons rfl ?_)) (SubM.refl _) (LentAll.refl _ _)
            · replace h := ifBN hp28 h
              refine J.guardN rfl rfl rfl ?_
              refine J.guardN rfl rfl rfl ?_
              refine J.guardN rfl rfl rfl ?_
              refine J.guardN rfl rfl rfl ?_
              refine J.quiet (Y.pickF rfl rfl) rfl ?_
              refine J.quiet (Y.assign rfl) rfl ?_
              refine J.done ?_
              refine J.thenN ?_
              exact J.meetI (false) (()) h (by repeat (first | exact SubF.nil | refine SubF.cons rfl ?_)) (SubM.refl _) (LentAll.refl _ _)
          · clear h
            intro a23 b24 h
            unfold law01_GraphIndependentParts_k3 at h
            refine J.ret ?_
            obtain rfl := Option.some.inj h
            exact J.retG1 (()) rfl rfl (RV.tmp rfl) (SubM.refl _) LentAll.nil

end Go.Proofs.Ytemhmmcakmidkaa
end
