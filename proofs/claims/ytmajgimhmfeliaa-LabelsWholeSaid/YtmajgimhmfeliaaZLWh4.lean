/- Models of functions with their proofs, by program (gen/xt.py), and plain laws, in one text. Conditions: none. -/
import Derived.Test.YtmajgimhmfeliaaZLWh3
import Derived.Test.YtmajgimhmfeliaaZLWh2
section
set_option linter.unusedVariables false
set_option linter.unusedSimpArgs false
namespace Go.Proofs.Ytmajgimhmfeliaa
open Go.Sx
set_option linter.unusedVariables false
set_option linter.unusedSimpArgs false
def labels_accepts_k2  (a14 : Bool) : Option (Bool) :=
  some (a14)
def labels_accepts_k3 (p1 : List (Int) × (List (List (Int × Int)))) (p3 : List (Int × Int)) (p4 : Int) (a17 : Bool) : Option (Bool) :=
  if a17 = true then (ck (0 ≤ p4 ∧ p4 < (List.length p1.1 : Int)) (if ((at' p3 p4).1) = (at' p1.1 p4) then (labels_accepts_k2  (decide (((at' p3 p4).2) = (0 : Int)))) else (labels_accepts_k2  (false)))) else (labels_accepts_k2  (false))
def labels_accepts_k4 (p1 : List (Int) × (List (List (Int × Int)))) (p3 : List (Int × Int)) (p4 : Int) (a24 : Bool) : Option (Bool) :=
  labels_accepts_k3 p1 p3 p4 ((!a24))
def labels_accepts_k5 (p1 : List (Int) × (List (List (Int × Int)))) (p3 : List (Int × Int)) (p4 : Int) (a28 : Int) : Option (Bool) :=
  labels_accepts_k4 p1 p3 p4 (decide ((0 : Int) ≤ a28))
def labels_accepts_k6 (p1 : List (Int) × (List (List (Int × Int)))) (p3 : List (Int × Int)) (p4 : Int) (a31 : Unit) : Option (Bool) :=
  labels_accepts_k5 p1 p3 p4 (-1 : Int)
def labels_accepts_k7 (p1 : List (Int) × (List (List (Int × Int)))) (p3 : List (Int × Int)) (p4 : Int) (a36 : Int) (ag35 : (Int) → Option (Bool)) (a43 : Bool) : Option (Bool) :=
  if a43 = true then (labels_accepts_k5 p1 p3 p4 (a36)) else (ag35 (wI .i64 (a36 + (1 : Int))))
def labels_accepts_k8 (p1 : List (Int) × (List (List (Int × Int)))) (p3 : List (Int × Int)) (p4 : Int) (a36 : Int) (ag35 : (Int) → Option (Bool)) (a49 : Bool) : Option (Bool) :=
  labels_accepts_k7 p1 p3 p4 a36 ag35 (a49)
def labels_accepts_s1 (fuel : Nat) (p1 : List (Int) × (List (List (Int × Int)))) (p3 : List (Int × Int)) (p4 : Int) (a36 : Int) (ag35 : (Int) → Option (Bool)) : Option (Bool) :=
  if a36 < (List.length (at' p1.2 p4) : Int) then (ck (0 ≤ a36 ∧ a36 < (List.length (at' p1.2 p4) : Int)) (ck (0 ≤ ((at' (at' p1.2 p4) a36).1) ∧ ((at' (at' p1.2 p4) a36).1) < (List.length p3 : Int)) (Option.bind (m_labels_accepts_3 fuel ((((at' p3 ((at' (at' p1.2 p4) a36).1)).1), ((at' p3 ((at' (at' p1.2 p4) a36).1)).2))) ((at' p3 p4).1)) fun r52 => (labels_accepts_k8 p1 p3 p4 a36 ag35 ((!r52)))))) else (labels_accepts_k6 p1 p3 p4 (()))
def labels_accepts_k9  (a56 : Bool) : Option (Bool) :=
  some (a56)
def labels_accepts_k10 (fuel : Nat) (p1 : List (Int) × (List (List (Int × Int)))) (p2 : List (Int)) (p3 : List (Int × Int)) (p4 : Int) (a59 : Bool) : Option (Bool) :=
  if a59 = true then (if (1 : Int) ≤ ((at' p3 p4).2) then (ck (0 ≤ p4 ∧ p4 < (List.length p1.2 : Int)) (ck (0 ≤ p4 ∧ p4 < (List.length p2 : Int)) (ck (0 ≤ (at' p2 p4) ∧ (at' p2 p4) < (List.length (at' p1.2 p4) : Int)) (ck (0 ≤ ((at' (at' p1.2 p4) (at' p2 p4)).1) ∧ ((at' (at' p1.2 p4) (at' p2 p4)).1) < (List.length p3 : Int)) (Option.bind (m_labels_accepts_4 fuel ((((at' p3 ((at' (at' p1.2 p4) (at' p2 p4)).1)).1), ((at' p3 ((at' (at' p1.2 p4) (at' p2 p4)).1)).2))) ((at' p3 p4).2)) fun r67 => (labels_accepts_k9  (r67))))))) else (labels_accepts_k9  (false))) else (labels_accepts_k9  (false))
def labels_accepts_k11 (fuel : Nat) (p1 : List (Int) × (List (List (Int × Int)))) (p2 : List (Int)) (p3 : List (Int × Int)) (p4 : Int) (a72 : Bool) : Option (Bool) :=
  labels_accepts_k10 fuel p1 p2 p3 p4 ((!a72))
def labels_accepts_k12 (fuel : Nat) (p1 : List (Int) × (List (List (Int × Int)))) (p2 : List (Int)) (p3 : List (Int × Int)) (p4 : Int) (a76 : Int) : Option (Bool) :=
  labels_accepts_k11 fuel p1 p2 p3 p4 (decide ((0 : Int) ≤ a76))
def labels_accepts_k13 (fuel : Nat) (p1 : List (Int) × (List (List (Int × Int)))) (p2 : List (Int)) (p3 : List (Int × Int)) (p4 : Int) (a79 : Unit) : Option (Bool) :=
  labels_accepts_k12 fuel p1 p2 p3 p4 (-1 : Int)
def labels_accepts_k14 (fuel : Nat) (p1 : List (Int) × (List (List (Int × Int)))) (p2 : List (Int)) (p3 : List (Int × Int)) (p4 : Int) (a84 : Int) (ag83 : (Int) → Option (Bool)) (a91 : Bool) : Option (Bool) :=
  if a91 = true then (labels_accepts_k12 fuel p1 p2 p3 p4 (a84)) else (ag83 (wI .i64 (a84 + (1 : Int))))
def labels_accepts_k15 (fuel : Nat) (p1 : List (Int) × (List (List (Int × Int)))) (p2 : List (Int)) (p3 : List (Int × Int)) (p4 : Int) (a84 : Int) (ag83 : (Int) → Option (Bool)) (a97 : Bool) : Option (Bool) :=
  labels_accepts_k14 fuel p1 p2 p3 p4 a84 ag83 (a97)
def labels_accepts_s2 (fuel : Nat) (p1 : List (Int) × (List (List (Int × Int)))) (p2 : List (Int)) (p3 : List (Int × Int)) (p4 : Int) (a84 : Int) (ag83 : (Int) → Option (Bool)) : Option (Bool) :=
  if a84 < (List.length (at' p1.2 p4) : Int) then (ck (0 ≤ a84 ∧ a84 < (List.length (at' p1.2 p4) : Int)) (ck (0 ≤ ((at' (at' p1.2 p4) a84).1) ∧ ((at' (at' p1.2 p4) a84).1) < (List.length p3 : Int)) (Option.bind (m_labels_accepts_3 fuel ((((at' p3 ((at' (at' p1.2 p4) a84).1)).1), ((at' p3 ((at' (at' p1.2 p4) a84).1)).2))) ((at' p3 p4).1)) fun r100 => (labels_accepts_k15 fuel p1 p2 p3 p4 a84 ag83 ((!r100)))))) else (labels_accepts_k13 fuel p1 p2 p3 p4 (()))
def labels_accepts_k16  (a107 : Bool) : Option (Bool) :=
  some (a107)
def labels_accepts_k17 (p1 : List (Int) × (List (List (Int × Int)))) (p3 : List (Int × Int)) (p4 : Int) (a110 : Bool) : Option (Bool) :=
  if a110 = true then (ck (0 ≤ p4 ∧ p4 < (List.length p1.1 : Int)) (if ((at' p3 p4).1) = (at' p1.1 p4) then (labels_accepts_k16  (decide (((at' p3 p4).2) = (0 : Int)))) else (labels_accepts_k16  (false)))) else (labels_accepts_k16  (false))
def labels_accepts_k18 (p1 : List (Int) × (List (List (Int × Int)))) (p3 : List (Int × Int)) (p4 : Int) (a117 : Bool) : Option (Bool) :=
  labels_accepts_k17 p1 p3 p4 ((!a117))
def labels_accepts_k19 (p1 : List (Int) × (List (List (Int × Int)))) (p3 : List (Int × Int)) (p4 : Int) (a121 : Int) : Option (Bool) :=
  labels_accepts_k18 p1 p3 p4 (decide ((0 : Int) ≤ a121))
def labels_accepts_k20 (p1 : List (Int) × (List (List (Int × Int)))) (p3 : List (Int × Int)) (p4 : Int) (a124 : Unit) : Option (Bool) :=
  labels_accepts_k19 p1 p3 p4 (-1 : Int)
def labels_accepts_k21 (p1 : List (Int) × (List (List (Int × Int)))) (p3 : List (Int × Int)) (p4 : Int) (a129 : Int) (ag128 : (Int) → Option (Bool)) (a136 : Bool) : Option (Bool) :=
  if a136 = true then (labels_accepts_k19 p1 p3 p4 (a129)) else (ag128 (wI .i64 (a129 + (1 : Int))))
def labels_accepts_k22 (p1 : List (Int) × (List (List (Int × Int)))) (p3 : List (Int × Int)) (p4 : Int) (a129 : Int) (ag128 : (Int) → Option (Bool)) (a142 : Bool) : Option (Bool) :=
  labels_accepts_k21 p1 p3 p4 a129 ag128 (a142)
def labels_accepts_s3 (fuel : Nat) (p1 : List (Int) × (List (List (Int × Int)))) (p3 : List (Int × Int)) (p4 : Int) (a129 : Int) (ag128 : (Int) → Option (Bool)) : Option (Bool) :=
  if a129 < (List.length (at' p1.2 p4) : Int) then (ck (0 ≤ a129 ∧ a129 < (List.length (at' p1.2 p4) : Int)) (ck (0 ≤ ((at' (at' p1.2 p4) a129).1) ∧ ((at' (at' p1.2 p4) a129).1) < (List.length p3 : Int)) (Option.bind (m_labels_accepts_3 fuel ((((at' p3 ((at' (at' p1.2 p4) a129).1)).1), ((at' p3 ((at' (at' p1.2 p4) a129).1)).2))) ((at' p3 p4).1)) fun r145 => (labels_accepts_k22 p1 p3 p4 a129 ag128 ((!r145)))))) else (labels_accepts_k20 p1 p3 p4 (()))
def labels_accepts_k23  (a149 : Bool) : Option (Bool) :=
  some (a149)
def labels_accepts_k25  (a157 : Bool) : Option (Bool) :=
  labels_accepts_k23  (a157)
def labels_accepts_k26  (a161 : Int) : Option (Bool) :=
  labels_accepts_k25  (decide ((0 : Int) ≤ a161))
def labels_accepts_k27  (a164 : Unit) : Option (Bool) :=
  labels_accepts_k26  (-1 : Int)
def labels_accepts_k28 (a169 : Int) (ag168 : (Int) → Option (Bool)) (a176 : Bool) : Option (Bool) :=
  if a176 = true then (labels_accepts_k26  (a169)) else (ag168 (wI .i64 (a169 + (1 : Int))))
def labels_accepts_s4 (fuel : Nat) (p1 : List (Int) × (List (List (Int × Int)))) (p3 : List (Int × Int)) (p4 : Int) (a169 : Int) (ag168 : (Int) → Option (Bool)) : Option (Bool) :=
  if a169 < (List.length (at' p1.2 p4) : Int) then (ck (0 ≤ a169 ∧ a169 < (List.length (at' p1.2 p4) : Int)) (ck (0 ≤ ((at' (at' p1.2 p4) a169).1) ∧ ((at' (at' p1.2 p4) a169).1) < (List.length p3 : Int)) (Option.bind (m_labels_accepts_4 fuel ((((at' p3 ((at' (at' p1.2 p4) a169).1)).1), ((at' p3 ((at' (at' p1.2 p4) a169).1)).2))) ((at' p3 p4).2)) fun r181 => (labels_accepts_k28 a169 ag168 (r181))))) else (labels_accepts_k27  (()))
def labels_accepts_k24 (fuel : Nat) (p1 : List (Int) × (List (List (Int × Int)))) (p3 : List (Int × Int)) (p4 : Int) (a152 : Bool) : Option (Bool) :=
  if a152 = true then (if (1 : Int) ≤ ((at' p3 p4).2) then (ck (0 ≤ p4 ∧ p4 < (List.length p1.2 : Int)) (iter (labels_accepts_s4 fuel p1 p3 p4) fuel (0 : Int))) else (labels_accepts_k23  (false))) else (labels_accepts_k23  (false))
def labels_accepts_k29 (fuel : Nat) (p1 : List (Int) × (List (List (Int × Int)))) (p3 : List (Int × Int)) (p4 : Int) (a186 : Bool) : Option (Bool) :=
  labels_accepts_k24 fuel p1 p3 p4 ((!a186))
def labels_accepts_k30 (fuel : Nat) (p1 : List (Int) × (List (List (Int × Int)))) (p3 : List (Int × Int)) (p4 : Int) (a190 : Int) : Option (Bool) :=
  labels_accepts_k29 fuel p1 p3 p4 (decide ((0 : Int) ≤ a190))
def labels_accepts_k31 (fuel : Nat) (p1 : List (Int) × (List (List (Int × Int)))) (p3 : List (Int × Int)) (p4 : Int) (a193 : Unit) : Option (Bool) :=
  labels_accepts_k30 fuel p1 p3 p4 (-1 : Int)
def labels_accepts_k32 (fuel : Nat) (p1 : List (Int) × (List (List (Int × Int)))) (p3 : List (Int × Int)) (p4 : Int) (a198 : Int) (ag197 : (Int) → Option (Bool)) (a205 : Bool) : Option (Bool) :=
  if a205 = true then (labels_accepts_k30 fuel p1 p3 p4 (a198)) else (ag197 (wI .i64 (a198 + (1 : Int))))
def labels_accepts_k33 (fuel : Nat) (p1 : List (Int) × (List (List (Int × Int)))) (p3 : List (Int × Int)) (p4 : Int) (a198 : Int) (ag197 : (Int) → Option (Bool)) (a211 : Bool) : Option (Bool) :=
  labels_accepts_k32 fuel p1 p3 p4 a198 ag197 (a211)
def labels_accepts_s5 (fuel : Nat) (p1 : List (Int) × (List (List (Int × Int)))) (p3 : List (Int × Int)) (p4 : Int) (a198 : Int) (ag197 : (Int) → Option (Bool)) : Option (Bool) :=
  if a198 < (List.length (at' p1.2 p4) : Int) then (ck (0 ≤ a198 ∧ a198 < (List.length (at' p1.2 p4) : Int)) (ck (0 ≤ ((at' (at' p1.2 p4) a198).1) ∧ ((at' (at' p1.2 p4) a198).1) < (List.length p3 : Int)) (Option.bind (m_labels_accepts_3 fuel ((((at' p3 ((at' (at' p1.2 p4) a198).1)).1), ((at' p3 ((at' (at' p1.2 p4) a198).1)).2))) ((at' p3 p4).1)) fun r214 => (labels_accepts_k33 fuel p1 p3 p4 a198 ag197 ((!r214)))))) else (labels_accepts_k31 fuel p1 p3 p4 (()))
def labels_accepts_k35  (a223 : Bool) : Option (Bool) :=
  some (a223)
def labels_accepts_k36  (a227 : Bool) : Option (Bool) :=
  labels_accepts_k35  ((!a227))
def labels_accepts_k37  (a231 : Int) : Option (Bool) :=
  labels_accepts_k36  (decide ((0 : Int) ≤ a231))
def labels_accepts_k38  (a234 : Unit) : Option (Bool) :=
  labels_accepts_k37  (-1 : Int)
def labels_accepts_k39 (a239 : Int) (ag238 : (Int) → Option (Bool)) (a246 : Bool) : Option (Bool) :=
  if a246 = true then (labels_accepts_k37  (a239)) else (ag238 (wI .i64 (a239 + (1 : Int))))
def labels_accepts_k40 (a239 : Int) (ag238 : (Int) → Option (Bool)) (a252 : Bool) : Option (Bool) :=
  labels_accepts_k39 a239 ag238 (a252)
def labels_accepts_s6 (fuel : Nat) (p1 : List (Int) × (List (List (Int × Int)))) (p3 : List (Int × Int)) (p4 : Int) (a239 : Int) (ag238 : (Int) → Option (Bool)) : Option (Bool) :=
  if a239 < (List.length (at' p1.2 p4) : Int) then (ck (0 ≤ a239 ∧ a239 < (List.length (at' p1.2 p4) : Int)) (ck (0 ≤ ((at' (at' p1.2 p4) a239).1) ∧ ((at' (at' p1.2 p4) a239).1) < (List.length p3 : Int)) (Option.bind (m_labels_accepts_5 fuel ((((at' p3 ((at' (at' p1.2 p4) a239).1)).1), ((at' p3 ((at' (at' p1.2 p4) a239).1)).2))) ((at' p3 p4).1)) fun r255 => (labels_accepts_k40 a239 ag238 ((!r255)))))) else (labels_accepts_k38  (()))
def labels_accepts_k42  (a268 : Bool) : Option (Bool) :=
  some (a268)
def labels_accepts_k41 (fuel : Nat) (p1 : List (Int) × (List (List (Int × Int)))) (p2 : List (Int)) (p3 : List (Int × Int)) (p4 : Int) (a259 : Bool) : Option (Bool) :=
  if (!a259) = true then (some (false)) else (ck (0 ≤ p4 ∧ p4 < (List.length p2 : Int)) (if (at' p2 p4) < (0 : Int) then (some (decide (((at' p3 p4).1) = (0 : Int)))) else (ck (0 ≤ p4 ∧ p4 < (List.length p1.2 : Int)) (ck (0 ≤ p4 ∧ p4 < (List.length p2 : Int)) (ck (0 ≤ (at' p2 p4) ∧ (at' p2 p4) < (List.length (at' p1.2 p4) : Int)) (ck (0 ≤ ((at' (at' p1.2 p4) (at' p2 p4)).1) ∧ ((at' (at' p1.2 p4) (at' p2 p4)).1) < (List.length p2 : Int)) (Option.bind (m_graph_PortTo fuel ((p1.1, p1.2)) ((at' (at' p1.2 p4) (at' p2 p4)).1) p4) fun r271 => (if (at' p2 ((at' (at' p1.2 p4) (at' p2 p4)).1)) = r271 then (if ((at' p3 p4).1) = (0 : Int) then (labels_accepts_k42  (true)) else (ck (0 ≤ ((at' (at' p1.2 p4) (at' p2 p4)).1) ∧ ((at' (at' p1.2 p4) (at' p2 p4)).1) < (List.length p3 : Int)) (labels_accepts_k42  (decide (((at' p3 ((at' (at' p1.2 p4) (at' p2 p4)).1)).1) = (0 : Int)))))) else (labels_accepts_k42  (false))))))))))
def labels_accepts_k43 (fuel : Nat) (p1 : List (Int) × (List (List (Int × Int)))) (p2 : List (Int)) (p3 : List (Int × Int)) (p4 : Int) (a279 : Bool) : Option (Bool) :=
  labels_accepts_k41 fuel p1 p2 p3 p4 ((!a279))
def labels_accepts_k44 (fuel : Nat) (p1 : List (Int) × (List (List (Int × Int)))) (p2 : List (Int)) (p3 : List (Int × Int)) (p4 : Int) (a283 : Int) : Option (Bool) :=
  labels_accepts_k43 fuel p1 p2 p3 p4 (decide ((0 : Int) ≤ a283))
def labels_accepts_k45 (fuel : Nat) (p1 : List (Int) × (List (List (Int × Int)))) (p2 : List (Int)) (p3 : List (Int × Int)) (p4 : Int) (a286 : Unit) : Option (Bool) :=
  labels_accepts_k44 fuel p1 p2 p3 p4 (-1 : Int)
def labels_accepts_k46 (fuel : Nat) (p1 : List (Int) × (List (List (Int × Int)))) (p2 : List (Int)) (p3 : List (Int × Int)) (p4 : Int) (a291 : Int) (ag290 : (Int) → Option (Bool)) (a298 : Bool) : Option (Bool) :=
  if a298 = true then (labels_accepts_k44 fuel p1 p2 p3 p4 (a291)) else (ag290 (wI .i64 (a291 + (1 : Int))))
def labels_accepts_k47 (fuel : Nat) (p1 : List (Int) × (List (List (Int × Int)))) (p2 : List (Int)) (p3 : List (Int × Int)) (p4 : Int) (a291 : Int) (ag290 : (Int) → Option (Bool)) (a304 : Bool) : Option (Bool) :=
  labels_accepts_k46 fuel p1 p2 p3 p4 a291 ag290 (a304)
def labels_accepts_s7 (fuel : Nat) (p1 : List (Int) × (List (List (Int × Int)))) (p2 : List (Int)) (p3 : List (Int × Int)) (p4 : Int) (a291 : Int) (ag290 : (Int) → Option (Bool)) : Option (Bool) :=
  if a291 < (List.length (at' p1.2 p4) : Int) then (ck (0 ≤ a291 ∧ a291 < (List.length (at' p1.2 p4) : Int)) (ck (0 ≤ ((at' (at' p1.2 p4) a291).1) ∧ ((at' (at' p1.2 p4) a291).1) < (List.length p3 : Int)) (Option.bind (m_labels_accepts_6 fuel ((((at' p3 ((at' (at' p1.2 p4) a291).1)).1), ((at' p3 ((at' (at' p1.2 p4) a291).1)).2))) ((at' p3 p4).1)) fun r307 => (labels_accepts_k47 fuel p1 p2 p3 p4 a291 ag290 ((!r307)))))) else (labels_accepts_k45 fuel p1 p2 p3 p4 (()))
def labels_accepts_k34 (fuel : Nat) (p0 : Int) (p1 : List (Int) × (List (List (Int × Int)))) (p2 : List (Int)) (p3 : List (Int × Int)) (p4 : Int) (a218 : Bool) : Option (Bool) :=
  if a218 = true then (some (false)) else (if p0 = (3 : Int) then (ck (0 ≤ p4 ∧ p4 < (List.length p1.2 : Int)) (iter (labels_accepts_s6 fuel p1 p3 p4) fuel (0 : Int))) else (ck (0 ≤ p4 ∧ p4 < (List.length p1.2 : Int)) (iter (labels_accepts_s7 fuel p1 p2 p3 p4) fuel (0 : Int))))
def labels_accepts_k1 (fuel : Nat) (p0 : Int) (p1 : List (Int) × (List (List (Int × Int)))) (p2 : List (Int)) (p3 : List (Int × Int)) (p4 : Int) (a7 : Unit) : Option (Bool) :=
  if p0 = (1 : Int) then (ck (0 ≤ p4 ∧ p4 < (List.length p2 : Int)) (if (at' p2 p4) < (0 : Int) then (ck (0 ≤ p4 ∧ p4 < (List.length p1.2 : Int)) (iter (labels_accepts_s1 fuel p1 p3 p4) fuel (0 : Int))) else (ck (0 ≤ p4 ∧ p4 < (List.length p1.2 : Int)) (iter (labels_accepts_s2 fuel p1 p2 p3 p4) fuel (0 : Int))))) else (if p0 = (2 : Int) then (ck (0 ≤ p4 ∧ p4 < (List.length p2 : Int)) (if (at' p2 p4) = (1 : Int) then (ck (0 ≤ p4 ∧ p4 < (List.length p1.2 : Int)) (iter (labels_accepts_s3 fuel p1 p3 p4) fuel (0 : Int))) else (ck (0 ≤ p4 ∧ p4 < (List.length p1.2 : Int)) (iter (labels_accepts_s5 fuel p1 p3 p4) fuel (0 : Int))))) else (if ((at' p3 p4).1) ≠ (0 : Int) then (labels_accepts_k34 fuel p0 p1 p2 p3 p4 (decide (((at' p3 p4).1) ≠ (1 : Int)))) else (labels_accepts_k34 fuel p0 p1 p2 p3 p4 (false))))
def m_labels_accepts (fuel : Nat) (p0 : Int) (p1 : List (Int) × (List (List (Int × Int)))) (p2 : List (Int)) (p3 : List (Int × Int)) (p4 : Int) : Option (Bool) :=
  ck (0 ≤ p4 ∧ p4 < (List.length p3 : Int)) (ck (0 ≤ p4 ∧ p4 < (List.length p3 : Int)) (labels_accepts_k1 fuel p0 p1 p2 p3 p4 (())))

theorem body47 : HasBody Try.prog 47 := Try.call47

set_option maxHeartbeats 4000000 in
set_option maxRecDepth 20000 in
theorem t_labels_accepts (fuel : Nat) {p0 : Int} {p1 : List (Int) × (List (List (Int × Int)))} {p2 : List (Int)} {p3 : List (Int × Int)} {p4 : Int} (v0 : Value)  (v1 : Value)  (z2 : List (Value × List (Int × Int)))  (v3 : Value)  (v4 : Value) (r : Bool) (h : m_labels_accepts fuel p0 p1 p2 p3 p4 = some r) :
    Meets Try.prog 47 #[Value.int .i64 (p0), Value.agg #[v0, v1], v3, v4, Value.int .i64 (p4)] [Sl RI64 v0 p1.1, S2 RI64I64p v1 z2 p1.2, Sl RI64 v3 p2, Sl RI64I64p v4 p3] (fun x : Unit => Value.bool (r)) (fun x l => l) (fun _ l => l) := by
  refine Meets.of (vs := [Value.int .i64 (p0), Value.agg #[v0, v1], v3, v4, Value.int .i64 (p4)]) Try.func47 rfl Try.ntmps47 rfl fun c => ?_
  unfold m_labels_accepts at h
  refine J.seq ?_
  refine J.region ?_
  refine J.loud (Loud.box (cs := [v0, v1]) rfl rfl) rfl fun b1 => ?_
  refine J.know (Know.one ((Lent.fact 3 rfl))) fun ho3 => ?_
  refine J.loud (Loud.box (cs := [v4]) rfl (by rw [one_cells ho3])) rfl fun b2 => ?_
  refine J.loud (Loud.box (cs := [Value.int .i64 (p4)]) rfl rfl) rfl fun b4 => ?_
  refine J.quiet (Y.assign rfl) rfl ?_
  refine J.done ?_
  refine J.thenN ?_
  refine J.seq ?_
  refine J.midI (A := Unit) (B := Nat × Nat) (fun a7 => labels_accepts_k1 fuel p0 p1 p2 p3 p4 a7 = some r) (fun a7 b8 => [(0, Value.int .i64 (p0)), (2, v3), (6, Value.pointer (some ⟨b1, 0, none⟩)), (8, Value.pointer (some ⟨b2, 0, none⟩)), (9, Value.pointer (some ⟨b4, 0, none⟩)), (11, Value.pointer (some ⟨b8.1, 0, none⟩)), (12, Value.pointer (some ⟨b8.2, 0, none⟩))]) (fun a7 b8 => [Blk b8.2 [Value.int .i64 ((at' p3 p4).2)] 3, Blk b8.1 [Value.int .i64 ((at' p3 p4).1)] 3, Blk b4 [Value.int .i64 (p4)] 3, Blk b2 [v4] 31, Blk b1 [v0, v1] 29]) (fun a7 b8 => [Sl RI64 v0 p1.1, S2 RI64I64p v1 z2 p1.2, Sl RI64 v3 p2, Sl RI64I64p v4 p3]) ?_ ?_
  · replace h := ck_some h; obtain ⟨hc311, h⟩ := h
    replace h := ck_some h; obtain ⟨hc312, h⟩ := h
    refine JR.orders [0, 0, 3, 7, 15, 0, 0, 96, 224, 480, 0, 0, 3103, 8191] 13 [[0, 1, 2, 3, 4, 5, 6, 7, 8, 9, 10, 11, 12, 13], [0, 1, 2, 3, 4, 5, 6, 7, 8, 9, 11, 10, 12, 13]] mixedOrders (by decide +kernel) (by decide +kernel) ?_
    intro o ho
    simp only [List.mem_cons, List.not_mem_nil, or_false] at ho
    rcases ho with rfl | rfl
    · refine JR.qt rfl (SubM.cons 1 rfl (SubM.nil)) (SubL.nil) (Y.loadB 0 rfl rfl rfl rfl rfl) HistOk.z ?_
      refine JR.qt rfl (SubM.cons 0 rfl (SubM.nil)) (SubL.nil) (Y.loadB 0 rfl rfl rfl rfl rfl) HistOk.z ?_
      refine JR.qt rfl (SubM.nil) (SubL.cons (List.mem_of_getElem? (i := 3) rfl) (SubL.nil)) (Y.indexS rfl rfl (Lent.fact 0 rfl) rfl rfl hc311) HistOk.z ?_
      refine JR.qt rfl (SubM.nil) (SubL.nil) (Y.indexEl (i := 0) rfl rfl rfl rfl rfl (by decide)) HistOk.z ?_
      refine JR.qt rfl (SubM.nil) (SubL.cons (List.mem_of_getElem? (i := 3) rfl) (SubL.nil)) (Y.loadS rfl (Lent.fact 0 rfl) rfl rfl rfl RI64I64pc0 hc311) HistOk.z ?_
      refine JR.qt rfl (SubM.cons 1 rfl (SubM.nil)) (SubL.nil) (Y.loadB 0 rfl rfl rfl rfl rfl) HistOk.z ?_
      refine JR.qt rfl (SubM.cons 0 rfl (SubM.nil)) (SubL.nil) (Y.loadB 0 rfl rfl rfl rfl rfl) HistOk.z ?_
      refine JR.qt rfl (SubM.nil) (SubL.cons (List.mem_of_getElem? (i := 3) rfl) (SubL.nil)) (Y.indexS rfl rfl (Lent.fact 0 rfl) rfl rfl hc312) HistOk.z ?_
      refine JR.qt rfl (SubM.nil) (SubL.nil) (Y.indexEl (i := 1) rfl rfl rfl rfl rfl (by decide)) HistOk.z ?_
      refine JR.qt rfl (SubM.nil) (SubL.cons (List.mem_of_getElem? (i := 3) rfl) (SubL.nil)) (Y.loadS rfl (Lent.fact 0 rfl) rfl rfl rfl RI64I64pc1 hc312) HistOk.z ?_
      refine JR.loud rfl rfl rfl (Loud.alloc (cs := [Value.int .i64 (0 : Int)]) rfl rfl) rfl (fun b316 => (BsOk.h (SubM.nil) (SubL.cons (List.mem_of_getElem? (i := 3) rfl) (SubL.nil)) (BsOk.h (SubM.nil) (SubL.nil) (BsOk.h (SubM.nil) (SubL.cons (List.mem_of_getElem? (i := 3) rfl) (SubL.nil)) (BsOk.h (SubM.cons 1 rfl (SubM.nil)) (SubL.nil) (BsOk.h (SubM.cons 2 rfl (SubM.nil)) (SubL.nil) (BsOk.h (SubM.nil) (SubL.cons (List.mem_of_getElem? (i := 3) rfl) (SubL.nil)) (BsOk.h (SubM.nil) (SubL.nil) (BsOk.h (SubM.nil) (SubL.cons (List.mem_of_getElem? (i := 3) rfl) (SubL.nil)) (BsOk.h (SubM.cons 1 rfl (SubM.nil)) (SubL.nil) (BsOk.h (SubM.cons 2 rfl (SubM.nil)) (SubL.nil) BsOk.z))))))))))) fun b316 => ?_
      refine JR.loud rfl rfl rfl (Loud.alloc (cs := [Value.int .i64 (0 : Int)]) rfl rfl) rfl (fun b317 => (BsOk.h (SubM.nil) (SubL.cons (List.mem_of_getElem? (i := 3) rfl) (SubL.nil)) (BsOk.h (SubM.nil) (SubL.nil) (BsOk.h (SubM.nil) (SubL.cons (List.mem_of_getElem? (i := 3) rfl) (SubL.nil)) (BsOk.h (SubM.cons 2 rfl (SubM.nil)) (SubL.nil) (BsOk.h (SubM.cons 3 rfl (SubM.nil)) (SubL.nil) (BsOk.h (SubM.nil) (SubL.cons (List.mem_of_getElem? (i := 3) rfl) (SubL.nil)) (BsOk.h (SubM.nil) (SubL.nil) (BsOk.h (SubM.nil) (SubL.cons (List.mem_of_getElem? (i := 3) rfl) (SubL.nil)) (BsOk.h (SubM.cons 2 rfl (SubM.nil)) (SubL.nil) (BsOk.h (SubM.cons 3 rfl (SubM.nil)) (SubL.nil) BsOk.z))))))))))) fun b317 => ?_
      refine JR.loud0 rfl rfl rfl (Loud.store1 1 rfl rfl rfl rfl rfl rfl) (fun x318 => (BsOk.h (SubM.nil) (SubL.cons (List.mem_of_getElem? (i := 3) rfl) (SubL.nil)) (BsOk.h (SubM.nil) (SubL.nil) (BsOk.h (SubM.nil) (SubL.cons (List.mem_of_getElem? (i := 3) rfl) (SubL.nil)) (BsOk.h (SubM.cons 2 rfl (SubM.nil)) (SubL.nil) (BsOk.h (SubM.cons 3 rfl (SubM.nil)) (SubL.nil) (BsOk.b rfl (BsOk.b rfl (BsOk.b rfl (BsOk.b rfl (BsOk.b rfl BsOk.z))))))))))) fun x318 => ?_
      refine JR.tailD 13 rfl rfl ?_
      refine J.store1 0 rfl rfl rfl rfl rfl rfl ?_
      refine J.done ?_
      refine J.thenN ?_
      exact J.meetI (()) (b316, b317) h (by repeat (first | exact SubF.nil | refine SubF.cons rfl ?_)) (SubM.refl _) (LentAll.refl _ _)
    · refine JR.qt rfl (SubM.cons 1 rfl (SubM.nil)) (SubL.nil) (Y.loadB 0 rfl rfl rfl rfl rfl) HistOk.z ?_
      refine JR.qt rfl (SubM.cons 0 rfl (SubM.nil)) (SubL.nil) (Y.loadB 0 rfl rfl rfl rfl rfl) HistOk.z ?_
      refine JR.qt rfl (SubM.nil) (SubL.cons (List.mem_of_getElem? (i := 3) rfl) (SubL.nil)) (Y.indexS rfl rfl (Lent.fact 0 rfl) rfl rfl hc311) HistOk.z ?_
      refine JR.qt rfl (SubM.nil) (SubL.nil) (Y.indexEl (i := 0) rfl rfl rfl rfl rfl (by decide)) HistOk.z ?_
      refine JR.qt rfl (SubM.nil) (SubL.cons (List.mem_of_getElem? (i := 3) rfl) (SubL.nil)) (Y.loadS rfl (Lent.fact 0 rfl) rfl rfl rfl RI64I64pc0 hc311) HistOk.z ?_
      refine JR.qt rfl (SubM.cons 1 rfl (SubM.nil)) (SubL.nil) (Y.loadB 0 rfl rfl rfl rfl rfl) HistOk.z ?_
      refine JR.qt rfl (SubM.cons 0 rfl (SubM.nil)) (SubL.nil) (Y.loadB 0 rfl rfl rfl rfl rfl) HistOk.z ?_
      refine JR.qt rfl (SubM.nil) (SubL.cons (List.mem_of_getElem? (i := 3) rfl) (SubL.nil)) (Y.indexS rfl rfl (Lent.fact 0 rfl) rfl rfl hc312) HistOk.z ?_
      refine JR.qt rfl (SubM.nil) (SubL.nil) (Y.indexEl (i := 1) rfl rfl rfl rfl rfl (by decide)) HistOk.z ?_
      refine JR.qt rfl (SubM.nil) (SubL.cons (List.mem_of_getElem? (i := 3) rfl) (SubL.nil)) (Y.loadS rfl (Lent.fact 0 rfl) rfl rfl rfl RI64I64pc1 hc312) HistOk.z ?_
      refine JR.loud rfl rfl rfl (Loud.alloc (cs := [Value.int .i64 (0 : Int)]) rfl rfl) rfl (fun b319 => (BsOk.h (SubM.nil) (SubL.cons (List.mem_of_getElem? (i := 3) rfl) (SubL.nil)) (BsOk.h (SubM.nil) (SubL.nil) (BsOk.h (SubM.nil) (SubL.cons (List.mem_of_getElem? (i := 3) rfl) (SubL.nil)) (BsOk.h (SubM.cons 1 rfl (SubM.nil)) (SubL.nil) (BsOk.h (SubM.cons 2 rfl (SubM.nil)) (SubL.nil) (BsOk.h (SubM.nil) (SubL.cons (List.mem_of_getElem? (i := 3) rfl) (SubL.nil)) (BsOk.h (SubM.nil) (SubL.nil) (BsOk.h (SubM.nil) (SubL.cons (List.mem_of_getElem? (i := 3) rfl) (SubL.nil)) (BsOk.h (SubM.cons 1 rfl (SubM.nil)) (SubL.nil) (BsOk.h (SubM.cons 2 rfl (SubM.nil)) (SubL.nil) BsOk.z))))))))))) fun b319 => ?_
      refine JR.loud rfl rfl rfl (Loud.alloc (cs := [Value.int .i64 (0 : Int)]) rfl rfl) rfl (fun b320 => (BsOk.h (SubM.nil) (SubL.cons (List.mem_of_getElem? (i := 3) rfl) (SubL.nil)) (BsOk.h (SubM.nil) (SubL.nil) (BsOk.h (SubM.nil) (SubL.cons (List.mem_of_getElem? (i := 3) rfl) (SubL.nil)) (BsOk.h (SubM.cons 2 rfl (SubM.nil)) (SubL.nil) (BsOk.h (SubM.cons 3 rfl (SubM.nil)) (SubL.nil) (BsOk.h (SubM.nil) (SubL.cons (List.mem_of_getElem? (i := 3) rfl) (SubL.nil)) (BsOk.h (SubM.nil) (SubL.nil) (BsOk.h (SubM.nil) (SubL.cons (List.mem_of_getElem? (i := 3) rfl) (SubL.nil)) (BsOk.h (SubM.cons 2 rfl (SubM.nil)) (SubL.nil) (BsOk.h (SubM.cons 3 rfl (SubM.nil)) (SubL.nil) BsOk.z))))))))))) fun b320 => ?_
      refine JR.loud0 rfl rfl rfl (Loud.store1 0 rfl rfl rfl rfl rfl rfl) (fun x321 => (BsOk.h (SubM.nil) (SubL.cons (List.mem_of_getElem? (i := 3) rfl) (SubL.nil)) (BsOk.h (SubM.nil) (SubL.nil) (BsOk.h (SubM.nil) (SubL.cons (List.mem_of_getElem? (i := 3) rfl) (SubL.nil)) (BsOk.h (SubM.cons 2 rfl (SubM.nil)) (SubL.nil) (BsOk.h (SubM.cons 3 rfl (SubM.nil)) (SubL.nil) (BsOk.b rfl (BsOk.b rfl (BsOk.b rfl (BsOk.b rfl (BsOk.b rfl BsOk.z))))))))))) fun x321 => ?_
      refine JR.tailD 13 rfl rfl ?_
      refine J.store1 1 rfl rfl rfl rfl rfl rfl ?_
      refine J.done ?_
      refine J.thenN ?_
      exact J.meetI (()) (b320, b319) h (by repeat (first | exact SubF.nil | refine SubF.cons rfl ?_)) (SubM.cons 1 rfl (SubM.cons 0 rfl (SubM.cons 0 rfl (SubM.cons 0 rfl (SubM.cons 0 rfl (SubM.nil)))))) (LentAll.refl _ _)
  · clear h
    intro a7 b8 h
    unfold labels_accepts_k1 at h
    refine J.seq ?_
    refine J.region ?_
    refine J.quiet (Y.makeFunc (cs := [.tmp 6, .tmp 9, .tmp 8]) (vs := [Value.pointer (some ⟨b1, 0, none⟩), Value.pointer (some ⟨b4, 0, none⟩), Value.pointer (some ⟨b2, 0, none⟩)]) rfl) rfl ?_
    refine J.loud (Loud.alloc (cs := [Value.nilFunc]) rfl rfl) rfl fun b9 => ?_
    refine J.store1 0 rfl rfl rfl rfl rfl rfl ?_
    refine J.done ?_
    refine J.thenN ?_
    refine J.seq ?_
    refine J.region ?_
    refine J.quiet (Y.makeFunc (cs := [.tmp 13]) (vs := [Value.pointer (some ⟨b9, 0, none⟩)]) rfl) rfl ?_
    refine J.quiet (Y.assign rfl) rfl ?_
    refine J.done ?_
    refine J.thenN ?_
    refine J.seq ?_
    refine J.region ?_
    refine J.quiet (Y.makeFunc (cs := [.tmp 11]) (vs := [Value.pointer (some ⟨b8.1, 0, none⟩)]) rfl) rfl ?_
    refine J.quiet (Y.assign rfl) rfl ?_
    refine J.done ?_
    refine J.thenN ?_
    refine J.seq ?_
    refine J.region ?_
    refine J.quiet (Y.makeFunc (cs := [.tmp 12]) (vs := [Value.pointer (some ⟨b8.2, 0, none⟩)]) rfl) rfl ?_
    refine J.quiet (Y.assign rfl) rfl ?_
    refine J.done ?_
    refine J.thenN ?_
    refine J.seq ?_
    refine J.seq ?_
    refine J.region ?_
    refine J.quiet (Y.move rfl) rfl ?_
    refine J.done ?_
    refine J.thenN ?_
    refine J.block ?_
    refine J.seq ?_
    refine J.region ?_
    refine J.quiet (Y.eql rfl rfl) rfl ?_
    refine J.quiet (Y.assign rfl) rfl ?_
    refine J.done ?_
    refine J.thenN ?_
    refine J.condD (by exact rfl) (fun hp10 => ?_) (fun hp10 => ?_)
    · replace h := ifP hp10 h
      refine J.seq ?_
      refine J.seq ?_
      refine J.region ?_
      refine J.quiet (Y.move rfl) rfl ?_
      refine J.quiet (Y.loadB 3 rfl rfl rfl rfl rfl) rfl ?_
      replace h := ck_some h; obtain ⟨hc11, h⟩ := h
      refine J.quiet (Y.indexS rfl rfl (Lent.fact 2 rfl) rfl rfl hc11) rfl ?_
      refine J.quiet (Y.loadS0 rfl (Lent.fact 2 rfl) rfl rfl rfl RI64c0 hc11) rfl ?_
      refine J.quiet (Y.lss rfl rfl) rfl ?_
      refine J.done ?_
      refine J.thenN ?_
      refine J.condD (by exact rfl) (fun hp12 => ?_) (fun hp12 => ?_)
      · replace h := ifP hp12 h
        refine J.seq ?_
        refine J.midI (A := Bool) (B := Unit) (fun a14 => labels_accepts_k2  a14 = some r) (fun a14 b15 => [(10, Value.bool (a14))]) (fun a14 b15 => []) (fun a14 b15 => [Sl RI64 v0 p1.1, S2 RI64I64p v1 z2 p1.2, Sl RI64 v3 p2, Sl RI64I64p v4 p3]) ?_ ?_
        · refine JR.start [0, 0, 3, 7, 15, 15, 47, 15, 239, 495, 1023, 2047, 4095, 8191, 16383, 32767, 65535] 10 mixedOrders (by decide +kernel) ?_
          refine JR.open (by exact rfl) ?_
          refine JR.qt rfl (SubM.nil) (SubL.nil) (Y.move rfl) HistOk.z ?_
          refine JR.qt rfl (SubM.nil) (SubL.nil) (Y.move rfl) HistOk.z ?_
          refine JR.inlC (A := Bool) (B := Unit) (vs := [Value.func (.func 68) #[] #[Value.pointer (some ⟨b8.1, 0, none⟩)], Value.pointer (some ⟨b9, 0, none⟩)]) (fun a17 => labels_accepts_k3 p1 p3 p4 a17 = some r) (fun a17 b18 => Value.bool (a17)) (fun a17 b18 => [Blk b8.2 [Value.int .i64 ((at' p3 p4).2)] 3, Blk b8.1 [Value.int .i64 ((at' p3 p4).1)] 3, Blk b4 [Value.int .i64 (p4)] 3, Blk b1 [v0, v1] 29]) (fun a17 b18 => [Sl RI64 v0 p1.1, S2 RI64I64p v1 z2 p1.2, Sl RI64 v3 p2, Sl RI64I64p v4 p3]) rfl rfl rfl (Enter.clo (us := [Value.func (.func 68) #[] #[Value.pointer (some ⟨b8.1, 0, none⟩)]]) (cs := [Value.pointer (some ⟨b9, 0, none⟩)]) (show HasBody Try.prog 66 from Try.call66) rfl rfl rfl) Try.func66 rfl Try.ntmps66 rfl rfl (fun _ _ => (BsOk.b rfl (BsOk.b rfl BsOk.z))) ?_ ?_
          · refine J.seq ?_
            refine J.region ?_
            refine J.loud (Loud.box (cs := [Value.func (.func 68) #[] #[Value.pointer (some ⟨b8.1, 0, none⟩)]]) rfl rfl) rfl fun b22 => ?_
            refine J.quiet (Y.assign rfl) rfl ?_
            refine J.done ?_
            refine J.thenN ?_
            refine J.seq ?_
            refine J.region ?_
            refine J.quiet (Y.loadB 1 rfl rfl rfl rfl rfl) rfl ?_
            refine J.quiet (Y.makeFunc (cs := [.tmp 2]) (vs := [Value.pointer (some ⟨b22, 0, none⟩)]) rfl) rfl ?_
            refine J.inlC (A := Bool) (B := Unit) (vs := [Value.func (.func 67) #[] #[Value.pointer (some ⟨b22, 0, none⟩)], Value.pointer (some ⟨b1, 0, none⟩), Value.pointer (some ⟨b4, 0, none⟩), Value.pointer (some ⟨b2, 0, none⟩)]) (fun a24 => labels_accepts_k4 p1 p3 p4 a24 = some r) (fun a24 b25 => Value.bool (a24)) (fun a24 b25 => [Blk b8.2 [Value.int .i64 ((at' p3 p4).2)] 3, Blk b8.1 [Value.int .i64 ((at' p3 p4).1)] 3, Blk b4 [Value.int .i64 (p4)] 3, Blk b1 [v0, v1] 29]) (fun a24 b25 => [Sl RI64 v0 p1.1, S2 RI64I64p v1 z2 p1.2, Sl RI64 v3 p2, Sl RI64I64p v4 p3]) (Enter.clo (us := [Value.func (.func 67) #[] #[Value.pointer (some ⟨b22, 0, none⟩)]]) (cs := [Value.pointer (some ⟨b1, 0, none⟩), Value.pointer (some ⟨b4, 0, none⟩), Value.pointer (some ⟨b2, 0, none⟩)]) (show HasBody Try.prog 63 from Try.call63) rfl rfl rfl) Try.func63 rfl Try.ntmps63 rfl rfl ?_ ?_
            · refine J.seq ?_
              refine J.region ?_
              refine J.loud (Loud.box (cs := [Value.func (.func 67) #[] #[Value.pointer (some ⟨b22, 0, none⟩)]]) rfl rfl) rfl fun b26 => ?_
              refine J.quiet (Y.assign rfl) rfl ?_
              refine J.done ?_
              refine J.thenN ?_
              refine J.seq ?_
              refine J.region ?_
              refine J.quiet (Y.loadBAll 7 rfl rfl rfl rfl) rfl ?_
              refine J.quiet (Y.loadB 5 rfl rfl rfl rfl rfl) rfl ?_
              refine J.quiet (Y.makeFunc (cs := [.tmp 4, .tmp 3]) (vs := [Value.pointer (some ⟨b26, 0, none⟩), Value.pointer (some ⟨b2, 0, none⟩)]) rfl) rfl ?_
              refine J.inlC (A := Int) (B := Unit) (vs := [Value.agg #[v0, v1], Value.int .i64 (p4), Value.func (.func 65) #[] #[Value.pointer (some ⟨b26, 0, none⟩), Value.pointer (some ⟨b2, 0, none⟩)]]) (fun a28 => labels_accepts_k5 p1 p3 p4 a28 = some r) (fun a28 b29 => Value.int .i64 (a28)) (fun a28 b29 => [Blk b8.2 [Value.int .i64 ((at' p3 p4).2)] 3, Blk b8.1 [Value.int .i64 ((at' p3 p4).1)] 3, Blk b4 [Value.int .i64 (p4)] 3, Blk b1 [v0, v1] 29]) (fun a28 b29 => [Sl RI64 v0 p1.1, S2 RI64I64p v1 z2 p1.2, Sl RI64 v3 p2, Sl RI64I64p v4 p3]) (Enter.fn (show HasBody Try.prog 64 from Try.call64) rfl) Try.func64 rfl Try.ntmps64 rfl rfl ?_ ?_
              · refine J.seq ?_
                refine J.region ?_
                refine J.loud (Loud.box (cs := [v0, v1]) rfl rfl) rfl fun b30 => ?_
                refine J.quiet (Y.assign rfl) rfl ?_
                refine J.done ?_
                refine J.thenN ?_
                refine J.seq ?_
                refine J.midI (A := Unit) (B := Unit) (fun a31 => labels_accepts_k6 p1 p3 p4 a31 = some r) (fun a31 b32 => []) (fun a31 b32 => [Blk b8.2 [Value.int .i64 ((at' p3 p4).2)] 3, Blk b8.1 [Value.int .i64 ((at' p3 p4).1)] 3, Blk b4 [Value.int .i64 (p4)] 3, Blk b1 [v0, v1] 29]) (fun a31 b32 => [Sl RI64 v0 p1.1, S2 RI64I64p v1 z2 p1.2, Sl RI64 v3 p2, Sl RI64I64p v4 p3]) ?_ ?_
                · refine J.seq ?_
                  refine J.region ?_
                  refine J.quiet (Y.fieldB rfl rfl rfl rfl rfl) rfl ?_
                  refine J.quiet (Y.loadB 0 rfl rfl rfl rfl rfl) rfl ?_
                  refine J.quiet (Y.move rfl) rfl ?_
                  replace h := ck_some h; obtain ⟨hc33, h⟩ := h
                  refine J.quiet (Y.indexN rfl rfl (Lent.fact 1 rfl) rfl rfl hc33) rfl ?_
                  refine J.quiet (Y.loadRow rfl (Lent.fact 1 rfl) rfl rfl hc33) rfl ?_
                  refine J.quiet (Y.lenS rfl (Lent.el (Lent.fact 1 rfl) hc33.1 hc33.2) rfl) rfl ?_
                  refine J.quiet (Y.move rfl) rfl ?_
                  refine J.done ?_
                  refine J.thenN ?_
                  refine J.block ?_
                  refine J.loopI (A := Int) (B := Unit) (labels_accepts_s1 fuel p1 p3 p4) (fun a36 b37 => [(2, Value.func (.func 65) #[] #[Value.pointer (some ⟨b26, 0, none⟩), Value.pointer (some ⟨b2, 0, none⟩)]), (13, (at' z2 p4).1), (14, Value.int .i64 (List.length (at' p1.2 p4) : Int)), (15, Value.int .i64 (a36))]) (fun a36 b37 => [Blk b26 [Value.func (.func 67) #[] #[Value.pointer (some ⟨b22, 0, none⟩)]] 81, Blk b22 [Value.func (.func 68) #[] #[Value.pointer (some ⟨b8.1, 0, none⟩)]] 81, Blk b8.2 [Value.int .i64 ((at' p3 p4).2)] 3, Blk b8.1 [Value.int .i64 ((at' p3 p4).1)] 3, Blk b4 [Value.int .i64 (p4)] 3, Blk b2 [v4] 31, Blk b1 [v0, v1] 29]) (fun a36 b37 => [Sl RI64 v0 p1.1, S2 RI64I64p v1 z2 p1.2, Sl RI64 v3 p2, Sl RI64I64p v4 p3]) (0 : Int) (()) h (by repeat (first | exact SubF.nil | refine SubF.cons rfl ?_)) (SubM.cons 1 rfl (SubM.cons 1 rfl (SubM.cons 2 rfl (SubM.cons 2 rfl (SubM.cons 2 rfl (SubM.cons 2 rfl (SubM.cons 2 rfl (SubM.nil)))))))) (LentAll.refl _ _) ?_
                  clear h
                  intro k38 a36 b37 h
                  unfold labels_accepts_s1 at h
                  refine J.seq ?_
                  refine J.region ?_
                  refine J.quiet (Y.lss rfl rfl) rfl ?_
                  refine J.done ?_
                  refine J.thenN ?_
                  refine J.seq ?_
                  refine J.condD (by exact rfl) (fun hp39 => ?_) (fun hp39 => ?_)
                  · replace h := ifP hp39 h
                    refine J.skip ?_
                    refine J.thenN ?_
                    refine J.seq ?_
                    refine J.block ?_
                    refine J.seq ?_
                    refine J.region ?_
                    refine J.quiet (Y.move rfl) rfl ?_
                    replace h := ck_some h; obtain ⟨hc40, h⟩ := h
                    refine J.quiet (Y.indexS rfl rfl (Lent.el (Lent.fact 1 rfl) hc33.1 hc33.2) rfl rfl hc40) rfl ?_
                    refine J.quiet (Y.loadAggS (cs := [Value.int .i64 ((at' (at' p1.2 p4) a36).1), Value.int .i64 ((at' (at' p1.2 p4) a36).2)]) rfl (Lent.el (Lent.fact 1 rfl) hc33.1 hc33.2) FI64I64p rfl rfl rfl rfl hc40) rfl ?_
                    refine J.loud (Loud.alloc (cs := [Value.int .i64 (0 : Int), Value.int .i64 (0 : Int)]) rfl rfl) rfl fun b41 => ?_
                    refine J.quiet (Y.assign rfl) rfl ?_
                    refine J.storeAll 0 (vs := [Value.int .i64 ((at' (at' p1.2 p4) a36).1), Value.int .i64 ((at' (at' p1.2 p4) a36).2)]) rfl rfl rfl rfl rfl rfl ?_
                    refine J.done ?_
                    refine J.thenN ?_
                    refine J.seq ?_
                    refine J.region ?_
                    refine J.quiet (Y.move rfl) rfl ?_
                    refine J.quiet (Y.loadBAll 0 rfl rfl rfl rfl) rfl ?_
                    refine J.inlC (A := Bool) (B := Unit) (vs := [Value.agg #[Value.int .i64 ((at' (at' p1.2 p4) a36).1), Value.int .i64 ((at' (at' p1.2 p4) a36).2)], Value.pointer (some ⟨b26, 0, none⟩), Value.pointer (some ⟨b2, 0, none⟩)]) (fun a43 => labels_accepts_k7 p1 p3 p4 a36 (iter (labels_accepts_s1 fuel p1 p3 p4) k38) a43 = some r) (fun a43 b44 => Value.bool (a43)) (fun a43 b44 => [Blk b26 [Value.func (.func 67) #[] #[Value.pointer (some ⟨b22, 0, none⟩)]] 81, Blk b22 [Value.func (.func 68) #[] #[Value.pointer (some ⟨b8.1, 0, none⟩)]] 81, Blk b8.2 [Value.int .i64 ((at' p3 p4).2)] 3, Blk b8.1 [Value.int .i64 ((at' p3 p4).1)] 3, Blk b4 [Value.int .i64 (p4)] 3, Blk b2 [v4] 31, Blk b1 [v0, v1] 29]) (fun a43 b44 => [Sl RI64 v0 p1.1, S2 RI64I64p v1 z2 p1.2, Sl RI64 v3 p2, Sl RI64I64p v4 p3]) (Enter.clo (us := [Value.agg #[Value.int .i64 ((at' (at' p1.2 p4) a36).1), Value.int .i64 ((at' (at' p1.2 p4) a36).2)]]) (cs := [Value.pointer (some ⟨b26, 0, none⟩), Value.pointer (some ⟨b2, 0, none⟩)]) (show HasBody Try.prog 65 from Try.call65) rfl rfl rfl) Try.func65 rfl Try.ntmps65 rfl rfl ?_ ?_
                    · refine J.seq ?_
                      refine J.region ?_
                      refine J.loud (Loud.box (cs := [Value.int .i64 ((at' (at' p1.2 p4) a36).1), Value.int .i64 ((at' (at' p1.2 p4) a36).2)]) rfl rfl) rfl fun b46 => ?_
                      refine J.quiet (Y.assign rfl) rfl ?_
                      refine J.done ?_
                      refine J.thenN ?_
                      refine J.seq ?_
                      refine JR.start [0, 0, 0, 4, 14, 30, 63, 127] 6 mixedOrders (by decide +kernel) ?_
                      refine JR.open (by exact rfl) ?_
                      refine JR.qt rfl (SubM.cons 2 rfl (SubM.nil)) (SubL.nil) (Y.loadB 0 rfl rfl rfl rfl rfl) HistOk.z ?_
                      refine JR.qt rfl (SubM.cons 7 rfl (SubM.nil)) (SubL.nil) (Y.loadB 0 rfl rfl rfl rfl rfl) HistOk.z ?_
                      refine JR.qt rfl (SubM.nil) (SubL.nil) (Y.fieldB rfl rfl rfl rfl rfl) HistOk.z ?_
                      refine JR.qt rfl (SubM.cons 0 rfl (SubM.nil)) (SubL.nil) (Y.loadB 0 rfl rfl rfl rfl rfl) HistOk.z ?_
                      replace h := ck_some h; obtain ⟨hc47, h⟩ := h
                      refine JR.qt rfl (SubM.nil) (SubL.cons (List.mem_of_getElem? (i := 3) rfl) (SubL.nil)) (Y.indexS rfl rfl (Lent.fact 0 rfl) rfl rfl hc47) HistOk.z ?_
                      refine JR.qt rfl (SubM.nil) (SubL.cons (List.mem_of_getElem? (i := 3) rfl) (SubL.nil)) (Y.loadAggS (cs := [Value.int .i64 ((at' p3 ((at' (at' p1.2 p4) a36).1)).1), Value.int .i64 ((at' p3 ((at' (at' p1.2 p4) a36).1)).2)]) rfl (Lent.fact 0 rfl) FI64I64p rfl rfl rfl rfl hc47) HistOk.z ?_
                      refine JR.tailD 6 rfl rfl ?_
                      refine J.inlC (A := Bool) (B := Unit) (vs := [Value.agg #[Value.int .i64 ((at' p3 ((at' (at' p1.2 p4) a36).1)).1), Value.int .i64 ((at' p3 ((at' (at' p1.2 p4) a36).1)).2)], Value.pointer (some ⟨b22, 0, none⟩)]) (fun a49 => labels_accepts_k8 p1 p3 p4 a36 (iter (labels_accepts_s1 fuel p1 p3 p4) k38) a49 = some r) (fun a49 b50 => Value.bool (a49)) (fun a49 b50 => [Blk b26 [Value.func (.func 67) #[] #[Value.pointer (some ⟨b22, 0, none⟩)]] 81, Blk b22 [Value.func (.func 68) #[] #[Value.pointer (some ⟨b8.1, 0, none⟩)]] 81, Blk b8.2 [Value.int .i64 ((at' p3 p4).2)] 3, Blk b8.1 [Value.int .i64 ((at' p3 p4).1)] 3, Blk b4 [Value.int .i64 (p4)] 3, Blk b2 [v4] 31, Blk b1 [v0, v1] 29]) (fun a49 b50 => [Sl RI64 v0 p1.1, S2 RI64I64p v1 z2 p1.2, Sl RI64 v3 p2, Sl RI64I64p v4 p3]) (Enter.clo (us := [Value.agg #[Value.int .i64 ((at' p3 ((at' (at' p1.2 p4) a36).1)).1), Value.int .i64 ((at' p3 ((at' (at' p1.2 p4) a36).1)).2)]]) (cs := [Value.pointer (some ⟨b22, 0, none⟩)]) (show HasBody Try.prog 67 from Try.call67) rfl rfl rfl) Try.func67 rfl Try.ntmps67 rfl rfl ?_ ?_
                      · refine J.seq ?_
                        refine J.region ?_
                        refine J.loud (Loud.box (cs := [Value.int .i64 ((at' p3 ((at' (at' p1.2 p4) a36).1)).1), Value.int .i64 ((at' p3 ((at' (at' p1.2 p4) a36).1)).2)]) rfl rfl) rfl fun b51 => ?_
                        refine J.quiet (Y.assign rfl) rfl ?_
                        refine J.done ?_
                        refine J.thenN ?_
                        refine J.seq ?_
                        refine J.region ?_
                        refine J.quiet (Y.loadB 4 rfl rfl rfl rfl rfl) rfl ?_
                        refine J.quiet (Y.loadBAll 0 rfl rfl rfl rfl) rfl ?_
                        replace h := bnd h; obtain ⟨r52, hr53, h⟩ := h
                        refine J.loud (Loud.callVL (vs := [Value.agg #[Value.int .i64 ((at' p3 ((at' (at' p1.2 p4) a36).1)).1), Value.int .i64 ((at' p3 ((at' (at' p1.2 p4) a36).1)).2)]]) (cs := [Value.pointer (some ⟨b8.1, 0, none⟩)]) body68 rfl (t_labels_accepts_3 fuel b8.1 r52 hr53) rfl (LentAll.cons (Lent.res 6 rfl) (LentAll.nil)) (fun _ _ => rfl)) rfl fun x54 => ?_
                        refine J.quiet (Y.not rfl) rfl ?_
                        refine J.quiet (Y.assign rfl) rfl ?_
                        refine J.done ?_
                        refine J.thenN ?_
                        refine J.ret ?_
                        exact J.retM ((!r52)) (()) h (.inl rfl) (Res.r1 rfl (RV.tmp rfl)) rfl (SubM.cons 3 rfl (SubM.cons 3 rfl (SubM.cons 3 rfl (SubM.cons 3 rfl (SubM.cons 3 rfl (SubM.cons 3 rfl (SubM.cons 3 rfl (SubM.nil)))))))) (LentAll.refl _ _)
                      · clear h
                        intro a49 b50 h
                        unfold labels_accepts_k8 at h
                        refine J.quiet (Y.assign rfl) rfl ?_
                        refine J.done ?_
                        refine J.thenN ?_
                        refine J.ret ?_
                        exact J.retM (a49) (()) h (.inl rfl) (Res.r1 rfl (RV.tmp rfl)) rfl (SubM.refl _) (LentAll.refl _ _)
                    · clear h
                      intro a43 b44 h
                      unfold labels_accepts_k7 at h
                      refine J.done ?_
                      refine J.thenN ?_
                      refine J.cond (by exact rfl) (fun hp45 => ?_) (fun hp45 => ?_)
                      · replace h := ifP hp45 h
                        refine J.seq ?_
                        refine J.region ?_
                        refine J.quiet (Y.move rfl) rfl ?_
                        refine J.quiet (Y.assign rfl) rfl ?_
                        refine J.done ?_
                        refine J.thenN ?_
                        refine J.ret ?_
                        refine J.inR ?_
                        refine J.thenR ?_
                        refine J.thenR ?_
                        refine J.inR ?_
                        refine J.thenR ?_
                        exact J.retM (a36) (()) h (.inl rfl) (Res.r1 rfl (RV.tmp rfl)) rfl (SubM.cons 2 rfl (SubM.cons 2 rfl (SubM.cons 2 rfl (SubM.cons 3 rfl (SubM.nil))))) (LentAll.refl _ _)
                      · replace h := ifBN hp45 h
                        refine J.skip ?_
                        refine J.inN ?_
                        refine J.thenN ?_
                        refine J.region ?_
                        refine J.quiet (Y.addW rfl rfl) rfl ?_
                        refine J.quiet (Y.move rfl) rfl ?_
                        refine J.done ?_
                        refine J.thenN ?_
                        exact J.againI (wI .i64 (a36 + (1 : Int))) (()) h (by repeat (first | exact SubF.nil | refine SubF.cons rfl ?_)) (SubM.refl _) (LentAll.refl _ _)
                  · replace h := ifN hp39 h
                    refine J.exit ?_
                    refine J.thenX ?_
                    refine J.thenX ?_
                    refine J.inX ?_
                    refine J.thenN ?_
                    exact J.meetI (()) (()) h (by repeat (first | exact SubF.nil | refine SubF.cons rfl ?_)) (SubM.cons 2 rfl (SubM.cons 2 rfl (SubM.cons 2 rfl (SubM.cons 3 rfl (SubM.nil))))) (LentAll.refl _ _)
                · clear h
                  intro a31 b32 h
                  unfold labels_accepts_k6 at h
                  refine J.seq ?_
                  refine J.region ?_
                  refine J.quiet (Y.assign rfl) rfl ?_
                  refine J.done ?_
                  refine J.thenN ?_
                  refine J.ret ?_
                  exact J.retM (-1 : Int) (()) h (.inl rfl) (Res.r1 rfl (RV.tmp rfl)) rfl (SubM.refl _) (LentAll.refl _ _)
              · clear h
                intro a28 b29 h
                unfold labels_accepts_k5 at h
                refine J.quiet (Y.geq rfl rfl) rfl ?_
                refine J.quiet (Y.assign rfl) rfl ?_
                refine J.done ?_
                refine J.thenN ?_
                refine J.ret ?_
                exact J.retM (decide ((0 : Int) ≤ a28)) (()) h (.inl rfl) (Res.r1 rfl (RV.tmp rfl)) rfl (SubM.refl _) (LentAll.refl _ _)
            · clear h
              intro a24 b25 h
              unfold labels_accepts_k4 at h
              refine J.quiet (Y.not rfl) rfl ?_
              refine J.quiet (Y.assign rfl) rfl ?_
              refine J.done ?_
              refine J.thenN ?_
              refine J.ret ?_
              exact J.retM ((!a24)) (()) h (.inl rfl) (Res.r1 rfl (RV.tmp rfl)) rfl (SubM.refl _) (LentAll.refl _ _)
          · clear h
            intro a17 b18 h
            unfold labels_accepts_k3 at h
            refine JR.qt rfl (SubM.nil) (SubL.nil) (Y.move rfl) (HistOk.b rfl HistOk.z) ?_
            refine JR.guard (by exact rfl) (by exact rfl) (by exact rfl) (fun hp19 => ?_) (fun hp19 => ?_)
            · replace h := ifP hp19 h
              refine JR.qtG rfl (SubM.cons 1 rfl (SubM.nil)) (SubL.nil) (Y.loadB 0 rfl rfl rfl rfl rfl) (HistOk.b rfl HistOk.z) ?_
              refine JR.qtG rfl (SubM.nil) (SubL.nil) (Y.fieldB rfl rfl rfl rfl rfl) (HistOk.b rfl HistOk.z) ?_
              refine JR.qtG rfl (SubM.cons 3 rfl (SubM.nil)) (SubL.nil) (Y.loadB 0 rfl rfl rfl rfl rfl) (HistOk.b rfl HistOk.z) ?_
              refine JR.qtG rfl (SubM.cons 2 rfl (SubM.nil)) (SubL.nil) (Y.loadB 0 rfl rfl rfl rfl rfl) (HistOk.b rfl HistOk.z) ?_
              replace h := ck_some h; obtain ⟨hc20, h⟩ := h
              refine JR.qtG rfl (SubM.nil) (SubL.cons (List.mem_of_getElem? (i := 0) rfl) (SubL.nil)) (Y.indexS rfl rfl (Lent.fact 0 rfl) rfl rfl hc20) (HistOk.b rfl HistOk.z) ?_
              refine JR.qtG rfl (SubM.nil) (SubL.cons (List.mem_of_getElem? (i := 0) rfl) (SubL.nil)) (Y.loadS0 rfl (Lent.fact 0 rfl) rfl rfl rfl RI64c0 hc20) (HistOk.b rfl HistOk.z) ?_
              refine JR.tailD 10 rfl rfl ?_
              refine J.guardY rfl (Y.eql rfl rfl) rfl ?_
              refine J.quiet (Y.pickT rfl rfl) rfl ?_
              refine J.quiet (Y.move rfl) rfl ?_
              refine J.guardD (by exact rfl) (by exact rfl) (fun hp21 => ?_) (fun hp21 => ?_)
              · replace h := ifP hp21 h
                refine J.guardY rfl (Y.loadB 0 rfl rfl rfl rfl rfl) rfl ?_
                refine J.guardY rfl (Y.eql rfl rfl) rfl ?_
                refine J.quiet (Y.pickT rfl rfl) rfl ?_
                refine J.quiet (Y.assign rfl) rfl ?_
                refine J.done ?_
                refine J.thenN ?_
                exact J.meetI (decide (((at' p3 p4).2) = (0 : Int))) (()) h (by repeat (first | exact SubF.nil | refine SubF.cons rfl ?_)) (SubM.nil) (LentAll.refl _ _)
              · replace h := ifN hp21 h
                refine J.guardN rfl rfl rfl ?_
                refine J.guardN rfl rfl rfl ?_
                refine J.quiet (Y.pickF rfl rfl) rfl ?_
                refine J.quiet (Y.assign rfl) rfl ?_
                refine J.done ?_
                refine J.thenN ?_
                exact J.meetI (false) (()) h (by repeat (first | exact SubF.nil | refine SubF.cons rfl ?_)) (SubM.nil) (LentAll.refl _ _)
            · replace h := ifBN hp19 h
              refine JR.guardN rfl rfl rfl rfl ?_
              refine JR.guardN rfl rfl rfl rfl ?_
              refine JR.guardN rfl rfl rfl rfl ?_
              refine JR.guardN rfl rfl rfl rfl ?_
              refine JR.guardN rfl rfl rfl rfl ?_
              refine JR.guardN rfl rfl rfl rfl ?_
              refine JR.tailD 10 rfl rfl ?_
              refine J.guardN rfl rfl rfl ?_
              refine J.quiet (Y.pickF rfl rfl) rfl ?_
              refine J.quiet (Y.move rfl) rfl ?_
              refine J.guardN rfl rfl rfl ?_
              refine J.guardN rfl rfl rfl ?_
              refine J.quiet (Y.pickF rfl rfl) rfl ?_
              refine J.quiet (Y.assign rfl) rfl ?_
              refine J.done ?_
              refine J.thenN ?_
              exact J.meetI (false) (()) h (by repeat (first | exact SubF.nil | refine SubF.cons rfl ?_)) (SubM.nil) (LentAll.refl _ _)
        · clear h
          intro a14 b15 h
          unfold labels_accepts_k2 at h
          refine J.ret ?_
          refine J.thenR ?_
          refine J.inR ?_
          refine J.thenR ?_
          obtain rfl := Option.some.inj h
          exact J.retG1 (()) rfl rfl (RV.tmp rfl) (SubM.refl _) LentAll.nil
      · replace h := ifN hp12 h
        refine J.skip ?_
        refine J.thenN ?_
        refine J.seq ?_
        refine J.midI (A := Bool) (B := Unit) (fun a56 => labels_accepts_k9  a56 = some r) (fun a56 b57 => [(10, Value.bool (a56))]) (fun a56 b57 => []) (fun a56 b57 => [Sl RI64 v0 p1.1, S2 RI64I64p v1 z2 p1.2, Sl RI64 v3 p2, Sl RI64I64p v4 p3]) ?_ ?_
        · refine JR.start [0, 0, 3, 7, 15, 31, 63, 127, 255, 255, 255, 1279, 255, 7423, 15615, 255, 255, 98559, 229631, 523519, 1047807, 2096383, 4194047, 8388351, 16777215, 33554431, 67108863] 24 mixedOrders (by decide +kernel) ?_
          refine JR.open (by exact rfl) ?_
          refine JR.qt rfl (SubM.nil) (SubL.nil) (Y.move rfl) HistOk.z ?_
          refine JR.qt rfl (SubM.nil) (SubL.nil) (Y.move rfl) HistOk.z ?_
          refine JR.inlC (A := Bool) (B := Unit) (vs := [Value.func (.func 68) #[] #[Value.pointer (some ⟨b8.1, 0, none⟩)], Value.pointer (some ⟨b9, 0, none⟩)]) (fun a59 => labels_accepts_k10 fuel p1 p2 p3 p4 a59 = some r) (fun a59 b60 => Value.bool (a59)) (fun a59 b60 => [Blk b8.2 [Value.int .i64 ((at' p3 p4).2)] 3, Blk b4 [Value.int .i64 (p4)] 3, Blk b2 [v4] 31, Blk b1 [v0, v1] 29]) (fun a59 b60 => [Sl RI64 v0 p1.1, S2 RI64I64p v1 z2 p1.2, Sl RI64 v3 p2, Sl RI64I64p v4 p3]) rfl rfl rfl (Enter.clo (us := [Value.func (.func 68) #[] #[Value.pointer (some ⟨b8.1, 0, none⟩)]]) (cs := [Value.pointer (some ⟨b9, 0, none⟩)]) (show HasBody Try.prog 66 from Try.call66) rfl rfl rfl) Try.func66 rfl Try.ntmps66 rfl rfl (fun _ _ => (BsOk.b rfl (BsOk.b rfl BsOk.z))) ?_ ?_
          · refine J.seq ?_
            refine J.region ?_
            refine J.loud (Loud.box (cs := [Value.func (.func 68) #[] #[Value.pointer (some ⟨b8.1, 0, none⟩)]]) rfl rfl) rfl fun b70 => ?_
            refine J.quiet (Y.assign rfl) rfl ?_
            refine J.done ?_
            refine J.thenN ?_
            refine J.seq ?_
            refine J.region ?_
            refine J.quiet (Y.loadB 1 rfl rfl rfl rfl rfl) rfl ?_
            refine J.quiet (Y.makeFunc (cs := [.tmp 2]) (vs := [Value.pointer (some ⟨b70, 0, none⟩)]) rfl) rfl ?_
            refine J.inlC (A := Bool) (B := Unit) (vs := [Value.func (.func 67) #[] #[Value.pointer (some ⟨b70, 0, none⟩)], Value.pointer (some ⟨b1, 0, none⟩), Value.pointer (some ⟨b4, 0, none⟩), Value.pointer (some ⟨b2, 0, none⟩)]) (fun a72 => labels_accepts_k11 fuel p1 p2 p3 p4 a72 = some r) (fun a72 b73 => Value.bool (a72)) (fun a72 b73 => [Blk b8.2 [Value.int .i64 ((at' p3 p4).2)] 3, Blk b4 [Value.int .i64 (p4)] 3, Blk b2 [v4] 31, Blk b1 [v0, v1] 29]) (fun a72 b73 => [Sl RI64 v0 p1.1, S2 RI64I64p v1 z2 p1.2, Sl RI64 v3 p2, Sl RI64I64p v4 p3]) (Enter.clo (us := [Value.func (.func 67) #[] #[Value.pointer (some ⟨b70, 0, none⟩)]]) (cs := [Value.pointer (some ⟨b1, 0, none⟩), Value.pointer (some ⟨b4, 0, none⟩), Value.pointer (some ⟨b2, 0, none⟩)]) (show HasBody Try.prog 63 from Try.call63) rfl rfl rfl) Try.func63 rfl Try.ntmps63 rfl rfl ?_ ?_
            · refine J.seq ?_
              refine J.region ?_
              refine J.loud (Loud.box (cs := [Value.func (.func 67) #[] #[Value.pointer (some ⟨b70, 0, none⟩)]]) rfl rfl) rfl fun b74 => ?_
              refine J.quiet (Y.assign rfl) rfl ?_
              refine J.done ?_
              refine J.thenN ?_
              refine J.seq ?_
              refine J.region ?_
              refine J.quiet (Y.loadBAll 7 rfl rfl rfl rfl) rfl ?_
              refine J.quiet (Y.loadB 5 rfl rfl rfl rfl rfl) rfl ?_
              refine J.quiet (Y.makeFunc (cs := [.tmp 4, .tmp 3]) (vs := [Value.pointer (some ⟨b74, 0, none⟩), Value.pointer (some ⟨b2, 0, none⟩)]) rfl) rfl ?_
              refine J.inlC (A := Int) (B := Unit) (vs := [Value.agg #[v0, v1], Value.int .i64 (p4), Value.func (.func 65) #[] #[Value.pointer (some ⟨b74, 0, none⟩), Value.pointer (some ⟨b2, 0, none⟩)]]) (fun a76 => labels_accepts_k12 fuel p1 p2 p3 p4 a76 = some r) (fun a76 b77 => Value.int .i64 (a76)) (fun a76 b77 => [Blk b8.2 [Value.int .i64 ((at' p3 p4).2)] 3, Blk b4 [Value.int .i64 (p4)] 3, Blk b2 [v4] 31, Blk b1 [v0, v1] 29]) (fun a76 b77 => [Sl RI64 v0 p1.1, S2 RI64I64p v1 z2 p1.2, Sl RI64 v3 p2, Sl RI64I64p v4 p3]) (Enter.fn (show HasBody Try.prog 64 from Try.call64) rfl) Try.func64 rfl Try.ntmps64 rfl rfl ?_ ?_
              · refine J.seq ?_
                refine J.region ?_
                refine J.loud (Loud.box (cs := [v0, v1]) rfl rfl) rfl fun b78 => ?_
                refine J.quiet (Y.assign rfl) rfl ?_
                refine J.done ?_
                refine J.thenN ?_
                refine J.seq ?_
                refine J.midI (A := Unit) (B := Unit) (fun a79 => labels_accepts_k13 fuel p1 p2 p3 p4 a79 = some r) (fun a79 b80 => []) (fun a79 b80 => [Blk b8.2 [Value.int .i64 ((at' p3 p4).2)] 3, Blk b4 [Value.int .i64 (p4)] 3, Blk b2 [v4] 31, Blk b1 [v0, v1] 29]) (fun a79 b80 => [Sl RI64 v0 p1.1, S2 RI64I64p v1 z2 p1.2, Sl RI64 v3 p2, Sl RI64I64p v4 p3]) ?_ ?_
                · refine J.seq ?_
                  refine J.region ?_
                  refine J.quiet (Y.fieldB rfl rfl rfl rfl rfl) rfl ?_
                  refine J.quiet (Y.loadB 0 rfl rfl rfl rfl rfl) rfl ?_
                  refine J.quiet (Y.move rfl) rfl ?_
                  replace h := ck_some h; obtain ⟨hc81, h⟩ := h
                  refine J.quiet (Y.indexN rfl rfl (Lent.fact 1 rfl) rfl rfl hc81) rfl ?_
                  refine J.quiet (Y.loadRow rfl (Lent.fact 1 rfl) rfl rfl hc81) rfl ?_
                  refine J.quiet (Y.lenS rfl (Lent.el (Lent.fact 1 rfl) hc81.1 hc81.2) rfl) rfl ?_
                  refine J.quiet (Y.move rfl) rfl ?_
                  refine J.done ?_
                  refine J.thenN ?_
                  refine J.block ?_
                  refine J.loopI (A := Int) (B := Unit) (labels_accepts_s2 fuel p1 p2 p3 p4) (fun a84 b85 => [(2, Value.func (.func 65) #[] #[Value.pointer (some ⟨b74, 0, none⟩), Value.pointer (some ⟨b2, 0, none⟩)]), (13, (at' z2 p4).1), (14, Value.int .i64 (List.length (at' p1.2 p4) : Int)), (15, Value.int .i64 (a84))]) (fun a84 b85 => [Blk b74 [Value.func (.func 67) #[] #[Value.pointer (some ⟨b70, 0, none⟩)]] 81, Blk b70 [Value.func (.func 68) #[] #[Value.pointer (some ⟨b8.1, 0, none⟩)]] 81, Blk b8.2 [Value.int .i64 ((at' p3 p4).2)] 3, Blk b8.1 [Value.int .i64 ((at' p3 p4).1)] 3, Blk b4 [Value.int .i64 (p4)] 3, Blk b2 [v4] 31, Blk b1 [v0, v1] 29]) (fun a84 b85 => [Sl RI64 v0 p1.1, S2 RI64I64p v1 z2 p1.2, Sl RI64 v3 p2, Sl RI64I64p v4 p3]) (0 : Int) (()) h (by repeat (first | exact SubF.nil | refine SubF.cons rfl ?_)) (SubM.cons 1 rfl (SubM.cons 1 rfl (SubM.cons 2 rfl (SubM.cons 2 rfl (SubM.cons 2 rfl (SubM.cons 2 rfl (SubM.cons 2 rfl (SubM.nil)))))))) (LentAll.refl _ _) ?_
                  clear h
                  intro k86 a84 b85 h
                  unfold labels_accepts_s2 at h
                  refine J.seq ?_
                  refine J.region ?_
                  refine J.quiet (Y.lss rfl rfl) rfl ?_
                  refine J.done ?_
                  refine J.thenN ?_
                  refine J.seq ?_
                  refine J.condD (by exact rfl) (fun hp87 => ?_) (fun hp87 => ?_)
                  · replace h := ifP hp87 h
                    refine J.skip ?_
                    refine J.thenN ?_
                    refine J.seq ?_
                    refine J.block ?_
                    refine J.seq ?_
                    refine J.region ?_
                    refine J.quiet (Y.move rfl) rfl ?_
                    replace h := ck_some h; obtain ⟨hc88, h⟩ := h
                    refine J.quiet (Y.indexS rfl rfl (Lent.el (Lent.fact 1 rfl) hc81.1 hc81.2) rfl rfl hc88) rfl ?_
                    refine J.quiet (Y.loadAggS (cs := [Value.int .i64 ((at' (at' p1.2 p4) a84).1), Value.int .i64 ((at' (at' p1.2 p4) a84).2)]) rfl (Lent.el (Lent.fact 1 rfl) hc81.1 hc81.2) FI64I64p rfl rfl rfl rfl hc88) rfl ?_
                    refine J.loud (Loud.alloc (cs := [Value.int .i64 (0 : Int), Value.int .i64 (0 : Int)]) rfl rfl) rfl fun b89 => ?_
                    refine J.quiet (Y.assign rfl) rfl ?_
                    refine J.storeAll 0 (vs := [Value.int .i64 ((at' (at' p1.2 p4) a84).1), Value.int .i64 ((at' (at' p1.2 p4) a84).2)]) rfl rfl rfl rfl rfl rfl ?_
                    refine J.done ?_
                    refine J.thenN ?_
                    refine J.seq ?_
                    refine J.region ?_
                    refine J.quiet (Y.move rfl) rfl ?_
                    refine J.quiet (Y.loadBAll 0 rfl rfl rfl rfl) rfl ?_
                    refine J.inlC (A := Bool) (B := Unit) (vs := [Value.agg #[Value.int .i64 ((at' (at' p1.2 p4) a84).1), Value.int .i64 ((at' (at' p1.2 p4) a84).2)], Value.pointer (some ⟨b74, 0, none⟩), Value.pointer (some ⟨b2, 0, none⟩)]) (fun a91 => labels_accepts_k14 fuel p1 p2 p3 p4 a84 (iter (labels_accepts_s2 fuel p1 p2 p3 p4) k86) a91 = some r) (fun a91 b92 => Value.bool (a91)) (fun a91 b92 => [Blk b74 [Value.func (.func 67) #[] #[Value.pointer (some ⟨b70, 0, none⟩)]] 81, Blk b70 [Value.func (.func 68) #[] #[Value.pointer (some ⟨b8.1, 0, none⟩)]] 81, Blk b8.2 [Value.int .i64 ((at' p3 p4).2)] 3, Blk b8.1 [Value.int .i64 ((at' p3 p4).1)] 3, Blk b4 [Value.int .i64 (p4)] 3, Blk b2 [v4] 31, Blk b1 [v0, v1] 29]) (fun a91 b92 => [Sl RI64 v0 p1.1, S2 RI64I64p v1 z2 p1.2, Sl RI64 v3 p2, Sl RI64I64p v4 p3]) (Enter.clo (us := [Value.agg #[Value.int .i64 ((at' (at' p1.2 p4) a84).1), Value.int .i64 ((at' (at' p1.2 p4) a84).2)]]) (cs := [Value.pointer (some ⟨b74, 0, none⟩), Value.pointer (some ⟨b2, 0, none⟩)]) (show HasBody Try.prog 65 from Try.call65) rfl rfl rfl) Try.func65 rfl Try.ntmps65 rfl rfl ?_ ?_
                    · refine J.seq ?_
                      refine J.region ?_
                      refine J.loud (Loud.box (cs := [Value.int .i64 ((at' (at' p1.2 p4) a84).1), Value.int .i64 ((at' (at' p1.2 p4) a84).2)]) rfl rfl) rfl fun b94 => ?_
                      refine J.quiet (Y.assign rfl) rfl ?_
                      refine J.done ?_
                      refine J.thenN ?_
                      refine J.seq ?_
                      refine JR.start [0, 0, 0, 4, 14, 30, 63, 127] 6 mixedOrders (by decide +kernel) ?_
                      refine JR.open (by exact rfl) ?_
                      refine JR.qt rfl (SubM.cons 2 rfl (SubM.nil)) (SubL.nil) (Y.loadB 0 rfl rfl rfl rfl rfl) HistOk.z ?_
                      refine JR.qt rfl (SubM.cons 7 rfl (SubM.nil)) (SubL.nil) (Y.loadB 0 rfl rfl rfl rfl rfl) HistOk.z ?_
                      refine JR.qt rfl (SubM.nil) (SubL.nil) (Y.fieldB rfl rfl rfl rfl rfl) HistOk.z ?_
                      refine JR.qt rfl (SubM.cons 0 rfl (SubM.nil)) (SubL.nil) (Y.loadB 0 rfl rfl rfl rfl rfl) HistOk.z ?_
                      replace h := ck_some h; obtain ⟨hc95, h⟩ := h
                      refine JR.qt rfl (SubM.nil) (SubL.cons (List.mem_of_getElem? (i := 3) rfl) (SubL.nil)) (Y.indexS rfl rfl (Lent.fact 0 rfl) rfl rfl hc95) HistOk.z ?_
                      refine JR.qt rfl (SubM.nil) (SubL.cons (List.mem_of_getElem? (i := 3) rfl) (SubL.nil)) (Y.loadAggS (cs := [Value.int .i64 ((at' p3 ((at' (at' p1.2 p4) a84).1)).1), Value.int .i64 ((at' p3 ((at' (at' p1.2 p4) a84).1)).2)]) rfl (Lent.fact 0 rfl) FI64I64p rfl rfl rfl rfl hc95) HistOk.z ?_
                      refine JR.tailD 6 rfl rfl ?_
                      refine J.inlC (A := Bool) (B := Unit) (vs := [Value.agg #[Value.int .i64 ((at' p3 ((at' (at' p1.2 p4) a84).1)).1), Value.int .i64 ((at' p3 ((at' (at' p1.2 p4) a84).1)).2)], Value.pointer (some ⟨b70, 0, none⟩)]) (fun a97 => labels_accepts_k15 fuel p1 p2 p3 p4 a84 (iter (labels_accepts_s2 fuel p1 p2 p3 p4) k86) a97 = some r) (fun a97 b98 => Value.bool (a97)) (fun a97 b98 => [Blk b74 [Value.func (.func 67) #[] #[Value.pointer (some ⟨b70, 0, none⟩)]] 81, Blk b70 [Value.func (.func 68) #[] #[Value.pointer (some ⟨b8.1, 0, none⟩)]] 81, Blk b8.2 [Value.int .i64 ((at' p3 p4).2)] 3, Blk b8.1 [Value.int .i64 ((at' p3 p4).1)] 3, Blk b4 [Value.int .i64 (p4)] 3, Blk b2 [v4] 31, Blk b1 [v0, v1] 29]) (fun a97 b98 => [Sl RI64 v0 p1.1, S2 RI64I64p v1 z2 p1.2, Sl RI64 v3 p2, Sl RI64I64p v4 p3]) (Enter.clo (us := [Value.agg #[Value.int .i64 ((at' p3 ((at' (at' p1.2 p4) a84).1)).1), Value.int .i64 ((at' p3 ((at' (at' p1.2 p4) a84).1)).2)]]) (cs := [Value.pointer (some ⟨b70, 0, none⟩)]) (show HasBody Try.prog 67 from Try.call67) rfl rfl rfl) Try.func67 rfl Try.ntmps67 rfl rfl ?_ ?_
                      · refine J.seq ?_
                        refine J.region ?_
                        refine J.loud (Loud.box (cs := [Value.int .i64 ((at' p3 ((at' (at' p1.2 p4) a84).1)).1), Value.int .i64 ((at' p3 ((at' (at' p1.2 p4) a84).1)).2)]) rfl rfl) rfl fun b99 => ?_
                        refine J.quiet (Y.assign rfl) rfl ?_
                        refine J.done ?_
                        refine J.thenN ?_
                        refine J.seq ?_
                        refine J.region ?_
                        refine J.quiet (Y.loadB 4 rfl rfl rfl rfl rfl) rfl ?_
                        refine J.quiet (Y.loadBAll 0 rfl rfl rfl rfl) rfl ?_
                        replace h := bnd h; obtain ⟨r100, hr101, h⟩ := h
                        refine J.loud (Loud.callVL (vs := [Value.agg #[Value.int .i64 ((at' p3 ((at' (at' p1.2 p4) a84).1)).1), Value.int .i64 ((at' p3 ((at' (at' p1.2 p4) a84).1)).2)]]) (cs := [Value.pointer (some ⟨b8.1, 0, none⟩)]) body68 rfl (t_labels_accepts_3 fuel b8.1 r100 hr101) rfl (LentAll.cons (Lent.res 6 rfl) (LentAll.nil)) (fun _ _ => rfl)) rfl fun x102 => ?_
                        refine J.quiet (Y.not rfl) rfl ?_
                        refine J.quiet (Y.assign rfl) rfl ?_
                        refine J.done ?_
                        refine J.thenN ?_
                        refine J.ret ?_
                        exact J.retM ((!r100)) (()) h (.inl rfl) (Res.r1 rfl (RV.tmp rfl)) rfl (SubM.cons 3 rfl (SubM.cons 3 rfl (SubM.cons 3 rfl (SubM.cons 3 rfl (SubM.cons 3 rfl (SubM.cons 3 rfl (SubM.cons 3 rfl (SubM.nil)))))))) (LentAll.refl _ _)
                      · clear h
                        intro a97 b98 h
                        unfold labels_accepts_k15 at h
                        refine J.quiet (Y.assign rfl) rfl ?_
                        refine J.done ?_
                        refine J.thenN ?_
                        refine J.ret ?_
                        exact J.retM (a97) (()) h (.inl rfl) (Res.r1 rfl (RV.tmp rfl)) rfl (SubM.refl _) (LentAll.refl _ _)
                    · clear h
                      intro a91 b92 h
                      unfold labels_accepts_k14 at h
                      refine J.done ?_
                      refine J.thenN ?_
                      refine J.cond (by exact rfl) (fun hp93 => ?_) (fun hp93 => ?_)
                      · replace h := ifP hp93 h
                        refine J.seq ?_
                        refine J.region ?_
                        refine J.quiet (Y.move rfl) rfl ?_
                        refine J.quiet (Y.assign rfl) rfl ?_
                        refine J.done ?_
                        refine J.thenN ?_
                        refine J.ret ?_
                        refine J.inR ?_
                        refine J.thenR ?_
                        refine J.thenR ?_
                        refine J.inR ?_
                        refine J.thenR ?_
                        exact J.retM (a84) (()) h (.inl rfl) (Res.r1 rfl (RV.tmp rfl)) rfl (SubM.cons 2 rfl (SubM.cons 3 rfl (SubM.cons 3 rfl (SubM.cons 3 rfl (SubM.nil))))) (LentAll.refl _ _)
                      · replace h := ifBN hp93 h
                        refine J.skip ?_
                        refine J.inN ?_
                        refine J.thenN ?_
                        refine J.region ?_
                        refine J.quiet (Y.addW rfl rfl) rfl ?_
                        refine J.quiet (Y.move rfl) rfl ?_
                        refine J.done ?_
                        refine J.thenN ?_
                        exact J.againI (wI .i64 (a84 + (1 : Int))) (()) h (by repeat (first | exact SubF.nil | refine SubF.cons rfl ?_)) (SubM.refl _) (LentAll.refl _ _)
                  · replace h := ifN hp87 h
                    refine J.exit ?_
                    refine J.thenX ?_
                    refine J.thenX ?_
                    refine J.inX ?_
                    refine J.thenN ?_
                    exact J.meetI (()) (()) h (by repeat (first | exact SubF.nil | refine SubF.cons rfl ?_)) (SubM.cons 2 rfl (SubM.cons 3 rfl (SubM.cons 3 rfl (SubM.cons 3 rfl (SubM.nil))))) (LentAll.refl _ _)
                · clear h
                  intro a79 b80 h
                  unfold labels_accepts_k13 at h
                  refine J.seq ?_
                  refine J.region ?_
                  refine J.quiet (Y.assign rfl) rfl ?_
                  refine J.done ?_
                  refine J.thenN ?_
                  refine J.ret ?_
                  exact J.retM (-1 : Int) (()) h (.inl rfl) (Res.r1 rfl (RV.tmp rfl)) rfl (SubM.refl _) (LentAll.refl _ _)
              · clear h
                intro a76 b77 h
                unfold labels_accepts_k12 at h
                refine J.quiet (Y.geq rfl rfl) rfl ?_
                refine J.quiet (Y.assign rfl) rfl ?_
                refine J.done ?_
                refine J.thenN ?_
                refine J.ret ?_
                exact J.retM (decide ((0 : Int) ≤ a76)) (()) h (.inl rfl) (Res.r1 rfl (RV.tmp rfl)) rfl (SubM.refl _) (LentAll.refl _ _)
            · clear h
              intro a72 b73 h
              unfold labels_accepts_k11 at h
              refine J.quiet (Y.not rfl) rfl ?_
              refine J.quiet (Y.assign rfl) rfl ?_
              refine J.done ?_
              refine J.thenN ?_
              refine J.ret ?_
              exact J.retM ((!a72)) (()) h (.inl rfl) (Res.r1 rfl (RV.tmp rfl)) rfl (SubM.refl _) (LentAll.refl _ _)
          · clear h
            intro a59 b60 h
            unfold labels_accepts_k10 at h
            refine JR.qt rfl (SubM.nil) (SubL.nil) (Y.move rfl) (HistOk.b rfl HistOk.z) ?_
            refine JR.guard (by exact rfl) (by exact rfl) (by exact rfl) (fun hp61 => ?_) (fun hp61 => ?_)
            · replace h := ifP hp61 h
              refine JR.qtG rfl (SubM.cons 0 rfl (SubM.nil)) (SubL.nil) (Y.loadB 0 rfl rfl rfl rfl rfl) (HistOk.b rfl HistOk.z) ?_
              refine JR.qtG rfl (SubM.nil) (SubL.nil) (Y.geq rfl rfl) (HistOk.b rfl HistOk.z) ?_
              refine JR.qt rfl (SubM.nil) (SubL.nil) (Y.pickT rfl rfl) (HistOk.b rfl HistOk.z) ?_
              refine JR.qt rfl (SubM.nil) (SubL.nil) (Y.move rfl) (HistOk.b rfl HistOk.z) ?_
              refine JR.guardD (by exact rfl) (by exact rfl) (by exact rfl) (fun hp62 => ?_) (fun hp62 => ?_)
              · replace h := ifP hp62 h
                refine JR.qtG rfl (SubM.nil) (SubL.nil) (Y.move rfl) (HistOk.b rfl HistOk.z) ?_
                refine JR.qtG rfl (SubM.cons 2 rfl (SubM.nil)) (SubL.nil) (Y.loadB 0 rfl rfl rfl rfl rfl) (HistOk.b rfl HistOk.z) ?_
                refine JR.qtG rfl (SubM.nil) (SubL.nil) (Y.fieldB rfl rfl rfl rfl rfl) (HistOk.b rfl HistOk.z) ?_
                refine JR.qtG rfl (SubM.cons 3 rfl (SubM.nil)) (SubL.nil) (Y.loadB 0 rfl rfl rfl rfl rfl) (HistOk.b rfl HistOk.z) ?_
                refine JR.qtG rfl (SubM.cons 1 rfl (SubM.nil)) (SubL.nil) (Y.loadB 0 rfl rfl rfl rfl rfl) (HistOk.b rfl HistOk.z) ?_
                replace h := ck_some h; obtain ⟨hc63, h⟩ := h
                refine JR.qtG rfl (SubM.nil) (SubL.cons (List.mem_of_getElem? (i := 1) rfl) (SubL.nil)) (Y.indexN rfl rfl (Lent.fact 0 rfl) rfl rfl hc63) (HistOk.b rfl HistOk.z) ?_
                refine JR.qtG rfl (SubM.nil) (SubL.cons (List.mem_of_getElem? (i := 1) rfl) (SubL.nil)) (Y.loadRow rfl (Lent.fact 0 rfl) rfl rfl hc63) (HistOk.b rfl HistOk.z) ?_
                refine JR.qtG rfl (SubM.nil) (SubL.nil) (Y.move rfl) (HistOk.b rfl HistOk.z) ?_
                refine JR.qtG rfl (SubM.cons 1 rfl (SubM.nil)) (SubL.nil) (Y.loadB 0 rfl rfl rfl rfl rfl) (HistOk.b rfl HistOk.z) ?_
                replace h := ck_some h; obtain ⟨hc64, h⟩ := h
                refine JR.qtG rfl (SubM.nil) (SubL.cons (List.mem_of_getElem? (i := 2) rfl) (SubL.nil)) (Y.indexS rfl rfl (Lent.fact 0 rfl) rfl rfl hc64) (HistOk.b rfl HistOk.z) ?_
                refine JR.qtG rfl (SubM.nil) (SubL.cons (List.mem_of_getElem? (i := 2) rfl) (SubL.nil)) (Y.loadS0 rfl (Lent.fact 0 rfl) rfl rfl rfl RI64c0 hc64) (HistOk.b rfl HistOk.z) ?_
                replace h := ck_some h; obtain ⟨hc65, h⟩ := h
                refine JR.qtG rfl (SubM.nil) (SubL.cons (List.mem_of_getElem? (i := 1) rfl) (SubL.nil)) (Y.indexS rfl rfl (Lent.el (Lent.fact 0 rfl) hc63.1 hc63.2) rfl rfl hc65) (HistOk.b rfl HistOk.z) ?_
                refine JR.qtG rfl (SubM.nil) (SubL.nil) (Y.fieldEl rfl rfl rfl rfl rfl) (HistOk.b rfl HistOk.z) ?_
                refine JR.qtG rfl (SubM.nil) (SubL.cons (List.mem_of_getElem? (i := 1) rfl) (SubL.nil)) (Y.loadS rfl (Lent.el (Lent.fact 0 rfl) hc63.1 hc63.2) rfl rfl rfl RI64I64pc0 hc65) (HistOk.b rfl HistOk.z) ?_
                replace h := ck_some h; obtain ⟨hc66, h⟩ := h
                refine JR.qtG rfl (SubM.nil) (SubL.cons (List.mem_of_getElem? (i := 3) rfl) (SubL.nil)) (Y.indexS rfl rfl (Lent.fact 0 rfl) rfl rfl hc66) (HistOk.b rfl HistOk.z) ?_
                refine JR.qtG rfl (SubM.nil) (SubL.cons (List.mem_of_getElem? (i := 3) rfl) (SubL.nil)) (Y.loadAggS (cs := [Value.int .i64 ((at' p3 ((at' (at' p1.2 p4) (at' p2 p4)).1)).1), Value.int .i64 ((at' p3 ((at' (at' p1.2 p4) (at' p2 p4)).1)).2)]) rfl (Lent.fact 0 rfl) FI64I64p rfl rfl rfl rfl hc66) (HistOk.b rfl HistOk.z) ?_
                refine JR.tailD 24 rfl rfl ?_
                replace h := bnd h; obtain ⟨r67, hr68, h⟩ := h
                refine J.loudG rfl (Loud.callVL (vs := [Value.agg #[Value.int .i64 ((at' p3 ((at' (at' p1.2 p4) (at' p2 p4)).1)).1), Value.int .i64 ((at' p3 ((at' (at' p1.2 p4) (at' p2 p4)).1)).2)]]) (cs := [Value.pointer (some ⟨b8.2, 0, none⟩)]) body69 rfl (t_labels_accepts_4 fuel b8.2 r67 hr68) rfl (LentAll.cons (Lent.res 0 rfl) (LentAll.nil)) (fun _ _ => rfl)) rfl fun x69 => ?_
                refine J.quiet (Y.pickT rfl rfl) rfl ?_
                refine J.quiet (Y.assign rfl) rfl ?_
                refine J.done ?_
                refine J.thenN ?_
                exact J.meetI (r67) (()) h (by repeat (first | exact SubF.nil | refine SubF.cons rfl ?_)) (SubM.nil) (LentAll.refl _ _)
              · replace h := ifN hp62 h
                refine JR.guardN rfl rfl rfl rfl ?_
                refine JR.guardN rfl rfl rfl rfl ?_
                refine JR.guardN rfl rfl rfl rfl ?_
                refine JR.guardN rfl rfl rfl rfl ?_
                refine JR.guardN rfl rfl rfl rfl ?_
                refine JR.guardN rfl rfl rfl rfl ?_
                refine JR.guardN rfl rfl rfl rfl ?_
                refine JR.guardN rfl rfl rfl rfl ?_
                refine JR.guardN rfl rfl rfl rfl ?_
                refine JR.guardN rfl rfl rfl rfl ?_
                refine JR.guardN rfl rfl rfl rfl ?_
                refine JR.guardN rfl rfl rfl rfl ?_
                refine JR.guardN rfl rfl rfl rfl ?_
                refine JR.guardN rfl rfl rfl rfl ?_
                refine JR.guardN rfl rfl rfl rfl ?_
                refine JR.guardN rfl rfl rfl rfl ?_
                refine JR.tailD 24 rfl rfl ?_
                refine J.guardN rfl rfl rfl ?_
                refine J.quiet (Y.pickF rfl rfl) rfl ?_
                refine J.quiet (Y.assign rfl) rfl ?_
                refine J.done ?_
                refine J.thenN ?_
                exact J.meetI (false) (()) h (by repeat (first | exact SubF.nil | refine SubF.cons rfl ?_)) (SubM.nil) (LentAll.refl _ _)
            · replace h := ifBN hp61 h
              refine JR.guardN rfl rfl rfl rfl ?_
              refine JR.guardN rfl rfl rfl rfl ?_
              refine JR.qt rfl (SubM.nil) (SubL.nil) (Y.pickF rfl rfl) (HistOk.b rfl HistOk.z) ?_
              refine JR.qt rfl (SubM.nil) (SubL.nil) (Y.move rfl) (HistOk.b rfl HistOk.z) ?_
              refine JR.guardN rfl rfl rfl rfl ?_
              refine JR.guardN rfl rfl rfl rfl ?_
              refine JR.guardN rfl rfl rfl rfl ?_
              refine JR.guardN rfl rfl rfl rfl ?_
              refine JR.guardN rfl rfl rfl rfl ?_
              refine JR.guardN rfl rfl rfl rfl ?_
              refine JR.guardN rfl rfl rfl rfl ?_
              refine JR.guardN rfl rfl rfl rfl ?_
              refine JR.guardN rfl rfl rfl rfl ?_
              refine JR.guardN rfl rfl rfl rfl ?_
              refine JR.guardN rfl rfl rfl rfl ?_
              refine JR.guardN rfl rfl rfl rfl ?_
              refine JR.guardN rfl rfl rfl rfl ?_
              refine JR.guardN rfl rfl rfl rfl ?_
              refine JR.guardN rfl rfl rfl rfl ?_
              refine JR.guardN rfl rfl rfl rfl ?_
              refine JR.tailD 24 rfl rfl ?_
              refine J.guardN rfl rfl rfl ?_
              refine J.quiet (Y.pickF rfl rfl) rfl ?_
              refine J.quiet (Y.assign rfl) rfl ?_
              refine J.done ?_
              refine J.thenN ?_
              exact J.meetI (false) (()) h (by repeat (first | exact SubF.nil | refine SubF.cons rfl ?_)) (SubM.nil) (LentAll.refl _ _)
        · clear h
          intro a56 b57 h
          unfold labels_accepts_k9 at h
          refine J.ret ?_
          refine J.inR ?_
          refine J.thenR ?_
          obtain rfl := Option.some.inj h
          exact J.retG1 (()) rfl rfl (RV.tmp rfl) (SubM.refl _) LentAll.nil
    · replace h := ifN hp10 h
      refine J.seq ?_
      refine J.region ?_
      refine J.quiet (Y.eql rfl rfl) rfl ?_
      refine J.quiet (Y.assign rfl) rfl ?_
      refine J.done ?_
      refine J.thenN ?_
      refine J.condD (by exact rfl) (fun hp103 => ?_) (fun hp103 => ?_)
      · replace h := ifP hp103 h
        refine J.seq ?_
        refine J.seq ?_
        refine J.region ?_
        refine J.quiet (Y.move rfl) rfl ?_
        refine J.quiet (Y.loadB 3 rfl rfl rfl rfl rfl) rfl ?_
        replace h := ck_some h; obtain ⟨hc104, h⟩ := h
        refine J.quiet (Y.indexS rfl rfl (Lent.fact 2 rfl) rfl rfl hc104) rfl ?_
        refine J.quiet (Y.loadS0 rfl (Lent.fact 2 rfl) rfl rfl rfl RI64c0 hc104) rfl ?_
        refine J.quiet (Y.eql rfl rfl) rfl ?_
        refine J.done ?_
        refine J.thenN ?_
        refine J.condD (by exact rfl) (fun hp105 => ?_) (fun hp105 => ?_)
        · replace h := ifP hp105 h
          refine J.seq ?_
          refine J.midI (A := Bool) (B := Unit) (fun a107 => labels_accepts_k16  a107 = some r) (fun a107 b108 => [(10, Value.bool (a107))]) (fun a107 b108 => []) (fun a107 b108 => [Sl RI64 v0 p1.1, S2 RI64I64p v1 z2 p1.2, Sl RI64 v3 p2, Sl RI64I64p v4 p3]) ?_ ?_
          · refine JR.start [0, 0, 3, 7, 15, 15, 47, 15, 239, 495, 1023, 2047, 4095, 8191, 16383, 32767, 65535] 10 mixedOrders (by decide +kernel) ?_
            refine JR.open (by exact rfl) ?_
            refine JR.qt rfl (SubM.nil) (SubL.nil) (Y.move rfl) HistOk.z ?_
            refine JR.qt rfl (SubM.nil) (SubL.nil) (Y.move rfl) HistOk.z ?_
            refine JR.inlC (A := Bool) (B := Unit) (vs := [Value.func (.func 68) #[] #[Value.pointer (some ⟨b8.1, 0, none⟩)], Value.pointer (some ⟨b9, 0, none⟩)]) (fun a110 => labels_accepts_k17 p1 p3 p4 a110 = some r) (fun a110 b111 => Value.bool (a110)) (fun a110 b111 => [Blk b8.2 [Value.int .i64 ((at' p3 p4).2)] 3, Blk b8.1 [Value.int .i64 ((at' p3 p4).1)] 3, Blk b4 [Value.int .i64 (p4)] 3, Blk b1 [v0, v1] 29]) (fun a110 b111 => [Sl RI64 v0 p1.1, S2 RI64I64p v1 z2 p1.2, Sl RI64 v3 p2, Sl RI64I64p v4 p3]) rfl rfl rfl (Enter.clo (us := [Value.func (.func 68) #[] #[Value.pointer (some ⟨b8.1, 0, none⟩)]]) (cs := [Value.pointer (some ⟨b9, 0, none⟩)]) (show HasBody Try.prog 66 from Try.call66) rfl rfl rfl) Try.func66 rfl Try.ntmps66 rfl rfl (fun _ _ => (BsOk.b rfl (BsOk.b rfl BsOk.z))) ?_ ?_
            · refine J.seq ?_
              refine J.region ?_
              refine J.loud (Loud.box (cs := [Value.func (.func 68) #[] #[Value.pointer (some ⟨b8.1, 0, none⟩)]]) rfl rfl) rfl fun b115 => ?_
              refine J.quiet (Y.assign rfl) rfl ?_
              refine J.done ?_
              refine J.thenN ?_
              refine J.seq ?_
              refine J.region ?_
              refine J.quiet (Y.loadB 1 rfl rfl rfl rfl rfl) rfl ?_
              refine J.quiet (Y.makeFunc (cs := [.tmp 2]) (vs := [Value.pointer (some ⟨b115, 0, none⟩)]) rfl) rfl ?_
              refine J.inlC (A := Bool) (B := Unit) (vs := [Value.func (.func 67) #[] #[Value.pointer (some ⟨b115, 0, none⟩)], Value.pointer (some ⟨b1, 0, none⟩), Value.pointer (some ⟨b4, 0, none⟩), Value.pointer (some ⟨b2, 0, none⟩)]) (fun a117 => labels_accepts_k18 p1 p3 p4 a117 = some r) (fun a117 b118 => Value.bool (a117)) (fun a117 b118 => [Blk b8.2 [Value.int .i64 ((at' p3 p4).2)] 3, Blk b8.1 [Value.int .i64 ((at' p3 p4).1)] 3, Blk b4 [Value.int .i64 (p4)] 3, Blk b1 [v0, v1] 29]) (fun a117 b118 => [Sl RI64 v0 p1.1, S2 RI64I64p v1 z2 p1.2, Sl RI64 v3 p2, Sl RI64I64p v4 p3]) (Enter.clo (us := [Value.func (.func 67) #[] #[Value.pointer (some ⟨b115, 0, none⟩)]]) (cs := [Value.pointer (some ⟨b1, 0, none⟩), Value.pointer (some ⟨b4, 0, none⟩), Value.pointer (some ⟨b2, 0, none⟩)]) (show HasBody Try.prog 63 from Try.call63) rfl rfl rfl) Try.func63 rfl Try.ntmps63 rfl rfl ?_ ?_
              · refine J.seq ?_
                refine J.region ?_
                refine J.loud (Loud.box (cs := [Value.func (.func 67) #[] #[Value.pointer (some ⟨b115, 0, none⟩)]]) rfl rfl) rfl fun b119 => ?_
                refine J.quiet (Y.assign rfl) rfl ?_
                refine J.done ?_
                refine J.thenN ?_
                refine J.seq ?_
                refine J.region ?_
                refine J.quiet (Y.loadBAll 7 rfl rfl rfl rfl) rfl ?_
                refine J.quiet (Y.loadB 5 rfl rfl rfl rfl rfl) rfl ?_
                refine J.quiet (Y.makeFunc (cs := [.tmp 4, .tmp 3]) (vs := [Value.pointer (some ⟨b119, 0, none⟩), Value.pointer (some ⟨b2, 0, none⟩)]) rfl) rfl ?_
                refine J.inlC (A := Int) (B := Unit) (vs := [Value.agg #[v0, v1], Value.int .i64 (p4), Value.func (.func 65) #[] #[Value.pointer (some ⟨b119, 0, none⟩), Value.pointer (some ⟨b2, 0, none⟩)]]) (fun a121 => labels_accepts_k19 p1 p3 p4 a121 = some r) (fun a121 b122 => Value.int .i64 (a121)) (fun a121 b122 => [Blk b8.2 [Value.int .i64 ((at' p3 p4).2)] 3, Blk b8.1 [Value.int .i64 ((at' p3 p4).1)] 3, Blk b4 [Value.int .i64 (p4)] 3, Blk b1 [v0, v1] 29]) (fun a121 b122 => [Sl RI64 v0 p1.1, S2 RI64I64p v1 z2 p1.2, Sl RI64 v3 p2, Sl RI64I64p v4 p3]) (Enter.fn (show HasBody Try.prog 64 from Try.call64) rfl) Try.func64 rfl Try.ntmps64 rfl rfl ?_ ?_
                · refine J.seq ?_
                  refine J.region ?_
                  refine J.loud (Loud.box (cs := [v0, v1]) rfl rfl) rfl fun b123 => ?_
                  refine J.quiet (Y.assign rfl) rfl ?_
                  refine J.done ?_
                  refine J.thenN ?_
                  refine J.seq ?_
                  refine J.midI (A := Unit) (B := Unit) (fun a124 => labels_accepts_k20 p1 p3 p4 a124 = some r) (fun a124 b125 => []) (fun a124 b125 => [Blk b8.2 [Value.int .i64 ((at' p3 p4).2)] 3, Blk b8.1 [Value.int .i64 ((at' p3 p4).1)] 3, Blk b4 [Value.int .i64 (p4)] 3, Blk b1 [v0, v1] 29]) (fun a124 b125 => [Sl RI64 v0 p1.1, S2 RI64I64p v1 z2 p1.2, Sl RI64 v3 p2, Sl RI64I64p v4 p3]) ?_ ?_
                  · refine J.seq ?_
                    refine J.region ?_
                    refine J.quiet (Y.fieldB rfl rfl rfl rfl rfl) rfl ?_
                    refine J.quiet (Y.loadB 0 rfl rfl rfl rfl rfl) rfl ?_
                    refine J.quiet (Y.move rfl) rfl ?_
                    replace h := ck_some h; obtain ⟨hc126, h⟩ := h
                    refine J.quiet (Y.indexN rfl rfl (Lent.fact 1 rfl) rfl rfl hc126) rfl ?_
                    refine J.quiet (Y.loadRow rfl (Lent.fact 1 rfl) rfl rfl hc126) rfl ?_
                    refine J.quiet (Y.lenS rfl (Lent.el (Lent.fact 1 rfl) hc126.1 hc126.2) rfl) rfl ?_
                    refine J.quiet (Y.move rfl) rfl ?_
                    refine J.done ?_
                    refine J.thenN ?_
                    refine J.block ?_
                    refine J.loopI (A := Int) (B := Unit) (labels_accepts_s3 fuel p1 p3 p4) (fun a129 b130 => [(2, Value.func (.func 65) #[] #[Value.pointer (some ⟨b119, 0, none⟩), Value.pointer (some ⟨b2, 0, none⟩)]), (13, (at' z2 p4).1), (14, Value.int .i64 (List.length (at' p1.2 p4) : Int)), (15, Value.int .i64 (a129))]) (fun a129 b130 => [Blk b119 [Value.func (.func 67) #[] #[Value.pointer (some ⟨b115, 0, none⟩)]] 81, Blk b115 [Value.func (.func 68) #[] #[Value.pointer (some ⟨b8.1, 0, none⟩)]] 81, Blk b8.2 [Value.int .i64 ((at' p3 p4).2)] 3, Blk b8.1 [Value.int .i64 ((at' p3 p4).1)] 3, Blk b4 [Value.int .i64 (p4)] 3, Blk b2 [v4] 31, Blk b1 [v0, v1] 29]) (fun a129 b130 => [Sl RI64 v0 p1.1, S2 RI64I64p v1 z2 p1.2, Sl RI64 v3 p2, Sl RI64I64p v4 p3]) (0 : Int) (()) h (by repeat (first | exact SubF.nil | refine SubF.cons rfl ?_)) (SubM.cons 1 rfl (SubM.cons 1 rfl (SubM.cons 2 rfl (SubM.cons 2 rfl (SubM.cons 2 rfl (SubM.cons 2 rfl (SubM.cons 2 rfl (SubM.nil)))))))) (LentAll.refl _ _) ?_
                    clear h
                    intro k131 a129 b130 h
                    unfold labels_accepts_s3 at h
                    refine J.seq ?_
                    refine J.region ?_
                    refine J.quiet (Y.lss rfl rfl) rfl ?_
                    refine J.done ?_
                    refine J.thenN ?_
                    refine J.seq ?_
                    refine J.condD (by exact rfl) (fun hp132 => ?_) (fun hp132 => ?_)
                    · replace h := ifP hp132 h
                      refine J.skip ?_
                      refine J.thenN ?_
                      refine J.seq ?_
                      refine J.block ?_
                      refine J.seq ?_
                      refine J.region ?_
                      refine J.quiet (Y.move rfl) rfl ?_
                      replace h := ck_some h; obtain ⟨hc133, h⟩ := h
                      refine J.quiet (Y.indexS rfl rfl (Lent.el (Lent.fact 1 rfl) hc126.1 hc126.2) rfl rfl hc133) rfl ?_
                      refine J.quiet (Y.loadAggS (cs := [Value.int .i64 ((at' (at' p1.2 p4) a129).1), Value.int .i64 ((at' (at' p1.2 p4) a129).2)]) rfl (Lent.el (Lent.fact 1 rfl) hc126.1 hc126.2) FI64I64p rfl rfl rfl rfl hc133) rfl ?_
                      refine J.loud (Loud.alloc (cs := [Value.int .i64 (0 : Int), Value.int .i64 (0 : Int)]) rfl rfl) rfl fun b134 => ?_
                      refine J.quiet (Y.assign rfl) rfl ?_
                      refine J.storeAll 0 (vs := [Value.int .i64 ((at' (at' p1.2 p4) a129).1), Value.int .i64 ((at' (at' p1.2 p4) a129).2)]) rfl rfl rfl rfl rfl rfl ?_
                      refine J.done ?_
                      refine J.thenN ?_
                      refine J.seq ?_
                      refine J.region ?_
                      refine J.quiet (Y.move rfl) rfl ?_
                      refine J.quiet (Y.loadBAll 0 rfl rfl rfl rfl) rfl ?_
                      refine J.inlC (A := Bool) (B := Unit) (vs := [Value.agg #[Value.int .i64 ((at' (at' p1.2 p4) a129).1), Value.int .i64 ((at' (at' p1.2 p4) a129).2)], Value.pointer (some ⟨b119, 0, none⟩), Value.pointer (some ⟨b2, 0, none⟩)]) (fun a136 => labels_accepts_k21 p1 p3 p4 a129 (iter (labels_accepts_s3 fuel p1 p3 p4) k131) a136 = some r) (fun a136 b137 => Value.bool (a136)) (fun a136 b137 => [Blk b119 [Value.func (.func 67) #[] #[Value.pointer (some ⟨b115, 0, none⟩)]] 81, Blk b115 [Value.func (.func 68) #[] #[Value.pointer (some ⟨b8.1, 0, none⟩)]] 81, Blk b8.2 [Value.int .i64 ((at' p3 p4).2)] 3, Blk b8.1 [Value.int .i64 ((at' p3 p4).1)] 3, Blk b4 [Value.int .i64 (p4)] 3, Blk b2 [v4] 31, Blk b1 [v0, v1] 29]) (fun a136 b137 => [Sl RI64 v0 p1.1, S2 RI64I64p v1 z2 p1.2, Sl RI64 v3 p2, Sl RI64I64p v4 p3]) (Enter.clo (us := [Value.agg #[Value.int .i64 ((at' (at' p1.2 p4) a129).1), Value.int .i64 ((at' (at' p1.2 p4) a129).2)]]) (cs := [Value.pointer (some ⟨b119, 0, none⟩), Value.pointer (some ⟨b2, 0, none⟩)]) (show HasBody Try.prog 65 from Try.call65) rfl rfl rfl) Try.func65 rfl Try.ntmps65 rfl rfl ?_ ?_
                      · refine J.seq ?_
                        refine J.region ?_
                        refine J.loud (Loud.box (cs := [Value.int .i64 ((at' (at' p1.2 p4) a129).1), Value.int .i64 ((at' (at' p1.2 p4) a129).2)]) rfl rfl) rfl fun b139 => ?_
                        refine J.quiet (Y.assign rfl) rfl ?_
                        refine J.done ?_
                        refine J.thenN ?_
                        refine J.seq ?_
                        refine JR.start [0, 0, 0, 4, 14, 30, 63, 127] 6 mixedOrders (by decide +kernel) ?_
                        refine JR.open (by exact rfl) ?_
                        refine JR.qt rfl (SubM.cons 2 rfl (SubM.nil)) (SubL.nil) (Y.loadB 0 rfl rfl rfl rfl rfl) HistOk.z ?_
                        refine JR.qt rfl (SubM.cons 7 rfl (SubM.nil)) (SubL.nil) (Y.loadB 0 rfl rfl rfl rfl rfl) HistOk.z ?_
                        refine JR.qt rfl (SubM.nil) (SubL.nil) (Y.fieldB rfl rfl rfl rfl rfl) HistOk.z ?_
                        refine JR.qt rfl (SubM.cons 0 rfl (SubM.nil)) (SubL.nil) (Y.loadB 0 rfl rfl rfl rfl rfl) HistOk.z ?_
                        replace h := ck_some h; obtain ⟨hc140, h⟩ := h
                        refine JR.qt rfl (SubM.nil) (SubL.cons (List.mem_of_getElem? (i := 3) rfl) (SubL.nil)) (Y.indexS rfl rfl (Lent.fact 0 rfl) rfl rfl hc140) HistOk.z ?_
                        refine JR.qt rfl (SubM.nil) (SubL.cons (List.mem_of_getElem? (i := 3) rfl) (SubL.nil)) (Y.loadAggS (cs := [Value.int .i64 ((at' p3 ((at' (at' p1.2 p4) a129).1)).1), Value.int .i64 ((at' p3 ((at' (at' p1.2 p4) a129).1)).2)]) rfl (Lent.fact 0 rfl) FI64I64p rfl rfl rfl rfl hc140) HistOk.z ?_
                        refine JR.tailD 6 rfl rfl ?_
                        refine J.inlC (A := Bool) (B := Unit) (vs := [Value.agg #[Value.int .i64 ((at' p3 ((at' (at' p1.2 p4) a129).1)).1), Value.int .i64 ((at' p3 ((at' (at' p1.2 p4) a129).1)).2)], Value.pointer (some ⟨b115, 0, none⟩)]) (fun a142 => labels_accepts_k22 p1 p3 p4 a129 (iter (labels_accepts_s3 fuel p1 p3 p4) k131) a142 = some r) (fun a142 b143 => Value.bool (a142)) (fun a142 b143 => [Blk b119 [Value.func (.func 67) #[] #[Value.pointer (some ⟨b115, 0, none⟩)]] 81, Blk b115 [Value.func (.func 68) #[] #[Value.pointer (some ⟨b8.1, 0, none⟩)]] 81, Blk b8.2 [Value.int .i64 ((at' p3 p4).2)] 3, Blk b8.1 [Value.int .i64 ((at' p3 p4).1)] 3, Blk b4 [Value.int .i64 (p4)] 3, Blk b2 [v4] 31, Blk b1 [v0, v1] 29]) (fun a142 b143 => [Sl RI64 v0 p1.1, S2 RI64I64p v1 z2 p1.2, Sl RI64 v3 p2, Sl RI64I64p v4 p3]) (Enter.clo (us := [Value.agg #[Value.int .i64 ((at' p3 ((at' (at' p1.2 p4) a129).1)).1), Value.int .i64 ((at' p3 ((at' (at' p1.2 p4) a129).1)).2)]]) (cs := [Value.pointer (some ⟨b115, 0, none⟩)]) (show HasBody Try.prog 67 from Try.call67) rfl rfl rfl) Try.func67 rfl Try.ntmps67 rfl rfl ?_ ?_
                        · refine J.seq ?_
                          refine J.region ?_
                          refine J.loud (Loud.box (cs := [Value.int .i64 ((at' p3 ((at' (at' p1.2 p4) a129).1)).1), Value.int .i64 ((at' p3 ((at' (at' p1.2 p4) a129).1)).2)]) rfl rfl) rfl fun b144 => ?_
                          refine J.quiet (Y.assign rfl) rfl ?_
                          refine J.done ?_
                          refine J.thenN ?_
                          refine J.seq ?_
                          refine J.region ?_
                          refine J.quiet (Y.loadB 4 rfl rfl rfl rfl rfl) rfl ?_
                          refine J.quiet (Y.loadBAll 0 rfl rfl rfl rfl) rfl ?_
                          replace h := bnd h; obtain ⟨r145, hr146, h⟩ := h
                          refine J.loud (Loud.callVL (vs := [Value.agg #[Value.int .i64 ((at' p3 ((at' (at' p1.2 p4) a129).1)).1), Value.int .i64 ((at' p3 ((at' (at' p1.2 p4) a129).1)).2)]]) (cs := [Value.pointer (some ⟨b8.1, 0, none⟩)]) body68 rfl (t_labels_accepts_3 fuel b8.1 r145 hr146) rfl (LentAll.cons (Lent.res 6 rfl) (LentAll.nil)) (fun _ _ => rfl)) rfl fun x147 => ?_
                          refine J.quiet (Y.not rfl) rfl ?_
                          refine J.quiet (Y.assign rfl) rfl ?_
                          refine J.done ?_
                          refine J.thenN ?_
                          refine J.ret ?_
                          exact J.retM ((!r145)) (()) h (.inl rfl) (Res.r1 rfl (RV.tmp rfl)) rfl (SubM.cons 3 rfl (SubM.cons 3 rfl (SubM.cons 3 rfl (SubM.cons 3 rfl (SubM.cons 3 rfl (SubM.cons 3 rfl (SubM.cons 3 rfl (SubM.nil)))))))) (LentAll.refl _ _)
                        · clear h
                          intro a142 b143 h
                          unfold labels_accepts_k22 at h
                          refine J.quiet (Y.assign rfl) rfl ?_
                          refine J.done ?_
                          refine J.thenN ?_
                          refine J.ret ?_
                          exact J.retM (a142) (()) h (.inl rfl) (Res.r1 rfl (RV.tmp rfl)) rfl (SubM.refl _) (LentAll.refl _ _)
                      · clear h
                        intro a136 b137 h
                        unfold labels_accepts_k21 at h
                        refine J.done ?_
                        refine J.thenN ?_
                        refine J.cond (by exact rfl) (fun hp138 => ?_) (fun hp138 => ?_)
                        · replace h := ifP hp138 h
                          refine J.seq ?_
                          refine J.region ?_
                          refine J.quiet (Y.move rfl) rfl ?_
                          refine J.quiet (Y.assign rfl) rfl ?_
                          refine J.done ?_
                          refine J.thenN ?_
                          refine J.ret ?_
                          refine J.inR ?_
                          refine J.thenR ?_
                          refine J.thenR ?_
                          refine J.inR ?_
                          refine J.thenR ?_
                          exact J.retM (a129) (()) h (.inl rfl) (Res.r1 rfl (RV.tmp rfl)) rfl (SubM.cons 2 rfl (SubM.cons 2 rfl (SubM.cons 2 rfl (SubM.cons 3 rfl (SubM.nil))))) (LentAll.refl _ _)
                        · replace h := ifBN hp138 h
                          refine J.skip ?_
                          refine J.inN ?_
                          refine J.thenN ?_
                          refine J.region ?_
                          refine J.quiet (Y.addW rfl rfl) rfl ?_
                          refine J.quiet (Y.move rfl) rfl ?_
                          refine J.done ?_
                          refine J.thenN ?_
                          exact J.againI (wI .i64 (a129 + (1 : Int))) (()) h (by repeat (first | exact SubF.nil | refine SubF.cons rfl ?_)) (SubM.refl _) (LentAll.refl _ _)
                    · replace h := ifN hp132 h
                      refine J.exit ?_
                      refine J.thenX ?_
                      refine J.thenX ?_
                      refine J.inX ?_
                      refine J.thenN ?_
                      exact J.meetI (()) (()) h (by repeat (first | exact SubF.nil | refine SubF.cons rfl ?_)) (SubM.cons 2 rfl (SubM.cons 2 rfl (SubM.cons 2 rfl (SubM.cons 3 rfl (SubM.nil))))) (LentAll.refl _ _)
                  · clear h
                    intro a124 b125 h
                    unfold labels_accepts_k20 at h
                    refine J.seq ?_
                    refine J.region ?_
                    refine J.quiet (Y.assign rfl) rfl ?_
                    refine J.done ?_
                    refine J.thenN ?_
                    refine J.ret ?_
                    exact J.retM (-1 : Int) (()) h (.inl rfl) (Res.r1 rfl (RV.tmp rfl)) rfl (SubM.refl _) (LentAll.refl _ _)
                · clear h
                  intro a121 b122 h
                  unfold labels_accepts_k19 at h
                  refine J.quiet (Y.geq rfl rfl) rfl ?_
                  refine J.quiet (Y.assign rfl) rfl ?_
                  refine J.done ?_
                  refine J.thenN ?_
                  refine J.ret ?_
                  exact J.retM (decide ((0 : Int) ≤ a121)) (()) h (.inl rfl) (Res.r1 rfl (RV.tmp rfl)) rfl (SubM.refl _) (LentAll.refl _ _)
              · clear h
                intro a117 b118 h
                unfold labels_accepts_k18 at h
                refine J.quiet (Y.not rfl) rfl ?_
                refine J.quiet (Y.assign rfl) rfl ?_
                refine J.done ?_
                refine J.thenN ?_
                refine J.ret ?_
                exact J.retM ((!a117)) (()) h (.inl rfl) (Res.r1 rfl (RV.tmp rfl)) rfl (SubM.refl _) (LentAll.refl _ _)
            · clear h
              intro a110 b111 h
              unfold labels_accepts_k17 at h
              refine JR.qt rfl (SubM.nil) (SubL.nil) (Y.move rfl) (HistOk.b rfl HistOk.z) ?_
              refine JR.guard (by exact rfl) (by exact rfl) (by exact rfl) (fun hp112 => ?_) (fun hp112 => ?_)
              · replace h := ifP hp112 h
                refine JR.qtG rfl (SubM.cons 1 rfl (SubM.nil)) (SubL.nil) (Y.loadB 0 rfl rfl rfl rfl rfl) (HistOk.b rfl HistOk.z) ?_
                refine JR.qtG rfl (SubM.nil) (SubL.nil) (Y.fieldB rfl rfl rfl rfl rfl) (HistOk.b rfl HistOk.z) ?_
                refine JR.qtG rfl (SubM.cons 3 rfl (SubM.nil)) (SubL.nil) (Y.loadB 0 rfl rfl rfl rfl rfl) (HistOk.b rfl HistOk.z) ?_
                refine JR.qtG rfl (SubM.cons 2 rfl (SubM.nil)) (SubL.nil) (Y.loadB 0 rfl rfl rfl rfl rfl) (HistOk.b rfl HistOk.z) ?_
                replace h := ck_some h; obtain ⟨hc113, h⟩ := h
                refine JR.qtG rfl (SubM.nil) (SubL.cons (List.mem_of_getElem? (i := 0) rfl) (SubL.nil)) (Y.indexS rfl rfl (Lent.fact 0 rfl) rfl rfl hc113) (HistOk.b rfl HistOk.z) ?_
                refine JR.qtG rfl (SubM.nil) (SubL.cons (List.mem_of_getElem? (i := 0) rfl) (SubL.nil)) (Y.loadS0 rfl (Lent.fact 0 rfl) rfl rfl rfl RI64c0 hc113) (HistOk.b rfl HistOk.z) ?_
                refine JR.tailD 10 rfl rfl ?_
                refine J.guardY rfl (Y.eql rfl rfl) rfl ?_
                refine J.quiet (Y.pickT rfl rfl) rfl ?_
                refine J.quiet (Y.move rfl) rfl ?_
                refine J.guardD (by exact rfl) (by exact rfl) (fun hp114 => ?_) (fun hp114 => ?_)
                · replace h := ifP hp114 h
                  refine J.guardY rfl (Y.loadB 0 rfl rfl rfl rfl rfl) rfl ?_
                  refine J.guardY rfl (Y.eql rfl rfl) rfl ?_
                  refine J.quiet (Y.pickT rfl rfl) rfl ?_
                  refine J.quiet (Y.assign rfl) rfl ?_
                  refine J.done ?_
                  refine J.thenN ?_
                  exact J.meetI (decide (((at' p3 p4).2) = (0 : Int))) (()) h (by repeat (first | exact SubF.nil | refine SubF.cons rfl ?_)) (SubM.nil) (LentAll.refl _ _)
                · replace h := ifN hp114 h
                  refine J.guardN rfl rfl rfl ?_
                  refine J.guardN rfl rfl rfl ?_
                  refine J.quiet (Y.pickF rfl rfl) rfl ?_
                  refine J.quiet (Y.assign rfl) rfl ?_
                  refine J.done ?_
                  refine J.thenN ?_
                  exact J.meetI (false) (()) h (by repeat (first | exact SubF.nil | refine SubF.cons rfl ?_)) (SubM.nil) (LentAll.refl _ _)
              · replace h := ifBN hp112 h
                refine JR.guardN rfl rfl rfl rfl ?_
                refine JR.guardN rfl rfl rfl rfl ?_
                refine JR.guardN rfl rfl rfl rfl ?_
                refine JR.guardN rfl rfl rfl rfl ?_
                refine JR.guardN rfl rfl rfl rfl ?_
                refine JR.guardN rfl rfl rfl rfl ?_
                refine JR.tailD 10 rfl rfl ?_
                refine J.guardN rfl rfl rfl ?_
                refine J.quiet (Y.pickF rfl rfl) rfl ?_
                refine J.quiet (Y.move rfl) rfl ?_
                refine J.guardN rfl rfl rfl ?_
                refine J.guardN rfl rfl rfl ?_
                refine J.quiet (Y.pickF rfl rfl) rfl ?_
                refine J.quiet (Y.assign rfl) rfl ?_
                refine J.done ?_
                refine J.thenN ?_
                exact J.meetI (false) (()) h (by repeat (first | exact SubF.nil | refine SubF.cons rfl ?_)) (SubM.nil) (LentAll.refl _ _)
          · clear h
            intro a107 b108 h
            unfold labels_accepts_k16 at h
            refine J.ret ?_
            refine J.thenR ?_
            refine J.inR ?_
            refine J.thenR ?_
            obtain rfl := Option.some.inj h
            exact J.retG1 (()) rfl rfl (RV.tmp rfl) (SubM.refl _) LentAll.nil
        · replace h := ifN hp105 h
          refine J.skip ?_
          refine J.thenN ?_
          refine J.seq ?_
          refine J.midI (A := Bool) (B := Unit) (fun a149 => labels_accepts_k23  a149 = some r) (fun a149 b150 => [(10, Value.bool (a149))]) (fun a149 b150 => []) (fun a149 b150 => [Sl RI64 v0 p1.1, S2 RI64I64p v1 z2 p1.2, Sl RI64 v3 p2, Sl RI64I64p v4 p3]) ?_ ?_
          · refine J.region ?_
            refine J.quiet (Y.move rfl) rfl ?_
            refine J.quiet (Y.move rfl) rfl ?_
            refine J.inlC (A := Bool) (B := Unit) (vs := [Value.func (.func 68) #[] #[Value.pointer (some ⟨b8.1, 0, none⟩)], Value.pointer (some ⟨b9, 0, none⟩)]) (fun a152 => labels_accepts_k24 fuel p1 p3 p4 a152 = some r) (fun a152 b153 => Value.bool (a152)) (fun a152 b153 => [Blk b9 [Value.func (.func 63) #[] #[Value.pointer (some ⟨b1, 0, none⟩), Value.pointer (some ⟨b4, 0, none⟩), Value.pointer (some ⟨b2, 0, none⟩)]] 84, Blk b8.2 [Value.int .i64 ((at' p3 p4).2)] 3, Blk b4 [Value.int .i64 (p4)] 3, Blk b2 [v4] 31, Blk b1 [v0, v1] 29]) (fun a152 b153 => [Sl RI64 v0 p1.1, S2 RI64I64p v1 z2 p1.2, Sl RI64 v3 p2, Sl RI64I64p v4 p3]) (Enter.clo (us := [Value.func (.func 68) #[] #[Value.pointer (some ⟨b8.1, 0, none⟩)]]) (cs := [Value.pointer (some ⟨b9, 0, none⟩)]) (show HasBody Try.prog 66 from Try.call66) rfl rfl rfl) Try.func66 rfl Try.ntmps66 rfl rfl ?_ ?_
            · refine J.seq ?_
              refine J.region ?_
              refine J.loud (Loud.box (cs := [Value.func (.func 68) #[] #[Value.pointer (some ⟨b8.1, 0, none⟩)]]) rfl rfl) rfl fun b184 => ?_
              refine J.quiet (Y.assign rfl) rfl ?_
              refine J.done ?_
              refine J.thenN ?_
              refine J.seq ?_
              refine J.region ?_
              refine J.quiet (Y.loadB 1 rfl rfl rfl rfl rfl) rfl ?_
              refine J.quiet (Y.makeFunc (cs := [.tmp 2]) (vs := [Value.pointer (some ⟨b184, 0, none⟩)]) rfl) rfl ?_
              refine J.inlC (A := Bool) (B := Unit) (vs := [Value.func (.func 67) #[] #[Value.pointer (some ⟨b184, 0, none⟩)], Value.pointer (some ⟨b1, 0, none⟩), Value.pointer (some ⟨b4, 0, none⟩), Value.pointer (some ⟨b2, 0, none⟩)]) (fun a186 => labels_accepts_k29 fuel p1 p3 p4 a186 = some r) (fun a186 b187 => Value.bool (a186)) (fun a186 b187 => [Blk b9 [Value.func (.func 63) #[] #[Value.pointer (some ⟨b1, 0, none⟩), Value.pointer (some ⟨b4, 0, none⟩), Value.pointer (some ⟨b2, 0, none⟩)]] 84, Blk b8.2 [Value.int .i64 ((at' p3 p4).2)] 3, Blk b4 [Value.int .i64 (p4)] 3, Blk b2 [v4] 31, Blk b1 [v0, v1] 29]) (fun a186 b187 => [Sl RI64 v0 p1.1, S2 RI64I64p v1 z2 p1.2, Sl RI64 v3 p2, Sl RI64I64p v4 p3]) (Enter.clo (us := [Value.func (.func 67) #[] #[Value.pointer (some ⟨b184, 0, none⟩)]]) (cs := [Value.pointer (some ⟨b1, 0, none⟩), Value.pointer (some ⟨b4, 0, none⟩), Value.pointer (some ⟨b2, 0, none⟩)]) (show HasBody Try.prog 63 from Try.call63) rfl rfl rfl) Try.func63 rfl Try.ntmps63 rfl rfl ?_ ?_
              · refine J.seq ?_
                refine J.region ?_
                refine J.loud (Loud.box (cs := [Value.func (.func 67) #[] #[Value.pointer (some ⟨b184, 0, none⟩)]]) rfl rfl) rfl fun b188 => ?_
                refine J.quiet (Y.assign rfl) rfl ?_
                refine J.done ?_
                refine J.thenN ?_
                refine J.seq ?_
                refine J.region ?_
                refine J.quiet (Y.loadBAll 7 rfl rfl rfl rfl) rfl ?_
                refine J.quiet (Y.loadB 5 rfl rfl rfl rfl rfl) rfl ?_
                refine J.quiet (Y.makeFunc (cs := [.tmp 4, .tmp 3]) (vs := [Value.pointer (some ⟨b188, 0, none⟩), Value.pointer (some ⟨b2, 0, none⟩)]) rfl) rfl ?_
                refine J.inlC (A := Int) (B := Unit) (vs := [Value.agg #[v0, v1], Value.int .i64 (p4), Value.func (.func 65) #[] #[Value.pointer (some ⟨b188, 0, none⟩), Value.pointer (some ⟨b2, 0, none⟩)]]) (fun a190 => labels_accepts_k30 fuel p1 p3 p4 a190 = some r) (fun a190 b191 => Value.int .i64 (a190)) (fun a190 b191 => [Blk b9 [Value.func (.func 63) #[] #[Value.pointer (some ⟨b1, 0, none⟩), Value.pointer (some ⟨b4, 0, none⟩), Value.pointer (some ⟨b2, 0, none⟩)]] 84, Blk b8.2 [Value.int .i64 ((at' p3 p4).2)] 3, Blk b4 [Value.int .i64 (p4)] 3, Blk b2 [v4] 31, Blk b1 [v0, v1] 29]) (fun a190 b191 => [Sl RI64 v0 p1.1, S2 RI64I64p v1 z2 p1.2, Sl RI64 v3 p2, Sl RI64I64p v4 p3]) (Enter.fn (show HasBody Try.prog 64 from Try.call64) rfl) Try.func64 rfl Try.ntmps64 rfl rfl ?_ ?_
                · refine J.seq ?_
                  refine J.region ?_
                  refine J.loud (Loud.box (cs := [v0, v1]) rfl rfl) rfl fun b192 => ?_
                  refine J.quiet (Y.assign rfl) rfl ?_
                  refine J.done ?_
                  refine J.thenN ?_
                  refine J.seq ?_
                  refine J.midI (A := Unit) (B := Unit) (fun a193 => labels_accepts_k31 fuel p1 p3 p4 a193 = some r) (fun a193 b194 => []) (fun a193 b194 => [Blk b9 [Value.func (.func 63) #[] #[Value.pointer (some ⟨b1, 0, none⟩), Value.pointer (some ⟨b4, 0, none⟩), Value.pointer (some ⟨b2, 0, none⟩)]] 84, Blk b8.2 [Value.int .i64 ((at' p3 p4).2)] 3, Blk b4 [Value.int .i64 (p4)] 3, Blk b2 [v4] 31, Blk b1 [v0, v1] 29]) (fun a193 b194 => [Sl RI64 v0 p1.1, S2 RI64I64p v1 z2 p1.2, Sl RI64 v3 p2, Sl RI64I64p v4 p3]) ?_ ?_
                  · refine J.seq ?_
                    refine J.region ?_
                    refine J.quiet (Y.fieldB rfl rfl rfl rfl rfl) rfl ?_
                    refine J.quiet (Y.loadB 0 rfl rfl rfl rfl rfl) rfl ?_
                    refine J.quiet (Y.move rfl) rfl ?_
                    replace h := ck_some h; obtain ⟨hc195, h⟩ := h
                    refine J.quiet (Y.indexN rfl rfl (Lent.fact 1 rfl) rfl rfl hc195) rfl ?_
                    refine J.quiet (Y.loadRow rfl (Lent.fact 1 rfl) rfl rfl hc195) rfl ?_
                    refine J.quiet (Y.lenS rfl (Lent.el (Lent.fact 1 rfl) hc195.1 hc195.2) rfl) rfl ?_
                    refine J.quiet (Y.move rfl) rfl ?_
                    refine J.done ?_
                    refine J.thenN ?_
                    refine J.block ?_
                    refine J.loopI (A := Int) (B := Unit) (labels_accepts_s5 fuel p1 p3 p4) (fun a198 b199 => [(2, Value.func (.func 65) #[] #[Value.pointer (some ⟨b188, 0, none⟩), Value.pointer (some ⟨b2, 0, none⟩)]), (13, (at' z2 p4).1), (14, Value.int .i64 (List.length (at' p1.2 p4) : Int)), (15, Value.int .i64 (a198))]) (fun a198 b199 => [Blk b188 [Value.func (.func 67) #[] #[Value.pointer (some ⟨b184, 0, none⟩)]] 81, Blk b184 [Value.func (.func 68) #[] #[Value.pointer (some ⟨b8.1, 0, none⟩)]] 81, Blk b9 [Value.func (.func 63) #[] #[Value.pointer (some ⟨b1, 0, none⟩), Value.pointer (some ⟨b4, 0, none⟩), Value.pointer (some ⟨b2, 0, none⟩)]] 84, Blk b8.2 [Value.int .i64 ((at' p3 p4).2)] 3, Blk b8.1 [Value.int .i64 ((at' p3 p4).1)] 3, Blk b4 [Value.int .i64 (p4)] 3, Blk b2 [v4] 31, Blk b1 [v0, v1] 29]) (fun a198 b199 => [Sl RI64 v0 p1.1, S2 RI64I64p v1 z2 p1.2, Sl RI64 v3 p2, Sl RI64I64p v4 p3]) (0 : Int) (()) h (by repeat (first | exact SubF.nil | refine SubF.cons rfl ?_)) (SubM.cons 1 rfl (SubM.cons 1 rfl (SubM.cons 1 rfl (SubM.cons 1 rfl (SubM.cons 1 rfl (SubM.cons 1 rfl (SubM.cons 1 rfl (SubM.cons 1 rfl (SubM.nil))))))))) (LentAll.refl _ _) ?_
                    clear h
                    intro k200 a198 b199 h
                    unfold labels_accepts_s5 at h
                    refine J.seq ?_
                    refine J.region ?_
                    refine J.quiet (Y.lss rfl rfl) rfl ?_
                    refine J.done ?_
                    refine J.thenN ?_
                    refine J.seq ?_
                    refine J.condD (by exact rfl) (fun hp201 => ?_) (fun hp201 => ?_)
                    · replace h := ifP hp201 h
                      refine J.skip ?_
                      refine J.thenN ?_
                      refine J.seq ?_
                      refine J.block ?_
                      refine J.seq ?_
                      refine J.region ?_
                      refine J.quiet (Y.move rfl) rfl ?_
                      replace h := ck_some h; obtain ⟨hc202, h⟩ := h
                      refine J.quiet (Y.indexS rfl rfl (Lent.el (Lent.fact 1 rfl) hc195.1 hc195.2) rfl rfl hc202) rfl ?_
                      refine J.quiet (Y.loadAggS (cs := [Value.int .i64 ((at' (at' p1.2 p4) a198).1), Value.int .i64 ((at' (at' p1.2 p4) a198).2)]) rfl (Lent.el (Lent.fact 1 rfl) hc195.1 hc195.2) FI64I64p rfl rfl rfl rfl hc202) rfl ?_
                      refine J.loud (Loud.alloc (cs := [Value.int .i64 (0 : Int), Value.int .i64 (0 : Int)]) rfl rfl) rfl fun b203 => ?_
                      refine J.quiet (Y.assign rfl) rfl ?_
                      refine J.storeAll 0 (vs := [Value.int .i64 ((at' (at' p1.2 p4) a198).1), Value.int .i64 ((at' (at' p1.2 p4) a198).2)]) rfl rfl rfl rfl rfl rfl ?_
                      refine J.done ?_
                      refine J.thenN ?_
                      refine J.seq ?_
                      refine J.region ?_
                      refine J.quiet (Y.move rfl) rfl ?_
                      refine J.quiet (Y.loadBAll 0 rfl rfl rfl rfl) rfl ?_
                      refine J.inlC (A := Bool) (B := Unit) (vs := [Value.agg #[Value.int .i64 ((at' (at' p1.2 p4) a198).1), Value.int .i64 ((at' (at' p1.2 p4) a198).2)], Value.pointer (some ⟨b188, 0, none⟩), Value.pointer (some ⟨b2, 0, none⟩)]) (fun a205 => labels_accepts_k32 fuel p1 p3 p4 a198 (iter (labels_accepts_s5 fuel p1 p3 p4) k200) a205 = some r) (fun a205 b206 => Value.bool (a205)) (fun a205 b206 => [Blk b188 [Value.func (.func 67) #[] #[Value.pointer (some ⟨b184, 0, none⟩)]] 81, Blk b184 [Value.func (.func 68) #[] #[Value.pointer (some ⟨b8.1, 0, none⟩)]] 81, Blk b9 [Value.func (.func 63) #[] #[Value.pointer (some ⟨b1, 0, none⟩), Value.pointer (some ⟨b4, 0, none⟩), Value.pointer (some ⟨b2, 0, none⟩)]] 84, Blk b8.2 [Value.int .i64 ((at' p3 p4).2)] 3, Blk b8.1 [Value.int .i64 ((at' p3 p4).1)] 3, Blk b4 [Value.int .i64 (p4)] 3, Blk b2 [v4] 31, Blk b1 [v0, v1] 29]) (fun a205 b206 => [Sl RI64 v0 p1.1, S2 RI64I64p v1 z2 p1.2, Sl RI64 v3 p2, Sl RI64I64p v4 p3]) (Enter.clo (us := [Value.agg #[Value.int .i64 ((at' (at' p1.2 p4) a198).1), Value.int .i64 ((at' (at' p1.2 p4) a198).2)]]) (cs := [Value.pointer (some ⟨b188, 0, none⟩), Value.pointer (some ⟨b2, 0, none⟩)]) (show HasBody Try.prog 65 from Try.call65) rfl rfl rfl) Try.func65 rfl Try.ntmps65 rfl rfl ?_ ?_
                      · refine J.seq ?_
                        refine J.region ?_
                        refine J.loud (Loud.box (cs := [Value.int .i64 ((at' (at' p1.2 p4) a198).1), Value.int .i64 ((at' (at' p1.2 p4) a198).2)]) rfl rfl) rfl fun b208 => ?_
                        refine J.quiet (Y.assign rfl) rfl ?_
                        refine J.done ?_
                        refine J.thenN ?_
                        refine J.seq ?_
                        refine JR.start [0, 0, 0, 4, 14, 30, 63, 127] 6 mixedOrders (by decide +kernel) ?_
                        refine JR.open (by exact rfl) ?_
                        refine JR.qt rfl (SubM.cons 2 rfl (SubM.nil)) (SubL.nil) (Y.loadB 0 rfl rfl rfl rfl rfl) HistOk.z ?_
                        refine JR.qt rfl (SubM.cons 8 rfl (SubM.nil)) (SubL.nil) (Y.loadB 0 rfl rfl rfl rfl rfl) HistOk.z ?_
                        refine JR.qt rfl (SubM.nil) (SubL.nil) (Y.fieldB rfl rfl rfl rfl rfl) HistOk.z ?_
                        refine JR.qt rfl (SubM.cons 0 rfl (SubM.nil)) (SubL.nil) (Y.loadB 0 rfl rfl rfl rfl rfl) HistOk.z ?_
                        replace h := ck_some h; obtain ⟨hc209, h⟩ := h
                        refine JR.qt rfl (SubM.nil) (SubL.cons (List.mem_of_getElem? (i := 3) rfl) (SubL.nil)) (Y.indexS rfl rfl (Lent.fact 0 rfl) rfl rfl hc209) HistOk.z ?_
                        refine JR.qt rfl (SubM.nil) (SubL.cons (List.mem_of_getElem? (i := 3) rfl) (SubL.nil)) (Y.loadAggS (cs := [Value.int .i64 ((at' p3 ((at' (at' p1.2 p4) a198).1)).1), Value.int .i64 ((at' p3 ((at' (at' p1.2 p4) a198).1)).2)]) rfl (Lent.fact 0 rfl) FI64I64p rfl rfl rfl rfl hc209) HistOk.z ?_
                        refine JR.tailD 6 rfl rfl ?_
                        refine J.inlC (A := Bool) (B := Unit) (vs := [Value.agg #[Value.int .i64 ((at' p3 ((at' (at' p1.2 p4) a198).1)).1), Value.int .i64 ((at' p3 ((at' (at' p1.2 p4) a198).1)).2)], Value.pointer (some ⟨b184, 0, none⟩)]) (fun a211 => labels_accepts_k33 fuel p1 p3 p4 a198 (iter (labels_accepts_s5 fuel p1 p3 p4) k200) a211 = some r) (fun a211 b212 => Value.bool (a211)) (fun a211 b212 => [Blk b188 [Value.func (.func 67) #[] #[Value.pointer (some ⟨b184, 0, none⟩)]] 81, Blk b184 [Value.func (.func 68) #[] #[Value.pointer (some ⟨b8.1, 0, none⟩)]] 81, Blk b9 [Value.func (.func 63) #[] #[Value.pointer (some ⟨b1, 0, none⟩), Value.pointer (some ⟨b4, 0, none⟩), Value.pointer (some ⟨b2, 0, none⟩)]] 84, Blk b8.2 [Value.int .i64 ((at' p3 p4).2)] 3, Blk b8.1 [Value.int .i64 ((at' p3 p4).1)] 3, Blk b4 [Value.int .i64 (p4)] 3, Blk b2 [v4] 31, Blk b1 [v0, v1] 29]) (fun a211 b212 => [Sl RI64 v0 p1.1, S2 RI64I64p v1 z2 p1.2, Sl RI64 v3 p2, Sl RI64I64p v4 p3]) (Enter.clo (us := [Value.agg #[Value.int .i64 ((at' p3 ((at' (at' p1.2 p4) a198).1)).1), Value.int .i64 ((at' p3 ((at' (at' p1.2 p4) a198).1)).2)]]) (cs := [Value.pointer (some ⟨b184, 0, none⟩)]) (show HasBody Try.prog 67 from Try.call67) rfl rfl rfl) Try.func67 rfl Try.ntmps67 rfl rfl ?_ ?_
                        · refine J.seq ?_
                          refine J.region ?_
                          refine J.loud (Loud.box (cs := [Value.int .i64 ((at' p3 ((at' (at' p1.2 p4) a198).1)).1), Value.int .i64 ((at' p3 ((at' (at' p1.2 p4) a198).1)).2)]) rfl rfl) rfl fun b213 => ?_
                          refine J.quiet (Y.assign rfl) rfl ?_
                          refine J.done ?_
                          refine J.thenN ?_
                          refine J.seq ?_
                          refine J.region ?_
                          refine J.quiet (Y.loadB 4 rfl rfl rfl rfl rfl) rfl ?_
                          refine J.quiet (Y.loadBAll 0 rfl rfl rfl rfl) rfl ?_
                          replace h := bnd h; obtain ⟨r214, hr215, h⟩ := h
                          refine J.loud (Loud.callVL (vs := [Value.agg #[Value.int .i64 ((at' p3 ((at' (at' p1.2 p4) a198).1)).1), Value.int .i64 ((at' p3 ((at' (at' p1.2 p4) a198).1)).2)]]) (cs := [Value.pointer (some ⟨b8.1, 0, none⟩)]) body68 rfl (t_labels_accepts_3 fuel b8.1 r214 hr215) rfl (LentAll.cons (Lent.res 7 rfl) (LentAll.nil)) (fun _ _ => rfl)) rfl fun x216 => ?_
                          refine J.quiet (Y.not rfl) rfl ?_
                          refine J.quiet (Y.assign rfl) rfl ?_
                          refine J.done ?_
                          refine J.thenN ?_
                          refine J.ret ?_
                          exact J.retM ((!r214)) (()) h (.inl rfl) (Res.r1 rfl (RV.tmp rfl)) rfl (SubM.cons 3 rfl (SubM.cons 3 rfl (SubM.cons 3 rfl (SubM.cons 3 rfl (SubM.cons 3 rfl (SubM.cons 3 rfl (SubM.cons 3 rfl (SubM.cons 3 rfl (SubM.nil))))))))) (LentAll.refl _ _)
                        · clear h
                          intro a211 b212 h
                          unfold labels_accepts_k33 at h
                          refine J.quiet (Y.assign rfl) rfl ?_
                          refine J.done ?_
                          refine J.thenN ?_
                          refine J.ret ?_
                          exact J.retM (a211) (()) h (.inl rfl) (Res.r1 rfl (RV.tmp rfl)) rfl (SubM.refl _) (LentAll.refl _ _)
                      · clear h
                        intro a205 b206 h
                        unfold labels_accepts_k32 at h
                        refine J.done ?_
                        refine J.thenN ?_
                        refine J.cond (by exact rfl) (fun hp207 => ?_) (fun hp207 => ?_)
                        · replace h := ifP hp207 h
                          refine J.seq ?_
                          refine J.region ?_
                          refine J.quiet (Y.move rfl) rfl ?_
                          refine J.quiet (Y.assign rfl) rfl ?_
                          refine J.done ?_
                          refine J.thenN ?_
                          refine J.ret ?_
                          refine J.inR ?_
                          refine J.thenR ?_
                          refine J.thenR ?_
                          refine J.inR ?_
                          refine J.thenR ?_
                          exact J.retM (a198) (()) h (.inl rfl) (Res.r1 rfl (RV.tmp rfl)) rfl (SubM.cons 2 rfl (SubM.cons 2 rfl (SubM.cons 3 rfl (SubM.cons 3 rfl (SubM.cons 3 rfl (SubM.nil)))))) (LentAll.refl _ _)
                        · replace h := ifBN hp207 h
                          refine J.skip ?_
                          refine J.inN ?_
                          refine J.thenN ?_
                          refine J.region ?_
                          refine J.quiet (Y.addW rfl rfl) rfl ?_
                          refine J.quiet (Y.move rfl) rfl ?_
                          refine J.done ?_
                          refine J.thenN ?_
                          exact J.againI (wI .i64 (a198 + (1 : Int))) (()) h (by repeat (first | exact SubF.nil | refine SubF.cons rfl ?_)) (SubM.refl _) (LentAll.refl _ _)
                    · replace h := ifN hp201 h
                      refine J.exit ?_
                      refine J.thenX ?_
                      refine J.thenX ?_
                      refine J.inX ?_
                      refine J.thenN ?_
                      exact J.meetI (()) (()) h (by repeat (first | exact SubF.nil | refine SubF.cons rfl ?_)) (SubM.cons 2 rfl (SubM.cons 2 rfl (SubM.cons 3 rfl (SubM.cons 3 rfl (SubM.cons 3 rfl (SubM.nil)))))) (LentAll.refl _ _)
                  · clear h
                    intro a193 b194 h
                    unfold labels_accepts_k31 at h
                    refine J.seq ?_
                    refine J.region ?_
                    refine J.quiet (Y.assign rfl) rfl ?_
                    refine J.done ?_
                    refine J.thenN ?_
                    refine J.ret ?_
                    exact J.retM (-1 : Int) (()) h (.inl rfl) (Res.r1 rfl (RV.tmp rfl)) rfl (SubM.refl _) (LentAll.refl _ _)
                · clear h
                  intro a190 b191 h
                  unfold labels_accepts_k30 at h
                  refine J.quiet (Y.geq rfl rfl) rfl ?_
                  refine J.quiet (Y.assign rfl) rfl ?_
                  refine J.done ?_
                  refine J.thenN ?_
                  refine J.ret ?_
                  exact J.retM (decide ((0 : Int) ≤ a190)) (()) h (.inl rfl) (Res.r1 rfl (RV.tmp rfl)) rfl (SubM.refl _) (LentAll.refl _ _)
              · clear h
                intro a186 b187 h
                unfold labels_accepts_k29 at h
                refine J.quiet (Y.not rfl) rfl ?_
                refine J.quiet (Y.assign rfl) rfl ?_
                refine J.done ?_
                refine J.thenN ?_
                refine J.ret ?_
                exact J.retM ((!a186)) (()) h (.inl rfl) (Res.r1 rfl (RV.tmp rfl)) rfl (SubM.refl _) (LentAll.refl _ _)
            · clear h
              intro a152 b153 h
              unfold labels_accepts_k24 at h
              refine J.quiet (Y.move rfl) rfl ?_
              refine J.guard (by exact rfl) (by exact rfl) (fun hp154 => ?_) (fun hp154 => ?_)
              · replace h := ifP hp154 h
                refine J.guardY rfl (Y.loadB 1 rfl rfl rfl rfl rfl) rfl ?_
                refine J.guardY rfl (Y.geq rfl rfl) rfl ?_
                refine J.quiet (Y.pickT rfl rfl) rfl ?_
                refine J.quiet (Y.move rfl) rfl ?_
                refine J.guardD (by exact rfl) (by exact rfl) (fun hp155 => ?_) (fun hp155 => ?_)
                · replace h := ifP hp155 h
                  refine J.guardY rfl (Y.loadB 0 rfl rfl rfl rfl rfl) rfl ?_
                  refine J.guardY rfl (Y.move rfl) rfl ?_
                  refine J.inlCG (A := Bool) (B := Unit) (vs := [Value.func (.func 69) #[] #[Value.pointer (some ⟨b8.2, 0, none⟩)], Value.pointer (some ⟨b1, 0, none⟩), Value.pointer (some ⟨b4, 0, none⟩), Value.pointer (some ⟨b2, 0, none⟩)]) (fun a157 => labels_accepts_k25  a157 = some r) (fun a157 b158 => Value.bool (a157)) (fun a157 b158 => []) (fun a157 b158 => [Sl RI64 v0 p1.1, S2 RI64I64p v1 z2 p1.2, Sl RI64 v3 p2, Sl RI64I64p v4 p3]) rfl (Enter.clo (us := [Value.func (.func 69) #[] #[Value.pointer (some ⟨b8.2, 0, none⟩)]]) (cs := [Value.pointer (some ⟨b1, 0, none⟩), Value.pointer (some ⟨b4, 0, none⟩), Value.pointer (some ⟨b2, 0, none⟩)]) (show HasBody Try.prog 63 from Try.call63) rfl rfl rfl) Try.func63 rfl Try.ntmps63 rfl rfl ?_ ?_
                  · refine J.seq ?_
                    refine J.region ?_
                    refine J.loud (Loud.box (cs := [Value.func (.func 69) #[] #[Value.pointer (some ⟨b8.2, 0, none⟩)]]) rfl rfl) rfl fun b159 => ?_
                    refine J.quiet (Y.assign rfl) rfl ?_
                    refine J.done ?_
                    refine J.thenN ?_
                    refine J.seq ?_
                    refine J.region ?_
                    refine J.quiet (Y.loadBAll 5 rfl rfl rfl rfl) rfl ?_
                    refine J.quiet (Y.loadB 3 rfl rfl rfl rfl rfl) rfl ?_
                    refine J.quiet (Y.makeFunc (cs := [.tmp 4, .tmp 3]) (vs := [Value.pointer (some ⟨b159, 0, none⟩), Value.pointer (some ⟨b2, 0, none⟩)]) rfl) rfl ?_
                    refine J.inlC (A := Int) (B := Unit) (vs := [Value.agg #[v0, v1], Value.int .i64 (p4), Value.func (.func 65) #[] #[Value.pointer (some ⟨b159, 0, none⟩), Value.pointer (some ⟨b2, 0, none⟩)]]) (fun a161 => labels_accepts_k26  a161 = some r) (fun a161 b162 => Value.int .i64 (a161)) (fun a161 b162 => []) (fun a161 b162 => [Sl RI64 v0 p1.1, S2 RI64I64p v1 z2 p1.2, Sl RI64 v3 p2, Sl RI64I64p v4 p3]) (Enter.fn (show HasBody Try.prog 64 from Try.call64) rfl) Try.func64 rfl Try.ntmps64 rfl rfl ?_ ?_
                    · refine J.seq ?_
                      refine J.region ?_
                      refine J.loud (Loud.box (cs := [v0, v1]) rfl rfl) rfl fun b163 => ?_
                      refine J.quiet (Y.assign rfl) rfl ?_
                      refine J.done ?_
                      refine J.thenN ?_
                      refine J.seq ?_
                      refine J.midI (A := Unit) (B := Unit) (fun a164 => labels_accepts_k27  a164 = some r) (fun a164 b165 => []) (fun a164 b165 => []) (fun a164 b165 => [Sl RI64 v0 p1.1, S2 RI64I64p v1 z2 p1.2, Sl RI64 v3 p2, Sl RI64I64p v4 p3]) ?_ ?_
                      · refine J.seq ?_
                        refine J.region ?_
                        refine J.quiet (Y.fieldB rfl rfl rfl rfl rfl) rfl ?_
                        refine J.quiet (Y.loadB 0 rfl rfl rfl rfl rfl) rfl ?_
                        refine J.quiet (Y.move rfl) rfl ?_
                        replace h := ck_some h; obtain ⟨hc166, h⟩ := h
                        refine J.quiet (Y.indexN rfl rfl (Lent.fact 1 rfl) rfl rfl hc166) rfl ?_
                        refine J.quiet (Y.loadRow rfl (Lent.fact 1 rfl) rfl rfl hc166) rfl ?_
                        refine J.quiet (Y.lenS rfl (Lent.el (Lent.fact 1 rfl) hc166.1 hc166.2) rfl) rfl ?_
                        refine J.quiet (Y.move rfl) rfl ?_
                        refine J.done ?_
                        refine J.thenN ?_
                        refine J.block ?_
                        refine J.loopI (A := Int) (B := Unit) (labels_accepts_s4 fuel p1 p3 p4) (fun a169 b170 => [(2, Value.func (.func 65) #[] #[Value.pointer (some ⟨b159, 0, none⟩), Value.pointer (some ⟨b2, 0, none⟩)]), (13, (at' z2 p4).1), (14, Value.int .i64 (List.length (at' p1.2 p4) : Int)), (15, Value.int .i64 (a169))]) (fun a169 b170 => [Blk b159 [Value.func (.func 69) #[] #[Value.pointer (some ⟨b8.2, 0, none⟩)]] 81, Blk b8.2 [Value.int .i64 ((at' p3 p4).2)] 3, Blk b2 [v4] 31]) (fun a169 b170 => [Sl RI64 v0 p1.1, S2 RI64I64p v1 z2 p1.2, Sl RI64 v3 p2, Sl RI64I64p v4 p3]) (0 : Int) (()) h (by repeat (first | exact SubF.nil | refine SubF.cons rfl ?_)) (SubM.cons 1 rfl (SubM.cons 2 rfl (SubM.cons 3 rfl (SubM.nil)))) (LentAll.refl _ _) ?_
                        clear h
                        intro k171 a169 b170 h
                        unfold labels_accepts_s4 at h
                        refine J.seq ?_
                        refine J.region ?_
                        refine J.quiet (Y.lss rfl rfl) rfl ?_
                        refine J.done ?_
                        refine J.thenN ?_
                        refine J.seq ?_
                        refine J.condD (by exact rfl) (fun hp172 => ?_) (fun hp172 => ?_)
                        · replace h := ifP hp172 h
                          refine J.skip ?_
                          refine J.thenN ?_
                          refine J.seq ?_
                          refine J.block ?_
                          refine J.seq ?_
                          refine J.region ?_
                          refine J.quiet (Y.move rfl) rfl ?_
                          replace h := ck_some h; obtain ⟨hc173, h⟩ := h
                          refine J.quiet (Y.indexS rfl rfl (Lent.el (Lent.fact 1 rfl) hc166.1 hc166.2) rfl rfl hc173) rfl ?_
                          refine J.quiet (Y.loadAggS (cs := [Value.int .i64 ((at' (at' p1.2 p4) a169).1), Value.int .i64 ((at' (at' p1.2 p4) a169).2)]) rfl (Lent.el (Lent.fact 1 rfl) hc166.1 hc166.2) FI64I64p rfl rfl rfl rfl hc173) rfl ?_
                          refine J.loud (Loud.alloc (cs := [Value.int .i64 (0 : Int), Value.int .i64 (0 : Int)]) rfl rfl) rfl fun b174 => ?_
                          refine J.quiet (Y.assign rfl) rfl ?_
                          refine J.storeAll 0 (vs := [Value.int .i64 ((at' (at' p1.2 p4) a169).1), Value.int .i64 ((at' (at' p1.2 p4) a169).2)]) rfl rfl rfl rfl rfl rfl ?_
                          refine J.done ?_
                          refine J.thenN ?_
                          refine J.seq ?_
                          refine J.region ?_
                          refine J.quiet (Y.move rfl) rfl ?_
                          refine J.quiet (Y.loadBAll 0 rfl rfl rfl rfl) rfl ?_
                          refine J.inlC (A := Bool) (B := Unit) (vs := [Value.agg #[Value.int .i64 ((at' (at' p1.2 p4) a169).1), Value.int .i64 ((at' (at' p1.2 p4) a169).2)], Value.pointer (some ⟨b159, 0, none⟩), Value.pointer (some ⟨b2, 0, none⟩)]) (fun a176 => labels_accepts_k28 a169 (iter (labels_accepts_s4 fuel p1 p3 p4) k171) a176 = some r) (fun a176 b177 => Value.bool (a176)) (fun a176 b177 => [Blk b159 [Value.func (.func 69) #[] #[Value.pointer (some ⟨b8.2, 0, none⟩)]] 81, Blk b8.2 [Value.int .i64 ((at' p3 p4).2)] 3, Blk b2 [v4] 31]) (fun a176 b177 => [Sl RI64 v0 p1.1, S2 RI64I64p v1 z2 p1.2, Sl RI64 v3 p2, Sl RI64I64p v4 p3]) (Enter.clo (us := [Value.agg #[Value.int .i64 ((at' (at' p1.2 p4) a169).1), Value.int .i64 ((at' (at' p1.2 p4) a169).2)]]) (cs := [Value.pointer (some ⟨b159, 0, none⟩), Value.pointer (some ⟨b2, 0, none⟩)]) (show HasBody Try.prog 65 from Try.call65) rfl rfl rfl) Try.func65 rfl Try.ntmps65 rfl rfl ?_ ?_
                          · refine J.seq ?_
                            refine J.region ?_
                            refine J.loud (Loud.box (cs := [Value.int .i64 ((at' (at' p1.2 p4) a169).1), Value.int .i64 ((at' (at' p1.2 p4) a169).2)]) rfl rfl) rfl fun b179 => ?_
                            refine J.quiet (Y.assign rfl) rfl ?_
                            refine J.done ?_
                            refine J.thenN ?_
                            refine J.seq ?_
                            refine JR.start [0, 0, 0, 4, 14, 30, 63, 127] 6 mixedOrders (by decide +kernel) ?_
                            refine JR.open (by exact rfl) ?_
                            refine JR.qt rfl (SubM.cons 2 rfl (SubM.nil)) (SubL.nil) (Y.loadB 0 rfl rfl rfl rfl rfl) HistOk.z ?_
                            refine JR.qt rfl (SubM.cons 4 rfl (SubM.nil)) (SubL.nil) (Y.loadB 0 rfl rfl rfl rfl rfl) HistOk.z ?_
                            refine JR.qt rfl (SubM.nil) (SubL.nil) (Y.fieldB rfl rfl rfl rfl rfl) HistOk.z ?_
                            refine JR.qt rfl (SubM.cons 0 rfl (SubM.nil)) (SubL.nil) (Y.loadB 0 rfl rfl rfl rfl rfl) HistOk.z ?_
                            replace h := ck_some h; obtain ⟨hc180, h⟩ := h
                            refine JR.qt rfl (SubM.nil) (SubL.cons (List.mem_of_getElem? (i := 3) rfl) (SubL.nil)) (Y.indexS rfl rfl (Lent.fact 0 rfl) rfl rfl hc180) HistOk.z ?_
                            refine JR.qt rfl (SubM.nil) (SubL.cons (List.mem_of_getElem? (i := 3) rfl) (SubL.nil)) (Y.loadAggS (cs := [Value.int .i64 ((at' p3 ((at' (at' p1.2 p4) a169).1)).1), Value.int .i64 ((at' p3 ((at' (at' p1.2 p4) a169).1)).2)]) rfl (Lent.fact 0 rfl) FI64I64p rfl rfl rfl rfl hc180) HistOk.z ?_
                            refine JR.tailD 6 rfl rfl ?_
                            replace h := bnd h; obtain ⟨r181, hr182, h⟩ := h
                            refine J.loud (Loud.callVL (vs := [Value.agg #[Value.int .i64 ((at' p3 ((at' (at' p1.2 p4) a169).1)).1), Value.int .i64 ((at' p3 ((at' (at' p1.2 p4) a169).1)).2)]]) (cs := [Value.pointer (some ⟨b8.2, 0, none⟩)]) body69 rfl (t_labels_accepts_4 fuel b8.2 r181 hr182) rfl (LentAll.cons (Lent.res 3 rfl) (LentAll.nil)) (fun _ _ => rfl)) rfl fun x183 => ?_
                            refine J.quiet (Y.assign rfl) rfl ?_
                            refine J.done ?_
                            refine J.thenN ?_
                            refine J.ret ?_
                            exact J.retM (r181) (()) h (.inl rfl) (Res.r1 rfl (RV.tmp rfl)) rfl (SubM.cons 2 rfl (SubM.cons 2 rfl (SubM.cons 2 rfl (SubM.nil)))) (LentAll.refl _ _)
                          · clear h
                            intro a176 b177 h
                            unfold labels_accepts_k28 at h
                            refine J.done ?_
                            refine J.thenN ?_
                            refine J.cond (by exact rfl) (fun hp178 => ?_) (fun hp178 => ?_)
                            · replace h := ifP hp178 h
                              refine J.seq ?_
                              refine J.region ?_
                              refine J.quiet (Y.move rfl) rfl ?_
                              refine J.quiet (Y.assign rfl) rfl ?_
                              refine J.done ?_
                              refine J.thenN ?_
                              refine J.ret ?_
                              refine J.inR ?_
                              refine J.thenR ?_
                              refine J.thenR ?_
                              refine J.inR ?_
                              refine J.thenR ?_
                              exact J.retM (a169) (()) h (.inl rfl) (Res.r1 rfl (RV.tmp rfl)) rfl (SubM.nil) (LentAll.refl _ _)
                            · replace h := ifBN hp178 h
                              refine J.skip ?_
                              refine J.inN ?_
                              refine J.thenN ?_
                              refine J.region ?_
                              refine J.quiet (Y.addW rfl rfl) rfl ?_
                              refine J.quiet (Y.move rfl) rfl ?_
                              refine J.done ?_
                              refine J.thenN ?_
                              exact J.againI (wI .i64 (a169 + (1 : Int))) (()) h (by repeat (first | exact SubF.nil | refine SubF.cons rfl ?_)) (SubM.refl _) (LentAll.refl _ _)
                        · replace h := ifN hp172 h
                          refine J.exit ?_
                          refine J.thenX ?_
                          refine J.thenX ?_
                          refine J.inX ?_
                          refine J.thenN ?_
                          exact J.meetI (()) (()) h (by repeat (first | exact SubF.nil | refine SubF.cons rfl ?_)) (SubM.nil) (LentAll.refl _ _)
                      · clear h
                        intro a164 b165 h
                        unfold labels_accepts_k27 at h
                        refine J.seq ?_
                        refine J.region ?_
                        refine J.quiet (Y.assign rfl) rfl ?_
                        refine J.done ?_
                        refine J.thenN ?_
                        refine J.ret ?_
                        exact J.retM (-1 : Int) (()) h (.inl rfl) (Res.r1 rfl (RV.tmp rfl)) rfl (SubM.refl _) (LentAll.refl _ _)
                    · clear h
                      intro a161 b162 h
                      unfold labels_accepts_k26 at h
                      refine J.quiet (Y.geq rfl rfl) rfl ?_
                      refine J.quiet (Y.assign rfl) rfl ?_
                      refine J.done ?_
                      refine J.thenN ?_
                      refine J.ret ?_
                      exact J.retM (decide ((0 : Int) ≤ a161)) (()) h (.inl rfl) (Res.r1 rfl (RV.tmp rfl)) rfl (SubM.refl _) (LentAll.refl _ _)
                  · clear h
                    intro a157 b158 h
                    unfold labels_accepts_k25 at h
                    refine J.quiet (Y.pickT rfl rfl) rfl ?_
                    refine J.quiet (Y.assign rfl) rfl ?_
                    refine J.done ?_
                    refine J.thenN ?_
                    exact J.meetI (a157) (()) h (by repeat (first | exact SubF.nil | refine SubF.cons rfl ?_)) (SubM.refl _) (LentAll.refl _ _)
                · replace h := ifN hp155 h
                  refine J.guardN rfl rfl rfl ?_
                  refine J.guardN rfl rfl rfl ?_
                  refine J.guardN rfl rfl rfl ?_
                  refine J.quiet (Y.pickF rfl rfl) rfl ?_
                  refine J.quiet (Y.assign rfl) rfl ?_
                  refine J.done ?_
                  refine J.thenN ?_
                  exact J.meetI (false) (()) h (by repeat (first | exact SubF.nil | refine SubF.cons rfl ?_)) (SubM.nil) (LentAll.refl _ _)
              · replace h := ifBN hp154 h
                refine J.guardN rfl rfl rfl ?_
                refine J.guardN rfl rfl rfl ?_
                refine J.quiet (Y.pickF rfl rfl) rfl ?_
                refine J.quiet (Y.move rfl) rfl ?_
                refine J.guardN rfl rfl rfl ?_
                refine J.guardN rfl rfl rfl ?_
                refine J.guardN rfl rfl rfl ?_
                refine J.quiet (Y.pickF rfl rfl) rfl ?_
                refine J.quiet (Y.assign rfl) rfl ?_
                refine J.done ?_
                refine J.thenN ?_
                exact J.meetI (false) (()) h (by repeat (first | exact SubF.nil | refine SubF.cons rfl ?_)) (SubM.nil) (LentAll.refl _ _)
          · clear h
            intro a149 b150 h
            unfold labels_accepts_k23 at h
            refine J.ret ?_
            refine J.inR ?_
            refine J.thenR ?_
            obtain rfl := Option.some.inj h
            exact J.retG1 (()) rfl rfl (RV.tmp rfl) (SubM.refl _) LentAll.nil
      · replace h := ifN hp103 h
        refine J.skip ?_
        refine J.inN ?_
        refine J.thenN ?_
        refine J.seq ?_
        refine J.seq ?_
        refine J.midI (A := Bool) (B := Unit) (fun a218 => labels_accepts_k34 fuel p0 p1 p2 p3 p4 a218 = some r) (fun a218 b219 => [(0, Value.int .i64 (p0)), (2, v3), (6, Value.pointer (some ⟨b1, 0, none⟩)), (8, Value.pointer (some ⟨b2, 0, none⟩)), (9, Value.pointer (some ⟨b4, 0, none⟩)), (11, Value.pointer (some ⟨b8.1, 0, none⟩)), (14, Value.func (.func 66) #[] #[Value.pointer (some ⟨b9, 0, none⟩)]), (122, Value.bool (a218))]) (fun a218 b219 => [Blk b9 [Value.func (.func 63) #[] #[Value.pointer (some ⟨b1, 0, none⟩), Value.pointer (some ⟨b4, 0, none⟩), Value.pointer (some ⟨b2, 0, none⟩)]] 84, Blk b8.1 [Value.int .i64 ((at' p3 p4).1)] 3, Blk b4 [Value.int .i64 (p4)] 3, Blk b2 [v4] 31, Blk b1 [v0, v1] 29]) (fun a218 b219 => [Sl RI64 v0 p1.1, S2 RI64I64p v1 z2 p1.2, Sl RI64 v3 p2, Sl RI64I64p v4 p3]) ?_ ?_
        · refine J.region ?_
          refine J.quiet (Y.loadB 2 rfl rfl rfl rfl rfl) rfl ?_
          refine J.quiet (Y.neq rfl rfl) rfl ?_
          refine J.quiet (Y.move rfl) rfl ?_
          refine J.guardD (by exact rfl) (by exact rfl) (fun hp310 => ?_) (fun hp310 => ?_)
          · replace h := ifP hp310 h
            refine J.guardY rfl (Y.loadB 2 rfl rfl rfl rfl rfl) rfl ?_
            refine J.guardY rfl (Y.neq rfl rfl) rfl ?_
            refine J.quiet (Y.pickT rfl rfl) rfl ?_
            refine J.done ?_
            refine J.thenN ?_
            exact J.meetI (decide (((at' p3 p4).1) ≠ (1 : Int))) (()) h (by repeat (first | exact SubF.nil | refine SubF.cons rfl ?_)) (SubM.cons 0 rfl (SubM.cons 1 rfl (SubM.cons 1 rfl (SubM.cons 1 rfl (SubM.cons 1 rfl (SubM.nil)))))) (LentAll.refl _ _)
          · replace h := ifN hp310 h
            refine J.guardN rfl rfl rfl ?_
            refine J.guardN rfl rfl rfl ?_
            refine J.quiet (Y.pickF rfl rfl) rfl ?_
            refine J.done ?_
            refine J.thenN ?_
            exact J.meetI (false) (()) h (by repeat (first | exact SubF.nil | refine SubF.cons rfl ?_)) (SubM.cons 0 rfl (SubM.cons 1 rfl (SubM.cons 1 rfl (SubM.cons 1 rfl (SubM.cons 1 rfl (SubM.nil)))))) (LentAll.refl _ _)
        · clear h
          intro a218 b219 h
          unfold labels_accepts_k34 at h
          refine J.cond (by exact rfl) (fun hp220 => ?_) (fun hp220 => ?_)
          · replace h := ifP hp220 h
            refine J.seq ?_
            refine J.region ?_
            refine J.quiet (Y.assign rfl) rfl ?_
            refine J.done ?_
            refine J.thenN ?_
            refine J.ret ?_
            refine J.thenR ?_
            obtain rfl := Option.some.inj h
            exact J.retG1 (()) rfl rfl (RV.tmp rfl) (SubM.nil) LentAll.nil
          · replace h := ifBN hp220 h
            refine J.skip ?_
            refine J.thenN ?_
            refine J.seq ?_
            refine J.seq ?_
            refine J.region ?_
            refine J.quiet (Y.move rfl) rfl ?_
            refine J.quiet (Y.eql rfl rfl) rfl ?_
            refine J.done ?_
            refine J.thenN ?_
            refine J.condD (by exact rfl) (fun hp221 => ?_) (fun hp221 => ?_)
            · replace h := ifP hp221 h
              refine J.seq ?_
              refine J.region ?_
              refine J.quiet (Y.move rfl) rfl ?_
              refine J.quiet (Y.makeFunc (cs := [.tmp 11]) (vs := [Value.pointer (some ⟨b8.1, 0, none⟩)]) rfl) rfl ?_
              refine J.inlC (A := Bool) (B := Unit) (vs := [Value.func (.func 70) #[] #[Value.pointer (some ⟨b8.1, 0, none⟩)], Value.pointer (some ⟨b9, 0, none⟩)]) (fun a223 => labels_accepts_k35  a223 = some r) (fun a223 b224 => Value.bool (a223)) (fun a223 b224 => []) (fun a223 b224 => [Sl RI64 v0 p1.1, S2 RI64I64p v1 z2 p1.2, Sl RI64 v3 p2, Sl RI64I64p v4 p3]) (Enter.clo (us := [Value.func (.func 70) #[] #[Value.pointer (some ⟨b8.1, 0, none⟩)]]) (cs := [Value.pointer (some ⟨b9, 0, none⟩)]) (show HasBody Try.prog 66 from Try.call66) rfl rfl rfl) Try.func66 rfl Try.ntmps66 rfl rfl ?_ ?_
              · refine J.seq ?_
                refine J.region ?_
                refine J.loud (Loud.box (cs := [Value.func (.func 70) #[] #[Value.pointer (some ⟨b8.1, 0, none⟩)]]) rfl rfl) rfl fun b225 => ?_
                refine J.quiet (Y.assign rfl) rfl ?_
                refine J.done ?_
                refine J.thenN ?_
                refine J.seq ?_
                refine J.region ?_
                refine J.quiet (Y.loadB 1 rfl rfl rfl rfl rfl) rfl ?_
                refine J.quiet (Y.makeFunc (cs := [.tmp 2]) (vs := [Value.pointer (some ⟨b225, 0, none⟩)]) rfl) rfl ?_
                refine J.inlC (A := Bool) (B := Unit) (vs := [Value.func (.func 67) #[] #[Value.pointer (some ⟨b225, 0, none⟩)], Value.pointer (some ⟨b1, 0, none⟩), Value.pointer (some ⟨b4, 0, none⟩), Value.pointer (some ⟨b2, 0, none⟩)]) (fun a227 => labels_accepts_k36  a227 = some r) (fun a227 b228 => Value.bool (a227)) (fun a227 b228 => []) (fun a227 b228 => [Sl RI64 v0 p1.1, S2 RI64I64p v1 z2 p1.2, Sl RI64 v3 p2, Sl RI64I64p v4 p3]) (Enter.clo (us := [Value.func (.func 67) #[] #[Value.pointer (some ⟨b225, 0, none⟩)]]) (cs := [Value.pointer (some ⟨b1, 0, none⟩), Value.pointer (some ⟨b4, 0, none⟩), Value.pointer (some ⟨b2, 0, none⟩)]) (show HasBody Try.prog 63 from Try.call63) rfl rfl rfl) Try.func63 rfl Try.ntmps63 rfl rfl ?_ ?_
                · refine J.seq ?_
                  refine J.region ?_
                  refine J.loud (Loud.box (cs := [Value.func (.func 67) #[] #[Value.pointer (some ⟨b225, 0, none⟩)]]) rfl rfl) rfl fun b229 => ?_
                  refine J.quiet (Y.assign rfl) rfl ?_
                  refine J.done ?_
                  refine J.thenN ?_
                  refine J.seq ?_
                  refine J.region ?_
                  refine J.quiet (Y.loadBAll 6 rfl rfl rfl rfl) rfl ?_
                  refine J.quiet (Y.loadB 4 rfl rfl rfl rfl rfl) rfl ?_
                  refine J.quiet (Y.makeFunc (cs := [.tmp 4, .tmp 3]) (vs := [Value.pointer (some ⟨b229, 0, none⟩), Value.pointer (some ⟨b2, 0, none⟩)]) rfl) rfl ?_
                  refine J.inlC (A := Int) (B := Unit) (vs := [Value.agg #[v0, v1], Value.int .i64 (p4), Value.func (.func 65) #[] #[Value.pointer (some ⟨b229, 0, none⟩), Value.pointer (some ⟨b2, 0, none⟩)]]) (fun a231 => labels_accepts_k37  a231 = some r) (fun a231 b232 => Value.int .i64 (a231)) (fun a231 b232 => []) (fun a231 b232 => [Sl RI64 v0 p1.1, S2 RI64I64p v1 z2 p1.2, Sl RI64 v3 p2, Sl RI64I64p v4 p3]) (Enter.fn (show HasBody Try.prog 64 from Try.call64) rfl) Try.func64 rfl Try.ntmps64 rfl rfl ?_ ?_
                  · refine J.seq ?_
                    refine J.region ?_
                    refine J.loud (Loud.box (cs := [v0, v1]) rfl rfl) rfl fun b233 => ?_
                    refine J.quiet (Y.assign rfl) rfl ?_
                    refine J.done ?_
                    refine J.thenN ?_
                    refine J.seq ?_
                    refine J.midI (A := Unit) (B := Unit) (fun a234 => labels_accepts_k38  a234 = some r) (fun a234 b235 => []) (fun a234 b235 => []) (fun a234 b235 => [Sl RI64 v0 p1.1, S2 RI64I64p v1 z2 p1.2, Sl RI64 v3 p2, Sl RI64I64p v4 p3]) ?_ ?_
                    · refine J.seq ?_
                      refine J.region ?_
                      refine J.quiet (Y.fieldB rfl rfl rfl rfl rfl) rfl ?_
                      refine J.quiet (Y.loadB 0 rfl rfl rfl rfl rfl) rfl ?_
                      refine J.quiet (Y.move rfl) rfl ?_
                      replace h := ck_some h; obtain ⟨hc236, h⟩ := h
                      refine J.quiet (Y.indexN rfl rfl (Lent.fact 1 rfl) rfl rfl hc236) rfl ?_
                      refine J.quiet (Y.loadRow rfl (Lent.fact 1 rfl) rfl rfl hc236) rfl ?_
                      refine J.quiet (Y.lenS rfl (Lent.el (Lent.fact 1 rfl) hc236.1 hc236.2) rfl) rfl ?_
                      refine J.quiet (Y.move rfl) rfl ?_
                      refine J.done ?_
                      refine J.thenN ?_
                      refine J.block ?_
                      refine J.loopI (A := Int) (B := Unit) (labels_accepts_s6 fuel p1 p3 p4) (fun a239 b240 => [(2, Value.func (.func 65) #[] #[Value.pointer (some ⟨b229, 0, none⟩), Value.pointer (some ⟨b2, 0, none⟩)]), (13, (at' z2 p4).1), (14, Value.int .i64 (List.length (at' p1.2 p4) : Int)), (15, Value.int .i64 (a239))]) (fun a239 b240 => [Blk b229 [Value.func (.func 67) #[] #[Value.pointer (some ⟨b225, 0, none⟩)]] 81, Blk b225 [Value.func (.func 70) #[] #[Value.pointer (some ⟨b8.1, 0, none⟩)]] 81, Blk b8.1 [Value.int .i64 ((at' p3 p4).1)] 3, Blk b2 [v4] 31]) (fun a239 b240 => [Sl RI64 v0 p1.1, S2 RI64I64p v1 z2 p1.2, Sl RI64 v3 p2, Sl RI64I64p v4 p3]) (0 : Int) (()) h (by repeat (first | exact SubF.nil | refine SubF.cons rfl ?_)) (SubM.cons 1 rfl (SubM.cons 1 rfl (SubM.cons 2 rfl (SubM.cons 3 rfl (SubM.nil))))) (LentAll.refl _ _) ?_
                      clear h
                      intro k241 a239 b240 h
                      unfold labels_accepts_s6 at h
                      refine J.seq ?_
                      refine J.region ?_
                      refine J.quiet (Y.lss rfl rfl) rfl ?_
                      refine J.done ?_
                      refine J.thenN ?_
                      refine J.seq ?_
                      refine J.condD (by exact rfl) (fun hp242 => ?_) (fun hp242 => ?_)
                      · replace h := ifP hp242 h
                        refine J.skip ?_
                        refine J.thenN ?_
                        refine J.seq ?_
                        refine J.block ?_
                        refine J.seq ?_
                        refine J.region ?_
                        refine J.quiet (Y.move rfl) rfl ?_
                        replace h := ck_some h; obtain ⟨hc243, h⟩ := h
                        refine J.quiet (Y.indexS rfl rfl (Lent.el (Lent.fact 1 rfl) hc236.1 hc236.2) rfl rfl hc243) rfl ?_
                        refine J.quiet (Y.loadAggS (cs := [Value.int .i64 ((at' (at' p1.2 p4) a239).1), Value.int .i64 ((at' (at' p1.2 p4) a239).2)]) rfl (Lent.el (Lent.fact 1 rfl) hc236.1 hc236.2) FI64I64p rfl rfl rfl rfl hc243) rfl ?_
                        refine J.loud (Loud.alloc (cs := [Value.int .i64 (0 : Int), Value.int .i64 (0 : Int)]) rfl rfl) rfl fun b244 => ?_
                        refine J.quiet (Y.assign rfl) rfl ?_
                        refine J.storeAll 0 (vs := [Value.int .i64 ((at' (at' p1.2 p4) a239).1), Value.int .i64 ((at' (at' p1.2 p4) a239).2)]) rfl rfl rfl rfl rfl rfl ?_
                        refine J.done ?_
                        refine J.thenN ?_
                        refine J.seq ?_
                        refine J.region ?_
                        refine J.quiet (Y.move rfl) rfl ?_
                        refine J.quiet (Y.loadBAll 0 rfl rfl rfl rfl) rfl ?_
                        refine J.inlC (A := Bool) (B := Unit) (vs := [Value.agg #[Value.int .i64 ((at' (at' p1.2 p4) a239).1), Value.int .i64 ((at' (at' p1.2 p4) a239).2)], Value.pointer (some ⟨b229, 0, none⟩), Value.pointer (some ⟨b2, 0, none⟩)]) (fun a246 => labels_accepts_k39 a239 (iter (labels_accepts_s6 fuel p1 p3 p4) k241) a246 = some r) (fun a246 b247 => Value.bool (a246)) (fun a246 b247 => [Blk b229 [Value.func (.func 67) #[] #[Value.pointer (some ⟨b225, 0, none⟩)]] 81, Blk b225 [Value.func (.func 70) #[] #[Value.pointer (some ⟨b8.1, 0, none⟩)]] 81, Blk b8.1 [Value.int .i64 ((at' p3 p4).1)] 3, Blk b2 [v4] 31]) (fun a246 b247 => [Sl RI64 v0 p1.1, S2 RI64I64p v1 z2 p1.2, Sl RI64 v3 p2, Sl RI64I64p v4 p3]) (Enter.clo (us := [Value.agg #[Value.int .i64 ((at' (at' p1.2 p4) a239).1), Value.int .i64 ((at' (at' p1.2 p4) a239).2)]]) (cs := [Value.pointer (some ⟨b229, 0, none⟩), Value.pointer (some ⟨b2, 0, none⟩)]) (show HasBody Try.prog 65 from Try.call65) rfl rfl rfl) Try.func65 rfl Try.ntmps65 rfl rfl ?_ ?_
                        · refine J.seq ?_
                          refine J.region ?_
                          refine J.loud (Loud.box (cs := [Value.int .i64 ((at' (at' p1.2 p4) a239).1), Value.int .i64 ((at' (at' p1.2 p4) a239).2)]) rfl rfl) rfl fun b249 => ?_
                          refine J.quiet (Y.assign rfl) rfl ?_
                          refine J.done ?_
                          refine J.thenN ?_
                          refine J.seq ?_
                          refine JR.start [0, 0, 0, 4, 14, 30, 63, 127] 6 mixedOrders (by decide +kernel) ?_
                          refine JR.open (by exact rfl) ?_
                          refine JR.qt rfl (SubM.cons 2 rfl (SubM.nil)) (SubL.nil) (Y.loadB 0 rfl rfl rfl rfl rfl) HistOk.z ?_
                          refine JR.qt rfl (SubM.cons 5 rfl (SubM.nil)) (SubL.nil) (Y.loadB 0 rfl rfl rfl rfl rfl) HistOk.z ?_
                          refine JR.qt rfl (SubM.nil) (SubL.nil) (Y.fieldB rfl rfl rfl rfl rfl) HistOk.z ?_
                          refine JR.qt rfl (SubM.cons 0 rfl (SubM.nil)) (SubL.nil) (Y.loadB 0 rfl rfl rfl rfl rfl) HistOk.z ?_
                          replace h := ck_some h; obtain ⟨hc250, h⟩ := h
                          refine JR.qt rfl (SubM.nil) (SubL.cons (List.mem_of_getElem? (i := 3) rfl) (SubL.nil)) (Y.indexS rfl rfl (Lent.fact 0 rfl) rfl rfl hc250) HistOk.z ?_
                          refine JR.qt rfl (SubM.nil) (SubL.cons (List.mem_of_getElem? (i := 3) rfl) (SubL.nil)) (Y.loadAggS (cs := [Value.int .i64 ((at' p3 ((at' (at' p1.2 p4) a239).1)).1), Value.int .i64 ((at' p3 ((at' (at' p1.2 p4) a239).1)).2)]) rfl (Lent.fact 0 rfl) FI64I64p rfl rfl rfl rfl hc250) HistOk.z ?_
                          refine JR.tailD 6 rfl rfl ?_
                          refine J.inlC (A := Bool) (B := Unit) (vs := [Value.agg #[Value.int .i64 ((at' p3 ((at' (at' p1.2 p4) a239).1)).1), Value.int .i64 ((at' p3 ((at' (at' p1.2 p4) a239).1)).2)], Value.pointer (some ⟨b225, 0, none⟩)]) (fun a252 => labels_accepts_k40 a239 (iter (labels_accepts_s6 fuel p1 p3 p4) k241) a252 = some r) (fun a252 b253 => Value.bool (a252)) (fun a252 b253 => [Blk b229 [Value.func (.func 67) #[] #[Value.pointer (some ⟨b225, 0, none⟩)]] 81, Blk b225 [Value.func (.func 70) #[] #[Value.pointer (some ⟨b8.1, 0, none⟩)]] 81, Blk b8.1 [Value.int .i64 ((at' p3 p4).1)] 3, Blk b2 [v4] 31]) (fun a252 b253 => [Sl RI64 v0 p1.1, S2 RI64I64p v1 z2 p1.2, Sl RI64 v3 p2, Sl RI64I64p v4 p3]) (Enter.clo (us := [Value.agg #[Value.int .i64 ((at' p3 ((at' (at' p1.2 p4) a239).1)).1), Value.int .i64 ((at' p3 ((at' (at' p1.2 p4) a239).1)).2)]]) (cs := [Value.pointer (some ⟨b225, 0, none⟩)]) (show HasBody Try.prog 67 from Try.call67) rfl rfl rfl) Try.func67 rfl Try.ntmps67 rfl rfl ?_ ?_
                          · refine J.seq ?_
                            refine J.region ?_
                            refine J.loud (Loud.box (cs := [Value.int .i64 ((at' p3 ((at' (at' p1.2 p4) a239).1)).1), Value.int .i64 ((at' p3 ((at' (at' p1.2 p4) a239).1)).2)]) rfl rfl) rfl fun b254 => ?_
                            refine J.quiet (Y.assign rfl) rfl ?_
                            refine J.done ?_
                            refine J.thenN ?_
                            refine J.seq ?_
                            refine J.region ?_
                            refine J.quiet (Y.loadB 4 rfl rfl rfl rfl rfl) rfl ?_
                            refine J.quiet (Y.loadBAll 0 rfl rfl rfl rfl) rfl ?_
                            replace h := bnd h; obtain ⟨r255, hr256, h⟩ := h
                            refine J.loud (Loud.callVL (vs := [Value.agg #[Value.int .i64 ((at' p3 ((at' (at' p1.2 p4) a239).1)).1), Value.int .i64 ((at' p3 ((at' (at' p1.2 p4) a239).1)).2)]]) (cs := [Value.pointer (some ⟨b8.1, 0, none⟩)]) body70 rfl (t_labels_accepts_5 fuel b8.1 r255 hr256) rfl (LentAll.cons (Lent.res 5 rfl) (LentAll.nil)) (fun _ _ => rfl)) rfl fun x257 => ?_
                            refine J.quiet (Y.not rfl) rfl ?_
                            refine J.quiet (Y.assign rfl) rfl ?_
                            refine J.done ?_
                            refine J.thenN ?_
                            refine J.ret ?_
                            exact J.retM ((!r255)) (()) h (.inl rfl) (Res.r1 rfl (RV.tmp rfl)) rfl (SubM.cons 3 rfl (SubM.cons 3 rfl (SubM.cons 3 rfl (SubM.cons 3 rfl (SubM.nil))))) (LentAll.refl _ _)
                          · clear h
                            intro a252 b253 h
                            unfold labels_accepts_k40 at h
                            refine J.quiet (Y.assign rfl) rfl ?_
                            refine J.done ?_
                            refine J.thenN ?_
                            refine J.ret ?_
                            exact J.retM (a252) (()) h (.inl rfl) (Res.r1 rfl (RV.tmp rfl)) rfl (SubM.refl _) (LentAll.refl _ _)
                        · clear h
                          intro a246 b247 h
                          unfold labels_accepts_k39 at h
                          refine J.done ?_
                          refine J.thenN ?_
                          refine J.cond (by exact rfl) (fun hp248 => ?_) (fun hp248 => ?_)
                          · replace h := ifP hp248 h
                            refine J.seq ?_
                            refine J.region ?_
                            refine J.quiet (Y.move rfl) rfl ?_
                            refine J.quiet (Y.assign rfl) rfl ?_
                            refine J.done ?_
                            refine J.thenN ?_
                            refine J.ret ?_
                            refine J.inR ?_
                            refine J.thenR ?_
                            refine J.thenR ?_
                            refine J.inR ?_
                            refine J.thenR ?_
                            exact J.retM (a239) (()) h (.inl rfl) (Res.r1 rfl (RV.tmp rfl)) rfl (SubM.nil) (LentAll.refl _ _)
                          · replace h := ifBN hp248 h
                            refine J.skip ?_
                            refine J.inN ?_
                            refine J.thenN ?_
                            refine J.region ?_
                            refine J.quiet (Y.addW rfl rfl) rfl ?_
                            refine J.quiet (Y.move rfl) rfl ?_
                            refine J.done ?_
                            refine J.thenN ?_
                            exact J.againI (wI .i64 (a239 + (1 : Int))) (()) h (by repeat (first | exact SubF.nil | refine SubF.cons rfl ?_)) (SubM.refl _) (LentAll.refl _ _)
                      · replace h := ifN hp242 h
                        refine J.exit ?_
                        refine J.thenX ?_
                        refine J.thenX ?_
                        refine J.inX ?_
                        refine J.thenN ?_
                        exact J.meetI (()) (()) h (by repeat (first | exact SubF.nil | refine SubF.cons rfl ?_)) (SubM.nil) (LentAll.refl _ _)
                    · clear h
                      intro a234 b235 h
                      unfold labels_accepts_k38 at h
                      refine J.seq ?_
                      refine J.region ?_
                      refine J.quiet (Y.assign rfl) rfl ?_
                      refine J.done ?_
                      refine J.thenN ?_
                      refine J.ret ?_
                      exact J.retM (-1 : Int) (()) h (.inl rfl) (Res.r1 rfl (RV.tmp rfl)) rfl (SubM.refl _) (LentAll.refl _ _)
                  · clear h
                    intro a231 b232 h
                    unfold labels_accepts_k37 at h
                    refine J.quiet (Y.geq rfl rfl) rfl ?_
                    refine J.quiet (Y.assign rfl) rfl ?_
                    refine J.done ?_
                    refine J.thenN ?_
                    refine J.ret ?_
                    exact J.retM (decide ((0 : Int) ≤ a231)) (()) h (.inl rfl) (Res.r1 rfl (RV.tmp rfl)) rfl (SubM.refl _) (LentAll.refl _ _)
                · clear h
                  intro a227 b228 h
                  unfold labels_accepts_k36 at h
                  refine J.quiet (Y.not rfl) rfl ?_
                  refine J.quiet (Y.assign rfl) rfl ?_
                  refine J.done ?_
                  refine J.thenN ?_
                  refine J.ret ?_
                  exact J.retM ((!a227)) (()) h (.inl rfl) (Res.r1 rfl (RV.tmp rfl)) rfl (SubM.refl _) (LentAll.refl _ _)
              · clear h
                intro a223 b224 h
                unfold labels_accepts_k35 at h
                refine J.quiet (Y.assign rfl) rfl ?_
                refine J.done ?_
                refine J.thenN ?_
                refine J.ret ?_
                refine J.thenR ?_
                obtain rfl := Option.some.inj h
                exact J.retG1 (()) rfl rfl (RV.tmp rfl) (SubM.refl _) LentAll.nil
            · replace h := ifN hp221 h
              refine J.skip ?_
              refine J.thenN ?_
              refine J.seq ?_
              refine J.seq ?_
              refine J.region ?_
              refine J.quiet (Y.move rfl) rfl ?_
              refine J.quiet (Y.makeFunc (cs := [.tmp 11]) (vs := [Value.pointer (some ⟨b8.1, 0, none⟩)]) rfl) rfl ?_
              refine J.inlC (A := Bool) (B := Unit) (vs := [Value.func (.func 71) #[] #[Value.pointer (some ⟨b8.1, 0, none⟩)], Value.pointer (some ⟨b9, 0, none⟩)]) (fun a259 => labels_accepts_k41 fuel p1 p2 p3 p4 a259 = some r) (fun a259 b260 => Value.bool (a259)) (fun a259 b260 => [Blk b8.1 [Value.int .i64 ((at' p3 p4).1)] 3, Blk b4 [Value.int .i64 (p4)] 3, Blk b2 [v4] 31, Blk b1 [v0, v1] 29]) (fun a259 b260 => [Sl RI64 v0 p1.1, S2 RI64I64p v1 z2 p1.2, Sl RI64 v3 p2, Sl RI64I64p v4 p3]) (Enter.clo (us := [Value.func (.func 71) #[] #[Value.pointer (some ⟨b8.1, 0, none⟩)]]) (cs := [Value.pointer (some ⟨b9, 0, none⟩)]) (show HasBody Try.prog 66 from Try.call66) rfl rfl rfl) Try.func66 rfl Try.ntmps66 rfl rfl ?_ ?_
              · refine J.seq ?_
                refine J.region ?_
                refine J.loud (Loud.box (cs := [Value.func (.func 71) #[] #[Value.pointer (some ⟨b8.1, 0, none⟩)]]) rfl rfl) rfl fun b277 => ?_
                refine J.quiet (Y.assign rfl) rfl ?_
                refine J.done ?_
                refine J.thenN ?_
                refine J.seq ?_
                refine J.region ?_
                refine J.quiet (Y.loadB 1 rfl rfl rfl rfl rfl) rfl ?_
                refine J.quiet (Y.makeFunc (cs := [.tmp 2]) (vs := [Value.pointer (some ⟨b277, 0, none⟩)]) rfl) rfl ?_
                refine J.inlC (A := Bool) (B := Unit) (vs := [Value.func (.func 67) #[] #[Value.pointer (some ⟨b277, 0, none⟩)], Value.pointer (some ⟨b1, 0, none⟩), Value.pointer (some ⟨b4, 0, none⟩), Value.pointer (some ⟨b2, 0, none⟩)]) (fun a279 => labels_accepts_k43 fuel p1 p2 p3 p4 a279 = some r) (fun a279 b280 => Value.bool (a279)) (fun a279 b280 => [Blk b8.1 [Value.int .i64 ((at' p3 p4).1)] 3, Blk b4 [Value.int .i64 (p4)] 3, Blk b2 [v4] 31, Blk b1 [v0, v1] 29]) (fun a279 b280 => [Sl RI64 v0 p1.1, S2 RI64I64p v1 z2 p1.2, Sl RI64 v3 p2, Sl RI64I64p v4 p3]) (Enter.clo (us := [Value.func (.func 67) #[] #[Value.pointer (some ⟨b277, 0, none⟩)]]) (cs := [Value.pointer (some ⟨b1, 0, none⟩), Value.pointer (some ⟨b4, 0, none⟩), Value.pointer (some ⟨b2, 0, none⟩)]) (show HasBody Try.prog 63 from Try.call63) rfl rfl rfl) Try.func63 rfl Try.ntmps63 rfl rfl ?_ ?_
                · refine J.seq ?_
                  refine J.region ?_
                  refine J.loud (Loud.box (cs := [Value.func (.func 67) #[] #[Value.pointer (some ⟨b277, 0, none⟩)]]) rfl rfl) rfl fun b281 => ?_
                  refine J.quiet (Y.assign rfl) rfl ?_
                  refine J.done ?_
                  refine J.thenN ?_
                  refine J.seq ?_
                  refine J.region ?_
                  refine J.quiet (Y.loadBAll 6 rfl rfl rfl rfl) rfl ?_
                  refine J.quiet (Y.loadB 4 rfl rfl rfl rfl rfl) rfl ?_
                  refine J.quiet (Y.makeFunc (cs := [.tmp 4, .tmp 3]) (vs := [Value.pointer (some ⟨b281, 0, none⟩), Value.pointer (some ⟨b2, 0, none⟩)]) rfl) rfl ?_
                  refine J.inlC (A := Int) (B := Unit) (vs := [Value.agg #[v0, v1], Value.int .i64 (p4), Value.func (.func 65) #[] #[Value.pointer (some ⟨b281, 0, none⟩), Value.pointer (some ⟨b2, 0, none⟩)]]) (fun a283 => labels_accepts_k44 fuel p1 p2 p3 p4 a283 = some r) (fun a283 b284 => Value.int .i64 (a283)) (fun a283 b284 => [Blk b8.1 [Value.int .i64 ((at' p3 p4).1)] 3, Blk b4 [Value.int .i64 (p4)] 3, Blk b2 [v4] 31, Blk b1 [v0, v1] 29]) (fun a283 b284 => [Sl RI64 v0 p1.1, S2 RI64I64p v1 z2 p1.2, Sl RI64 v3 p2, Sl RI64I64p v4 p3]) (Enter.fn (show HasBody Try.prog 64 from Try.call64) rfl) Try.func64 rfl Try.ntmps64 rfl rfl ?_ ?_
                  · refine J.seq ?_
                    refine J.region ?_
                    refine J.loud (Loud.box (cs := [v0, v1]) rfl rfl) rfl fun b285 => ?_
                    refine J.quiet (Y.assign rfl) rfl ?_
                    refine J.done ?_
                    refine J.thenN ?_
                    refine J.seq ?_
                    refine J.midI (A := Unit) (B := Unit) (fun a286 => labels_accepts_k45 fuel p1 p2 p3 p4 a286 = some r) (fun a286 b287 => []) (fun a286 b287 => [Blk b8.1 [Value.int .i64 ((at' p3 p4).1)] 3, Blk b4 [Value.int .i64 (p4)] 3, Blk b2 [v4] 31, Blk b1 [v0, v1] 29]) (fun a286 b287 => [Sl RI64 v0 p1.1, S2 RI64I64p v1 z2 p1.2, Sl RI64 v3 p2, Sl RI64I64p v4 p3]) ?_ ?_
                    · refine J.seq ?_
                      refine J.region ?_
                      refine J.quiet (Y.fieldB rfl rfl rfl rfl rfl) rfl ?_
                      refine J.quiet (Y.loadB 0 rfl rfl rfl rfl rfl) rfl ?_
                      refine J.quiet (Y.move rfl) rfl ?_
                      replace h := ck_some h; obtain ⟨hc288, h⟩ := h
                      refine J.quiet (Y.indexN rfl rfl (Lent.fact 1 rfl) rfl rfl hc288) rfl ?_
                      refine J.quiet (Y.loadRow rfl (Lent.fact 1 rfl) rfl rfl hc288) rfl ?_
                      refine J.quiet (Y.lenS rfl (Lent.el (Lent.fact 1 rfl) hc288.1 hc288.2) rfl) rfl ?_
                      refine J.quiet (Y.move rfl) rfl ?_
                      refine J.done ?_
                      refine J.thenN ?_
                      refine J.block ?_
                      refine J.loopI (A := Int) (B := Unit) (labels_accepts_s7 fuel p1 p2 p3 p4) (fun a291 b292 => [(2, Value.func (.func 65) #[] #[Value.pointer (some ⟨b281, 0, none⟩), Value.pointer (some ⟨b2, 0, none⟩)]), (13, (at' z2 p4).1), (14, Value.int .i64 (List.length (at' p1.2 p4) : Int)), (15, Value.int .i64 (a291))]) (fun a291 b292 => [Blk b281 [Value.func (.func 67) #[] #[Value.pointer (some ⟨b277, 0, none⟩)]] 81, Blk b277 [Value.func (.func 71) #[] #[Value.pointer (some ⟨b8.1, 0, none⟩)]] 81, Blk b8.1 [Value.int .i64 ((at' p3 p4).1)] 3, Blk b4 [Value.int .i64 (p4)] 3, Blk b2 [v4] 31, Blk b1 [v0, v1] 29]) (fun a291 b292 => [Sl RI64 v0 p1.1, S2 RI64I64p v1 z2 p1.2, Sl RI64 v3 p2, Sl RI64I64p v4 p3]) (0 : Int) (()) h (by repeat (first | exact SubF.nil | refine SubF.cons rfl ?_)) (SubM.cons 1 rfl (SubM.cons 1 rfl (SubM.cons 2 rfl (SubM.cons 2 rfl (SubM.cons 2 rfl (SubM.cons 2 rfl (SubM.nil))))))) (LentAll.refl _ _) ?_
                      clear h
                      intro k293 a291 b292 h
                      unfold labels_accepts_s7 at h
                      refine J.seq ?_
                      refine J.region ?_
                      refine J.quiet (Y.lss rfl rfl) rfl ?_
                      refine J.done ?_
                      refine J.thenN ?_
                      refine J.seq ?_
                      refine J.condD (by exact rfl) (fun hp294 => ?_) (fun hp294 => ?_)
                      · replace h := ifP hp294 h
                        refine J.skip ?_
                        refine J.thenN ?_
                        refine J.seq ?_
                        refine J.block ?_
                        refine J.seq ?_
                        refine J.region ?_
                        refine J.quiet (Y.move rfl) rfl ?_
                        replace h := ck_some h; obtain ⟨hc295, h⟩ := h
                        refine J.quiet (Y.indexS rfl rfl (Lent.el (Lent.fact 1 rfl) hc288.1 hc288.2) rfl rfl hc295) rfl ?_
                        refine J.quiet (Y.loadAggS (cs := [Value.int .i64 ((at' (at' p1.2 p4) a291).1), Value.int .i64 ((at' (at' p1.2 p4) a291).2)]) rfl (Lent.el (Lent.fact 1 rfl) hc288.1 hc288.2) FI64I64p rfl rfl rfl rfl hc295) rfl ?_
                        refine J.loud (Loud.alloc (cs := [Value.int .i64 (0 : Int), Value.int .i64 (0 : Int)]) rfl rfl) rfl fun b296 => ?_
                        refine J.quiet (Y.assign rfl) rfl ?_
                        refine J.storeAll 0 (vs := [Value.int .i64 ((at' (at' p1.2 p4) a291).1), Value.int .i64 ((at' (at' p1.2 p4) a291).2)]) rfl rfl rfl rfl rfl rfl ?_
                        refine J.done ?_
                        refine J.thenN ?_
                        refine J.seq ?_
                        refine J.region ?_
                        refine J.quiet (Y.move rfl) rfl ?_
                        refine J.quiet (Y.loadBAll 0 rfl rfl rfl rfl) rfl ?_
                        refine J.inlC (A := Bool) (B := Unit) (vs := [Value.agg #[Value.int .i64 ((at' (at' p1.2 p4) a291).1), Value.int .i64 ((at' (at' p1.2 p4) a291).2)], Value.pointer (some ⟨b281, 0, none⟩), Value.pointer (some ⟨b2, 0, none⟩)]) (fun a298 => labels_accepts_k46 fuel p1 p2 p3 p4 a291 (iter (labels_accepts_s7 fuel p1 p2 p3 p4) k293) a298 = some r) (fun a298 b299 => Value.bool (a298)) (fun a298 b299 => [Blk b281 [Value.func (.func 67) #[] #[Value.pointer (some ⟨b277, 0, none⟩)]] 81, Blk b277 [Value.func (.func 71) #[] #[Value.pointer (some ⟨b8.1, 0, none⟩)]] 81, Blk b8.1 [Value.int .i64 ((at' p3 p4).1)] 3, Blk b4 [Value.int .i64 (p4)] 3, Blk b2 [v4] 31, Blk b1 [v0, v1] 29]) (fun a298 b299 => [Sl RI64 v0 p1.1, S2 RI64I64p v1 z2 p1.2, Sl RI64 v3 p2, Sl RI64I64p v4 p3]) (Enter.clo (us := [Value.agg #[Value.int .i64 ((at' (at' p1.2 p4) a291).1), Value.int .i64 ((at' (at' p1.2 p4) a291).2)]]) (cs := [Value.pointer (some ⟨b281, 0, none⟩), Value.pointer (some ⟨b2, 0, none⟩)]) (show HasBody Try.prog 65 from Try.call65) rfl rfl rfl) Try.func65 rfl Try.ntmps65 rfl rfl ?_ ?_
                        · refine J.seq ?_
                          refine J.region ?_
                          refine J.loud (Loud.box (cs := [Value.int .i64 ((at' (at' p1.2 p4) a291).1), Value.int .i64 ((at' (at' p1.2 p4) a291).2)]) rfl rfl) rfl fun b301 => ?_
                          refine J.quiet (Y.assign rfl) rfl ?_
                          refine J.done ?_
                          refine J.thenN ?_
                          refine J.seq ?_
                          refine JR.start [0, 0, 0, 4, 14, 30, 63, 127] 6 mixedOrders (by decide +kernel) ?_
                          refine JR.open (by exact rfl) ?_
                          refine JR.qt rfl (SubM.cons 2 rfl (SubM.nil)) (SubL.nil) (Y.loadB 0 rfl rfl rfl rfl rfl) HistOk.z ?_
                          refine JR.qt rfl (SubM.cons 6 rfl (SubM.nil)) (SubL.nil) (Y.loadB 0 rfl rfl rfl rfl rfl) HistOk.z ?_
                          refine JR.qt rfl (SubM.nil) (SubL.nil) (Y.fieldB rfl rfl rfl rfl rfl) HistOk.z ?_
                          refine JR.qt rfl (SubM.cons 0 rfl (SubM.nil)) (SubL.nil) (Y.loadB 0 rfl rfl rfl rfl rfl) HistOk.z ?_
                          replace h := ck_some h; obtain ⟨hc302, h⟩ := h
                          refine JR.qt rfl (SubM.nil) (SubL.cons (List.mem_of_getElem? (i := 3) rfl) (SubL.nil)) (Y.indexS rfl rfl (Lent.fact 0 rfl) rfl rfl hc302) HistOk.z ?_
                          refine JR.qt rfl (SubM.nil) (SubL.cons (List.mem_of_getElem? (i := 3) rfl) (SubL.nil)) (Y.loadAggS (cs := [Value.int .i64 ((at' p3 ((at' (at' p1.2 p4) a291).1)).1), Value.int .i64 ((at' p3 ((at' (at' p1.2 p4) a291).1)).2)]) rfl (Lent.fact 0 rfl) FI64I64p rfl rfl rfl rfl hc302) HistOk.z ?_
                          refine JR.tailD 6 rfl rfl ?_
                          refine J.inlC (A := Bool) (B := Unit) (vs := [Value.agg #[Value.int .i64 ((at' p3 ((at' (at' p1.2 p4) a291).1)).1), Value.int .i64 ((at' p3 ((at' (at' p1.2 p4) a291).1)).2)], Value.pointer (some ⟨b277, 0, none⟩)]) (fun a304 => labels_accepts_k47 fuel p1 p2 p3 p4 a291 (iter (labels_accepts_s7 fuel p1 p2 p3 p4) k293) a304 = some r) (fun a304 b305 => Value.bool (a304)) (fun a304 b305 => [Blk b281 [Value.func (.func 67) #[] #[Value.pointer (some ⟨b277, 0, none⟩)]] 81, Blk b277 [Value.func (.func 71) #[] #[Value.pointer (some ⟨b8.1, 0, none⟩)]] 81, Blk b8.1 [Value.int .i64 ((at' p3 p4).1)] 3, Blk b4 [Value.int .i64 (p4)] 3, Blk b2 [v4] 31, Blk b1 [v0, v1] 29]) (fun a304 b305 => [Sl RI64 v0 p1.1, S2 RI64I64p v1 z2 p1.2, Sl RI64 v3 p2, Sl RI64I64p v4 p3]) (Enter.clo (us := [Value.agg #[Value.int .i64 ((at' p3 ((at' (at' p1.2 p4) a291).1)).1), Value.int .i64 ((at' p3 ((at' (at' p1.2 p4) a291).1)).2)]]) (cs := [Value.pointer (some ⟨b277, 0, none⟩)]) (show HasBody Try.prog 67 from Try.call67) rfl rfl rfl) Try.func67 rfl Try.ntmps67 rfl rfl ?_ ?_
                          · refine J.seq ?_
                            refine J.region ?_
                            refine J.loud (Loud.box (cs := [Value.int .i64 ((at' p3 ((at' (at' p1.2 p4) a291).1)).1), Value.int .i64 ((at' p3 ((at' (at' p1.2 p4) a291).1)).2)]) rfl rfl) rfl fun b306 => ?_
                            refine J.quiet (Y.assign rfl) rfl ?_
                            refine J.done ?_
                            refine J.thenN ?_
                            refine J.seq ?_
                            refine J.region ?_
                            refine J.quiet (Y.loadB 4 rfl rfl rfl rfl rfl) rfl ?_
                            refine J.quiet (Y.loadBAll 0 rfl rfl rfl rfl) rfl ?_
                            replace h := bnd h; obtain ⟨r307, hr308, h⟩ := h
                            refine J.loud (Loud.callVL (vs := [Value.agg #[Value.int .i64 ((at' p3 ((at' (at' p1.2 p4) a291).1)).1), Value.int .i64 ((at' p3 ((at' (at' p1.2 p4) a291).1)).2)]]) (cs := [Value.pointer (some ⟨b8.1, 0, none⟩)]) body71 rfl (t_labels_accepts_6 fuel b8.1 r307 hr308) rfl (LentAll.cons (Lent.res 5 rfl) (LentAll.nil)) (fun _ _ => rfl)) rfl fun x309 => ?_
                            refine J.quiet (Y.not rfl) rfl ?_
                            refine J.quiet (Y.assign rfl) rfl ?_
                            refine J.done ?_
                            refine J.thenN ?_
                            refine J.ret ?_
                            exact J.retM ((!r307)) (()) h (.inl rfl) (Res.r1 rfl (RV.tmp rfl)) rfl (SubM.cons 3 rfl (SubM.cons 3 rfl (SubM.cons 3 rfl (SubM.cons 3 rfl (SubM.cons 3 rfl (SubM.cons 3 rfl (SubM.nil))))))) (LentAll.refl _ _)
                          · clear h
                            intro a304 b305 h
                            unfold labels_accepts_k47 at h
                            refine J.quiet (Y.assign rfl) rfl ?_
                            refine J.done ?_
                            refine J.thenN ?_
                            refine J.ret ?_
                            exact J.retM (a304) (()) h (.inl rfl) (Res.r1 rfl (RV.tmp rfl)) rfl (SubM.refl _) (LentAll.refl _ _)
                        · clear h
                          intro a298 b299 h
                          unfold labels_accepts_k46 at h
                          refine J.done ?_
                          refine J.thenN ?_
                          refine J.cond (by exact rfl) (fun hp300 => ?_) (fun hp300 => ?_)
                          · replace h := ifP hp300 h
                            refine J.seq ?_
                            refine J.region ?_
                            refine J.quiet (Y.move rfl) rfl ?_
                            refine J.quiet (Y.assign rfl) rfl ?_
                            refine J.done ?_
                            refine J.thenN ?_
                            refine J.ret ?_
                            refine J.inR ?_
                            refine J.thenR ?_
                            refine J.thenR ?_
                            refine J.inR ?_
                            refine J.thenR ?_
                            exact J.retM (a291) (()) h (.inl rfl) (Res.r1 rfl (RV.tmp rfl)) rfl (SubM.cons 2 rfl (SubM.cons 2 rfl (SubM.cons 2 rfl (SubM.cons 2 rfl (SubM.nil))))) (LentAll.refl _ _)
                          · replace h := ifBN hp300 h
                            refine J.skip ?_
                            refine J.inN ?_
                            refine J.thenN ?_
                            refine J.region ?_
                            refine J.quiet (Y.addW rfl rfl) rfl ?_
                            refine J.quiet (Y.move rfl) rfl ?_
                            refine J.done ?_
                            refine J.thenN ?_
                            exact J.againI (wI .i64 (a291 + (1 : Int))) (()) h (by repeat (first | exact SubF.nil | refine SubF.cons rfl ?_)) (SubM.refl _) (LentAll.refl _ _)
                      · replace h := ifN hp294 h
                        refine J.exit ?_
                        refine J.thenX ?_
                        refine J.thenX ?_
                        refine J.inX ?_
                        refine J.thenN ?_
                        exact J.meetI (()) (()) h (by repeat (first | exact SubF.nil | refine SubF.cons rfl ?_)) (SubM.cons 2 rfl (SubM.cons 2 rfl (SubM.cons 2 rfl (SubM.cons 2 rfl (SubM.nil))))) (LentAll.refl _ _)
                    · clear h
                      intro a286 b287 h
                      unfold labels_accepts_k45 at h
                      refine J.seq ?_
                      refine J.region ?_
                      refine J.quiet (Y.assign rfl) rfl ?_
                      refine J.done ?_
                      refine J.thenN ?_
                      refine J.ret ?_
                      exact J.retM (-1 : Int) (()) h (.inl rfl) (Res.r1 rfl (RV.tmp rfl)) rfl (SubM.refl _) (LentAll.refl _ _)
                  · clear h
                    intro a283 b284 h
                    unfold labels_accepts_k44 at h
                    refine J.quiet (Y.geq rfl rfl) rfl ?_
                    refine J.quiet (Y.assign rfl) rfl ?_
                    refine J.done ?_
                    refine J.thenN ?_
                    refine J.ret ?_
                    exact J.retM (decide ((0 : Int) ≤ a283)) (()) h (.inl rfl) (Res.r1 rfl (RV.tmp rfl)) rfl (SubM.refl _) (LentAll.refl _ _)
                · clear h
                  intro a279 b280 h
                  unfold labels_accepts_k43 at h
                  refine J.quiet (Y.not rfl) rfl ?_
                  refine J.quiet (Y.assign rfl) rfl ?_
                  refine J.done ?_
                  refine J.thenN ?_
                  refine J.ret ?_
                  exact J.retM ((!a279)) (()) h (.inl rfl) (Res.r1 rfl (RV.tmp rfl)) rfl (SubM.refl _) (LentAll.refl _ _)
              · clear h
                intro a259 b260 h
                unfold labels_accepts_k41 at h
                refine J.quiet (Y.not rfl) rfl ?_
                refine J.done ?_
                refine J.thenN ?_
                refine J.cond (by exact rfl) (fun hp261 => ?_) (fun hp261 => ?_)
                · replace h := ifP hp261 h
                  refine J.seq ?_
                  refine J.region ?_
                  refine J.quiet (Y.assign rfl) rfl ?_
                  refine J.done ?_
                  refine J.thenN ?_
                  refine J.ret ?_
                  refine J.thenR ?_
                  obtain rfl := Option.some.inj h
                  exact J.retG1 (()) rfl rfl (RV.tmp rfl) (SubM.nil) LentAll.nil
                · replace h := ifBN hp261 h
                  refine J.skip ?_
                  refine J.thenN ?_
                  refine J.seq ?_
                  refine J.seq ?_
                  refine J.region ?_
                  refine J.quiet (Y.move rfl) rfl ?_
                  refine J.quiet (Y.loadB 1 rfl rfl rfl rfl rfl) rfl ?_
                  replace h := ck_some h; obtain ⟨hc262, h⟩ := h
                  refine J.quiet (Y.indexS rfl rfl (Lent.fact 2 rfl) rfl rfl hc262) rfl ?_
                  refine J.quiet (Y.loadS0 rfl (Lent.fact 2 rfl) rfl rfl rfl RI64c0 hc262) rfl ?_
                  refine J.quiet (Y.lss rfl rfl) rfl ?_
                  refine J.done ?_
                  refine J.thenN ?_
                  refine J.condD (by exact rfl) (fun hp263 => ?_) (fun hp263 => ?_)
                  · replace h := ifP hp263 h
                    refine J.seq ?_
                    refine J.region ?_
                    refine J.quiet (Y.loadB 0 rfl rfl rfl rfl rfl) rfl ?_
                    refine J.quiet (Y.eql rfl rfl) rfl ?_
                    refine J.quiet (Y.assign rfl) rfl ?_
                    refine J.done ?_
                    refine J.thenN ?_
                    refine J.ret ?_
                    refine J.thenR ?_
                    obtain rfl := Option.some.inj h
                    exact J.retG1 (()) rfl rfl (RV.tmp rfl) (SubM.nil) LentAll.nil
                  · replace h := ifN hp263 h
                    refine J.skip ?_
                    refine J.thenN ?_
                    refine J.seq ?_
                    refine JR.start [0, 1, 0, 7, 15, 0, 0, 96, 224, 511, 1023, 2047, 4095] 9 mixedOrders (by decide +kernel) ?_
                    refine JR.open (by exact rfl) ?_
                    refine JR.qt rfl (SubM.nil) (SubL.nil) (Y.fieldB rfl rfl rfl rfl rfl) HistOk.z ?_
                    refine JR.qt rfl (SubM.cons 3 rfl (SubM.nil)) (SubL.nil) (Y.loadB 0 rfl rfl rfl rfl rfl) HistOk.z ?_
                    refine JR.qt rfl (SubM.cons 1 rfl (SubM.nil)) (SubL.nil) (Y.loadB 0 rfl rfl rfl rfl rfl) HistOk.z ?_
                    replace h := ck_some h; obtain ⟨hc264, h⟩ := h
                    refine JR.qt rfl (SubM.nil) (SubL.cons (List.mem_of_getElem? (i := 1) rfl) (SubL.nil)) (Y.indexN rfl rfl (Lent.fact 0 rfl) rfl rfl hc264) HistOk.z ?_
                    refine JR.qt rfl (SubM.nil) (SubL.cons (List.mem_of_getElem? (i := 1) rfl) (SubL.nil)) (Y.loadRow rfl (Lent.fact 0 rfl) rfl rfl hc264) HistOk.z ?_
                    refine JR.qt rfl (SubM.nil) (SubL.nil) (Y.move rfl) HistOk.z ?_
                    refine JR.qt rfl (SubM.cons 1 rfl (SubM.nil)) (SubL.nil) (Y.loadB 0 rfl rfl rfl rfl rfl) HistOk.z ?_
                    replace h := ck_some h; obtain ⟨hc265, h⟩ := h
                    refine JR.qt rfl (SubM.nil) (SubL.cons (List.mem_of_getElem? (i := 2) rfl) (SubL.nil)) (Y.indexS rfl rfl (Lent.fact 0 rfl) rfl rfl hc265) HistOk.z ?_
                    refine JR.qt rfl (SubM.nil) (SubL.cons (List.mem_of_getElem? (i := 2) rfl) (SubL.nil)) (Y.loadS0 rfl (Lent.fact 0 rfl) rfl rfl rfl RI64c0 hc265) HistOk.z ?_
                    refine JR.tailD 9 rfl rfl ?_
                    replace h := ck_some h; obtain ⟨hc266, h⟩ := h
                    refine J.quiet (Y.indexS rfl rfl (Lent.el (Lent.fact 1 rfl) hc264.1 hc264.2) rfl rfl hc266) rfl ?_
                    refine J.quiet (Y.fieldEl rfl rfl rfl rfl rfl) rfl ?_
                    refine J.quiet (Y.loadS rfl (Lent.el (Lent.fact 1 rfl) hc264.1 hc264.2) rfl rfl rfl RI64I64pc0 hc266) rfl ?_
                    refine J.quiet (Y.assign rfl) rfl ?_
                    refine J.done ?_
                    refine J.thenN ?_
                    refine J.seq ?_
                    refine J.midI (A := Bool) (B := Unit) (fun a268 => labels_accepts_k42  a268 = some r) (fun a268 b269 => [(10, Value.bool (a268))]) (fun a268 b269 => []) (fun a268 b269 => [Sl RI64 v0 p1.1, S2 RI64I64p v1 z2 p1.2, Sl RI64 v3 p2, Sl RI64I64p v4 p3]) ?_ ?_
                    · refine JR.start [0, 0, 3, 7, 0, 0, 0, 112, 255, 511, 1023, 2047, 4095, 8191, 8191, 32767, 65535, 131071, 262143, 524287, 1048575, 2097151] 15 mixedOrders (by decide +kernel) ?_
                      refine JR.open (by exact rfl) ?_
                      refine JR.qt rfl (SubM.nil) (SubL.nil) (Y.move rfl) HistOk.z ?_
                      refine JR.qt rfl (SubM.nil) (SubL.nil) (Y.move rfl) HistOk.z ?_
                      replace h := ck_some h; obtain ⟨hc270, h⟩ := h
                      refine JR.qt rfl (SubM.nil) (SubL.cons (List.mem_of_getElem? (i := 2) rfl) (SubL.nil)) (Y.indexS rfl rfl (Lent.fact 0 rfl) rfl rfl hc270) HistOk.z ?_
                      refine JR.qt rfl (SubM.nil) (SubL.cons (List.mem_of_getElem? (i := 2) rfl) (SubL.nil)) (Y.loadS0 rfl (Lent.fact 0 rfl) rfl rfl rfl RI64c0 hc270) HistOk.z ?_
                      refine JR.qt rfl (SubM.cons 3 rfl (SubM.nil)) (SubL.nil) (Y.loadBAll 0 rfl rfl rfl rfl) HistOk.z ?_
                      refine JR.qt rfl (SubM.nil) (SubL.nil) (Y.move rfl) HistOk.z ?_
                      refine JR.qt rfl (SubM.cons 1 rfl (SubM.nil)) (SubL.nil) (Y.loadB 0 rfl rfl rfl rfl rfl) HistOk.z ?_
                      replace h := bnd h; obtain ⟨r271, hr272, h⟩ := h
                      refine JR.loud rfl rfl rfl (Loud.callL body72 (t_graph_PortTo fuel v0 v1 z2 r271 hr272) rfl (LentAll.cons (Lent.fact 0 rfl) (LentAll.cons (Lent.fact 1 rfl) (LentAll.nil))) (fun _ _ => rfl)) rfl (fun x273 => (BsOk.b rfl (BsOk.b rfl (BsOk.b rfl (BsOk.h (SubM.nil) (SubL.cons (List.mem_of_getElem? (i := 2) rfl) (SubL.nil)) (BsOk.h (SubM.nil) (SubL.cons (List.mem_of_getElem? (i := 2) rfl) (SubL.nil)) (BsOk.h (SubM.nil) (SubL.nil) (BsOk.h (SubM.nil) (SubL.nil) BsOk.z)))))))) fun x273 => ?_
                      refine JR.qt rfl (SubM.nil) (SubL.nil) (Y.eql rfl rfl) (HistOk.b rfl HistOk.z) ?_
                      refine JR.qt rfl (SubM.nil) (SubL.nil) (Y.move rfl) (HistOk.b rfl HistOk.z) ?_
                      refine JR.guardD (by exact rfl) (by exact rfl) (by exact rfl) (fun hp274 => ?_) (fun hp274 => ?_)
                      · replace h := ifP hp274 h
                        refine JR.qtG rfl (SubM.cons 0 rfl (SubM.nil)) (SubL.nil) (Y.loadB 0 rfl rfl rfl rfl rfl) (HistOk.b rfl HistOk.z) ?_
                        refine JR.qtG rfl (SubM.nil) (SubL.nil) (Y.eql rfl rfl) (HistOk.b rfl HistOk.z) ?_
                        refine JR.qtG rfl (SubM.nil) (SubL.nil) (Y.move rfl) (HistOk.b rfl HistOk.z) ?_
                        refine JR.guardD (by exact rfl) (by exact rfl) (by exact rfl) (fun hp275 => ?_) (fun hp275 => ?_)
                        · replace h := ifP hp275 h
                          refine JR.guardN rfl rfl rfl rfl ?_
                          refine JR.guardN rfl rfl rfl rfl ?_
                          refine JR.tailD 15 rfl rfl ?_
                          refine J.guardN rfl rfl rfl ?_
                          refine J.guardN rfl rfl rfl ?_
                          refine J.guardN rfl rfl rfl ?_
                          refine J.guardN rfl rfl rfl ?_
                          refine J.guardY rfl (Y.pickT rfl rfl) rfl ?_
                          refine J.quiet (Y.pickT rfl rfl) rfl ?_
                          refine J.quiet (Y.assign rfl) rfl ?_
                          refine J.done ?_
                          refine J.thenN ?_
                          exact J.meetI (true) (()) h (by repeat (first | exact SubF.nil | refine SubF.cons rfl ?_)) (SubM.nil) (LentAll.refl _ _)
                        · replace h := ifN hp275 h
                          refine JR.qtG rfl (SubM.cons 2 rfl (SubM.nil)) (SubL.nil) (Y.loadB 0 rfl rfl rfl rfl rfl) (HistOk.b rfl HistOk.z) ?_
                          refine JR.qtG rfl (SubM.nil) (SubL.nil) (Y.move rfl) (HistOk.b rfl HistOk.z) ?_
                          refine JR.tailD 15 rfl rfl ?_
                          replace h := ck_some h; obtain ⟨hc276, h⟩ := h
                          refine J.guardY rfl (Y.indexS rfl rfl (Lent.fact 3 rfl) rfl rfl hc276) rfl ?_
                          refine J.guardY rfl (Y.indexEl (i := 0) rfl rfl rfl rfl rfl (by decide)) rfl ?_
                          refine J.guardY rfl (Y.loadS rfl (Lent.fact 3 rfl) rfl rfl rfl RI64I64pc0 hc276) rfl ?_
                          refine J.guardY rfl (Y.eql rfl rfl) rfl ?_
                          refine J.guardY rfl (Y.pickF rfl rfl) rfl ?_
                          refine J.quiet (Y.pickT rfl rfl) rfl ?_
                          refine J.quiet (Y.assign rfl) rfl ?_
                          refine J.done ?_
                          refine J.thenN ?_
                          exact J.meetI (decide (((at' p3 ((at' (at' p1.2 p4) (at' p2 p4)).1)).1) = (0 : Int))) (()) h (by repeat (first | exact SubF.nil | refine SubF.cons rfl ?_)) (SubM.nil) (LentAll.refl _ _)
                      · replace h := ifN hp274 h
                        refine JR.guardN rfl rfl rfl rfl ?_
                        refine JR.guardN rfl rfl rfl rfl ?_
                        refine JR.guardN rfl rfl rfl rfl ?_
                        refine JR.qu (h := ?_)
                        refine JR.qu (h := ?_)
                        refine JR.tailD 15 rfl rfl ?_
                        refine J.qu (h := ?_)
                        refine J.qu (h := ?_)
                        refine J.qu (h := ?_)
                        refine J.qu (h := ?_)
                        refine J.guardN rfl rfl rfl ?_
                        refine J.quiet (Y.pickF rfl rfl) rfl ?_
                        refine J.quiet (Y.assign rfl) rfl ?_
                        refine J.done ?_
                        refine J.thenN ?_
                        exact J.meetI (false) (()) h (by repeat (first | exact SubF.nil | refine SubF.cons rfl ?_)) (SubM.nil) (LentAll.refl _ _)
                    · clear h
                      intro a268 b269 h
                      unfold labels_accepts_k42 at h
                      refine J.ret ?_
                      obtain rfl := Option.some.inj h
                      exact J.retG1 (()) rfl rfl (RV.tmp rfl) (SubM.refl _) LentAll.nil

end Go.Proofs.Ytmajgimhmfeliaa
end
section
set_option linter.unusedVariables false
set_option linter.unusedSimpArgs false
namespace Go.Proofs.Ytmajgimhmfeliaa
open Go.Sx
set_option linter.unusedVariables false
set_option linter.unusedSimpArgs false
def labels_Accepts_k2 (fuel : Nat) (p0 : Int) (p1 : List (Int) × (List (List (Int × Int)))) (p2 : List (Int)) (p3 : List (Int × Int)) (p4 : Int) (a7 : Bool) : Option (Bool) :=
  if a7 = true then (some (false)) else (Option.bind (m_labels_accepts fuel p0 ((p1.1, p1.2)) p2 p3 p4) fun r10 => (some (r10)))
def labels_Accepts_k1 (fuel : Nat) (p0 : Int) (p1 : List (Int) × (List (List (Int × Int)))) (p2 : List (Int)) (p3 : List (Int × Int)) (p4 : Int) (a3 : Bool) : Option (Bool) :=
  if a3 = true then (some (false)) else (if (List.length p2 : Int) ≠ (List.length p1.1 : Int) then (labels_Accepts_k2 fuel p0 p1 p2 p3 p4 (true)) else (if (List.length p3 : Int) ≠ (List.length p1.1 : Int) then (labels_Accepts_k2 fuel p0 p1 p2 p3 p4 (true)) else (ck (0 ≤ p4 ∧ p4 < (List.length p2 : Int)) (Option.bind (m_labels_number fuel p0 ((p1.1, p1.2)) p4 (at' p2 p4)) fun r16 => (labels_Accepts_k2 fuel p0 p1 p2 p3 p4 ((!r16)))))))
def m_labels_Accepts (fuel : Nat) (p0 : Int) (p1 : List (Int) × (List (List (Int × Int)))) (p2 : List (Int)) (p3 : List (Int × Int)) (p4 : Int) : Option (Bool) :=
  Option.bind (m_graph_Valid fuel ((p1.1, p1.2))) fun r19 => (if (!r19) = true then (labels_Accepts_k1 fuel p0 p1 p2 p3 p4 (true)) else (Option.bind (m_labels_known fuel p0) fun r23 => (if (!r23) = true then (labels_Accepts_k1 fuel p0 p1 p2 p3 p4 (true)) else (if p4 < (0 : Int) then (labels_Accepts_k1 fuel p0 p1 p2 p3 p4 (true)) else (labels_Accepts_k1 fuel p0 p1 p2 p3 p4 (decide ((List.length p1.1 : Int) ≤ p4)))))))

theorem body23 : HasBody Try.prog 23 := Try.call23

set_option maxHeartbeats 4000000 in
set_option maxRecDepth 20000 in
theorem t_labels_Accepts (fuel : Nat) {p0 : Int} {p1 : List (Int) × (List (List (Int × Int)))} {p2 : List (Int)} {p3 : List (Int × Int)} {p4 : Int} (v0 : Value)  (v1 : Value)  (z2 : List (Value × List (Int × Int)))  (v3 : Value)  (v4 : Value) (r : Bool) (h : m_labels_Accepts fuel p0 p1 p2 p3 p4 = some r) :
    Meets Try.prog 23 #[Value.int .i64 (p0), Value.agg #[v0, v1], v3, v4, Value.int .i64 (p4)] [Sl RI64 v0 p1.1, S2 RI64I64p v1 z2 p1.2, Sl RI64 v3 p2, Sl RI64I64p v4 p3] (fun x : Unit => Value.bool (r)) (fun x l => l) (fun _ l => l) := by
  refine Meets.of (vs := [Value.int .i64 (p0), Value.agg #[v0, v1], v3, v4, Value.int .i64 (p4)]) Try.func23 rfl Try.ntmps23 rfl fun c => ?_
  unfold m_labels_Accepts at h
  refine J.seq ?_
  refine J.region ?_
  refine J.loud (Loud.box (cs := [v0, v1]) rfl rfl) rfl fun b1 => ?_
  refine J.quiet (Y.assign rfl) rfl ?_
  refine J.done ?_
  refine J.thenN ?_
  refine J.seq ?_
  refine J.seq ?_
  refine J.midI (A := Bool) (B := Unit) (fun a3 => labels_Accepts_k1 fuel p0 p1 p2 p3 p4 a3 = some r) (fun a3 b4 => [(0, Value.int .i64 (p0)), (2, v3), (3, v4), (4, Value.int .i64 (p4)), (6, Value.pointer (some ⟨b1, 0, none⟩)), (29, Value.bool (a3))]) (fun a3 b4 => [Blk b1 [v0, v1] 29]) (fun a3 b4 => [Sl RI64 v0 p1.1, S2 RI64I64p v1 z2 p1.2, Sl RI64 v3 p2, Sl RI64I64p v4 p3]) ?_ ?_
  · refine J.region ?_
    refine J.quiet (Y.loadBAll 0 rfl rfl rfl rfl) rfl ?_
    replace h := bnd h; obtain ⟨r19, hr20, h⟩ := h
    refine J.loud (Loud.callL body45 (t_graph_Valid fuel v0 v1 z2 r19 hr20) rfl (LentAll.cons (Lent.fact 0 rfl) (LentAll.cons (Lent.fact 1 rfl) (LentAll.nil))) (fun _ _ => rfl)) rfl fun x21 => ?_
    refine J.quiet (Y.not rfl) rfl ?_
    refine J.quiet (Y.move rfl) rfl ?_
    refine J.guard (by exact rfl) (by exact rfl) (fun hp22 => ?_) (fun hp22 => ?_)
    · replace h := ifP hp22 h
      refine J.guardN rfl rfl rfl ?_
      refine J.guardN rfl rfl rfl ?_
      refine J.guardN rfl rfl rfl ?_
      refine J.quiet (Y.pickT rfl rfl) rfl ?_
      refine J.quiet (Y.move rfl) rfl ?_
      refine J.guardN rfl rfl rfl ?_
      refine J.guardN rfl rfl rfl ?_
      refine J.quiet (Y.pickT rfl rfl) rfl ?_
      refine J.quiet (Y.move rfl) rfl ?_
      refine J.guardN rfl rfl rfl ?_
      refine J.guardN rfl rfl rfl ?_
      refine J.guardN rfl rfl rfl ?_
      refine J.guardN rfl rfl rfl ?_
      refine J.guardN rfl rfl rfl ?_
      refine J.quiet (Y.pickT rfl rfl) rfl ?_
      refine J.done ?_
      refine J.thenN ?_
      exact J.meetI (true) (()) h (by repeat (first | exact SubF.nil | refine SubF.cons rfl ?_)) (SubM.refl _) (LentAll.refl _ _)
    · replace h := ifBN hp22 h
      refine J.guardY rfl (Y.move rfl) rfl ?_
      replace h := bnd h; obtain ⟨r23, hr24, h⟩ := h
      refine J.loudG rfl (Loud.callL body30 (t_labels_known fuel  r23 hr24) rfl (LentAll.nil) (fun _ _ => rfl)) rfl fun x25 => ?_
      refine J.guardY rfl (Y.not rfl) rfl ?_
      refine J.quiet (Y.pickF rfl rfl) rfl ?_
      refine J.quiet (Y.move rfl) rfl ?_
      refine J.guard (by exact rfl) (by exact rfl) (fun hp26 => ?_) (fun hp26 => ?_)
      · replace h := ifP hp26 h
        refine J.guardN rfl rfl rfl ?_
        refine J.guardN rfl rfl rfl ?_
        refine J.quiet (Y.pickT rfl rfl) rfl ?_
        refine J.quiet (Y.move rfl) rfl ?_
        refine J.guardN rfl rfl rfl ?_
        refine J.guardN rfl rfl rfl ?_
        refine J.guardN rfl rfl rfl ?_
        refine J.guardN rfl rfl rfl ?_
        refine J.guardN rfl rfl rfl ?_
        refine J.quiet (Y.pickT rfl rfl) rfl ?_
        refine J.done ?_
        refine J.thenN ?_
        exact J.meetI (true) (()) h (by repeat (first | exact SubF.nil | refine SubF.cons rfl ?_)) (SubM.refl _) (LentAll.refl _ _)
      · replace h := ifBN hp26 h
        refine J.guardY rfl (Y.move rfl) rfl ?_
        refine J.guardY rfl (Y.lss rfl rfl) rfl ?_
        refine J.quiet (Y.pickF rfl rfl) rfl ?_
        refine J.quiet (Y.move rfl) rfl ?_
        refine J.guardD (by exact rfl) (by exact rfl) (fun hp27 => ?_) (fun hp27 => ?_)
        · replace h := ifP hp27 h
          refine J.guardN rfl rfl rfl ?_
          refine J.guardN rfl rfl rfl ?_
          refine J.guardN rfl rfl rfl ?_
          refine J.guardN rfl rfl rfl ?_
          refine J.guardN rfl rfl rfl ?_
          refine J.quiet (Y.pickT rfl rfl) rfl ?_
          refine J.done ?_
          refine J.thenN ?_
          exact J.meetI (true) (()) h (by repeat (first | exact SubF.nil | refine SubF.cons rfl ?_)) (SubM.refl _) (LentAll.refl _ _)
        · replace h := ifN hp27 h
          refine J.guardY rfl (Y.move rfl) rfl ?_
          refine J.guardY rfl (Y.fieldB rfl rfl rfl rfl rfl) rfl ?_
          refine J.guardY rfl (Y.loadB 0 rfl rfl rfl rfl rfl) rfl ?_
          refine J.guardY rfl (Y.lenS rfl (Lent.fact 0 rfl) rfl) rfl ?_
          refine J.guardY rfl (Y.geq rfl rfl) rfl ?_
          refine J.quiet (Y.pickF rfl rfl) rfl ?_
          refine J.done ?_
          refine J.thenN ?_
          exact J.meetI (decide ((List.length p1.1 : Int) ≤ p4)) (()) h (by repeat (first | exact SubF.nil | refine SubF.cons rfl ?_)) (SubM.refl _) (LentAll.refl _ _)
  · clear h
    intro a3 b4 h
    unfold labels_Accepts_k1 at h
    refine J.cond (by exact rfl) (fun hp5 => ?_) (fun hp5 => ?_)
    · replace h := ifP hp5 h
      refine J.seq ?_
      refine J.region ?_
      refine J.quiet (Y.assign rfl) rfl ?_
      refine J.done ?_
      refine J.thenN ?_
      refine J.ret ?_
      refine J.thenR ?_
      obtain rfl := Option.some.inj h
      exact J.retG1 (()) rfl rfl (RV.tmp rfl) (SubM.nil) LentAll.nil
    · replace h := ifBN hp5 h
      refine J.skip ?_
      refine J.thenN ?_
      refine J.seq ?_
      refine J.seq ?_
      refine J.midI (A := Bool) (B := Unit) (fun a7 => labels_Accepts_k2 fuel p0 p1 p2 p3 p4 a7 = some r) (fun a7 b8 => [(0, Value.int .i64 (p0)), (2, v3), (3, v4), (4, Value.int .i64 (p4)), (6, Value.pointer (some ⟨b1, 0, none⟩)), (54, Value.bool (a7))]) (fun a7 b8 => [Blk b1 [v0, v1] 29]) (fun a7 b8 => [Sl RI64 v0 p1.1, S2 RI64I64p v1 z2 p1.2, Sl RI64 v3 p2, Sl RI64I64p v4 p3]) ?_ ?_
      · refine JR.start [0, 1, 0, 4, 12, 31, 63, 127, 255, 127, 639, 1663, 4095, 8191, 16383, 32767, 32767, 32767, 32767, 32767, 819199, 1867775, 4194303, 8388607, 16777215] 22 mixedOrders (by decide +kernel) ?_
        refine JR.open (by exact rfl) ?_
        refine JR.qt rfl (SubM.nil) (SubL.nil) (Y.move rfl) HistOk.z ?_
        refine JR.qt rfl (SubM.nil) (SubL.cons (List.mem_of_getElem? (i := 2) rfl) (SubL.nil)) (Y.lenS rfl (Lent.fact 0 rfl) rfl) HistOk.z ?_
        refine JR.qt rfl (SubM.nil) (SubL.nil) (Y.fieldB rfl rfl rfl rfl rfl) HistOk.z ?_
        refine JR.qt rfl (SubM.refl _) (SubL.nil) (Y.loadB 0 rfl rfl rfl rfl rfl) HistOk.z ?_
        refine JR.qt rfl (SubM.nil) (SubL.cons (List.mem_of_getElem? (i := 0) rfl) (SubL.nil)) (Y.lenS rfl (Lent.fact 0 rfl) rfl) HistOk.z ?_
        refine JR.qt rfl (SubM.nil) (SubL.nil) (Y.neq rfl rfl) HistOk.z ?_
        refine JR.qt rfl (SubM.nil) (SubL.nil) (Y.move rfl) HistOk.z ?_
        refine JR.guardD (by exact rfl) (by exact rfl) (by exact rfl) (fun hp13 => ?_) (fun hp13 => ?_)
        · replace h := ifP hp13 h
          refine JR.guardN rfl rfl rfl rfl ?_
          refine JR.guardN rfl rfl rfl rfl ?_
          refine JR.guardN rfl rfl rfl rfl ?_
          refine JR.guardN rfl rfl rfl rfl ?_
          refine JR.guardN rfl rfl rfl rfl ?_
          refine JR.guardN rfl rfl rfl rfl ?_
          refine JR.qt rfl (SubM.nil) (SubL.nil) (Y.pickT rfl rfl) HistOk.z ?_
          refine JR.qt rfl (SubM.nil) (SubL.nil) (Y.move rfl) HistOk.z ?_
          refine JR.guardN rfl rfl rfl rfl ?_
          refine JR.guardN rfl rfl rfl rfl ?_
          refine JR.guardN rfl rfl rfl rfl ?_
          refine JR.guardN rfl rfl rfl rfl ?_
          refine JR.guardN rfl rfl rfl rfl ?_
          refine JR.guardN rfl rfl rfl rfl ?_
          refine JR.guardN rfl rfl rfl rfl ?_
          refine JR.tailD 22 rfl rfl ?_
          refine J.guardN rfl rfl rfl ?_
          refine J.guardN rfl rfl rfl ?_
          refine J.quiet (Y.pickT rfl rfl) rfl ?_
          refine J.done ?_
          refine J.thenN ?_
          exact J.meetI (true) (()) h (by repeat (first | exact SubF.nil | refine SubF.cons rfl ?_)) (SubM.refl _) (LentAll.refl _ _)
        · replace h := ifN hp13 h
          refine JR.qtG rfl (SubM.nil) (SubL.nil) (Y.move rfl) HistOk.z ?_
          refine JR.qtG rfl (SubM.nil) (SubL.cons (List.mem_of_getElem? (i := 3) rfl) (SubL.nil)) (Y.lenS rfl (Lent.fact 0 rfl) rfl) HistOk.z ?_
          refine JR.qtG rfl (SubM.nil) (SubL.nil) (Y.fieldB rfl rfl rfl rfl rfl) HistOk.z ?_
          refine JR.qtG rfl (SubM.refl _) (SubL.nil) (Y.loadB 0 rfl rfl rfl rfl rfl) HistOk.z ?_
          refine JR.qtG rfl (SubM.nil) (SubL.cons (List.mem_of_getElem? (i := 0) rfl) (SubL.nil)) (Y.lenS rfl (Lent.fact 0 rfl) rfl) HistOk.z ?_
          refine JR.qtG rfl (SubM.nil) (SubL.nil) (Y.neq rfl rfl) HistOk.z ?_
          refine JR.qt rfl (SubM.nil) (SubL.nil) (Y.pickF rfl rfl) HistOk.z ?_
          refine JR.qt rfl (SubM.nil) (SubL.nil) (Y.move rfl) HistOk.z ?_
          refine JR.guardD (by exact rfl) (by exact rfl) (by exact rfl) (fun hp14 => ?_) (fun hp14 => ?_)
          · replace h := ifP hp14 h
            refine JR.guardN rfl rfl rfl rfl ?_
            refine JR.guardN rfl rfl rfl rfl ?_
            refine JR.guardN rfl rfl rfl rfl ?_
            refine JR.guardN rfl rfl rfl rfl ?_
            refine JR.guardN rfl rfl rfl rfl ?_
            refine JR.guardN rfl rfl rfl rfl ?_
            refine JR.guardN rfl rfl rfl rfl ?_
            refine JR.tailD 22 rfl rfl ?_
            refine J.guardN rfl rfl rfl ?_
            refine J.guardN rfl rfl rfl ?_
            refine J.quiet (Y.pickT rfl rfl) rfl ?_
            refine J.done ?_
            refine J.thenN ?_
            exact J.meetI (true) (()) h (by repeat (first | exact SubF.nil | refine SubF.cons rfl ?_)) (SubM.refl _) (LentAll.refl _ _)
          · replace h := ifN hp14 h
            refine JR.qtG rfl (SubM.nil) (SubL.nil) (Y.move rfl) HistOk.z ?_
            refine JR.qtG rfl (SubM.refl _) (SubL.nil) (Y.loadBAll 0 rfl rfl rfl rfl) HistOk.z ?_
            refine JR.qtG rfl (SubM.nil) (SubL.nil) (Y.move rfl) HistOk.z ?_
            refine JR.qtG rfl (SubM.nil) (SubL.nil) (Y.move rfl) HistOk.z ?_
            refine JR.qtG rfl (SubM.nil) (SubL.nil) (Y.move rfl) HistOk.z ?_
            replace h := ck_some h; obtain ⟨hc15, h⟩ := h
            refine JR.qtG rfl (SubM.nil) (SubL.cons (List.mem_of_getElem? (i := 2) rfl) (SubL.nil)) (Y.indexS rfl rfl (Lent.fact 0 rfl) rfl rfl hc15) HistOk.z ?_
            refine JR.qtG rfl (SubM.nil) (SubL.cons (List.mem_of_getElem? (i := 2) rfl) (SubL.nil)) (Y.loadS0 rfl (Lent.fact 0 rfl) rfl rfl rfl RI64c0 hc15) HistOk.z ?_
            refine JR.tailD 22 rfl rfl ?_
            replace h := bnd h; obtain ⟨r16, hr17, h⟩ := h
            refine J.loudG rfl (Loud.callL body46 (t_labels_number fuel v0 v1 z2 r16 hr17) rfl (LentAll.cons (Lent.fact 0 rfl) (LentAll.cons (Lent.fact 1 rfl) (LentAll.nil))) (fun _ _ => rfl)) rfl fun x18 => ?_
            refine J.guardY rfl (Y.not rfl) rfl ?_
            refine J.quiet (Y.pickF rfl rfl) rfl ?_
            refine J.done ?_
            refine J.thenN ?_
            exact J.meetI ((!r16)) (()) h (by repeat (first | exact SubF.nil | refine SubF.cons rfl ?_)) (SubM.refl _) (LentAll.refl _ _)
      · clear h
        intro a7 b8 h
        unfold labels_Accepts_k2 at h
        refine J.cond (by exact rfl) (fun hp9 => ?_) (fun hp9 => ?_)
        · replace h := ifP hp9 h
          refine J.seq ?_
          refine J.region ?_
          refine J.quiet (Y.assign rfl) rfl ?_
          refine J.done ?_
          refine J.thenN ?_
          refine J.ret ?_
          refine J.thenR ?_
          obtain rfl := Option.some.inj h
          exact J.retG1 (()) rfl rfl (RV.tmp rfl) (SubM.nil) LentAll.nil
        · replace h := ifBN hp9 h
          refine J.skip ?_
          refine J.thenN ?_
          refine J.seq ?_
          refine J.region ?_
          refine J.quiet (Y.move rfl) rfl ?_
          refine J.quiet (Y.loadBAll 0 rfl rfl rfl rfl) rfl ?_
          refine J.quiet (Y.move rfl) rfl ?_
          refine J.quiet (Y.move rfl) rfl ?_
          refine J.quiet (Y.move rfl) rfl ?_
          replace h := bnd h; obtain ⟨r10, hr11, h⟩ := h
          refine J.loud (Loud.callL body47 (t_labels_accepts fuel v0 v1 z2 v3 v4 r10 hr11) rfl (LentAll.cons (Lent.fact 0 rfl) (LentAll.cons (Lent.fact 1 rfl) (LentAll.cons (Lent.fact 2 rfl) (LentAll.cons (Lent.fact 3 rfl) (LentAll.nil))))) (fun _ _ => rfl)) rfl fun x12 => ?_
          refine J.quiet (Y.assign rfl) rfl ?_
          refine J.done ?_
          refine J.thenN ?_
          refine J.ret ?_
          obtain rfl := Option.some.inj h
          exact J.retG1 (()) rfl rfl (RV.tmp rfl) (SubM.nil) LentAll.nil

end Go.Proofs.Ytmajgimhmfeliaa
end
section
set_option linter.unusedVariables false
set_option linter.unusedSimpArgs false
namespace Go.Proofs.Ytmajgimhmfeliaa
open Go.Sx
set_option linter.unusedVariables false
set_option linter.unusedSimpArgs false
def labels_Rejecting_k1  (a7 : Int) : Option (Int) :=
  some (a7)
def labels_Rejecting_k2 (a12 : Int × Int) (ag11 : (Int × Int) → Option (Int)) (a17 : Int) : Option (Int) :=
  ag11 (a17, (wI .i64 (a12.2 + (1 : Int))))
def labels_Rejecting_s1 (fuel : Nat) (p0 : Int) (p1 : List (Int) × (List (List (Int × Int)))) (p2 : List (Int)) (p3 : List (Int × Int)) (a12 : Int × Int) (ag11 : (Int × Int) → Option (Int)) : Option (Int) :=
  if a12.2 < (List.length p1.1 : Int) then (Option.bind (m_labels_Accepts fuel p0 ((p1.1, p1.2)) p2 p3 a12.2) fun r19 => (if (!r19) = true then (ck (0 ≤ a12.2) (labels_Rejecting_k2 a12 ag11 (bOr .u32 a12.1 (bShl .u32 (1 : Int) a12.2)))) else (labels_Rejecting_k2 a12 ag11 (a12.1)))) else (labels_Rejecting_k1  (a12.1))
def m_labels_Rejecting (fuel : Nat) (p0 : Int) (p1 : List (Int) × (List (List (Int × Int)))) (p2 : List (Int)) (p3 : List (Int × Int)) : Option (Int) :=
  Option.bind (m_graph_Valid fuel ((p1.1, p1.2))) fun r2 => (if (!r2) = true then (some (0 : Int)) else (iter (labels_Rejecting_s1 fuel p0 p1 p2 p3) fuel ((0 : Int), (0 : Int))))

theorem body25 : HasBody Try.prog 25 := Try.call25

set_option maxHeartbeats 4000000 in
set_option maxRecDepth 20000 in
theorem t_labels_Rejecting (fuel : Nat) {p0 : Int} {p1 : List (Int) × (List (List (Int × Int)))} {p2 : List (Int)} {p3 : List (Int × Int)} (v0 : Value)  (v1 : Value)  (z2 : List (Value × List (Int × Int)))  (v3 : Value)  (v4 : Value) (r : Int) (h : m_labels_Rejecting fuel p0 p1 p2 p3 = some r) :
    Meets Try.prog 25 #[Value.int .i64 (p0), Value.agg #[v0, v1], v3, v4] [Sl RI64 v0 p1.1, S2 RI64I64p v1 z2 p1.2, Sl RI64 v3 p2, Sl RI64I64p v4 p3] (fun x : Unit => Value.int .u32 (r)) (fun x l => l) (fun _ l => l) := by
  refine Meets.of (vs := [Value.int .i64 (p0), Value.agg #[v0, v1], v3, v4]) Try.func25 rfl Try.ntmps25 rfl fun c => ?_
  unfold m_labels_Rejecting at h
  refine J.seq ?_
  refine J.region ?_
  refine J.loud (Loud.box (cs := [v0, v1]) rfl rfl) rfl fun b1 => ?_
  refine J.quiet (Y.assign rfl) rfl ?_
  refine J.done ?_
  refine J.thenN ?_
  refine J.seq ?_
  refine J.seq ?_
  refine J.region ?_
  refine J.quiet (Y.loadBAll 0 rfl rfl rfl rfl) rfl ?_
  replace h := bnd h; obtain ⟨r2, hr3, h⟩ := h
  refine J.loud (Loud.callL body45 (t_graph_Valid fuel v0 v1 z2 r2 hr3) rfl (LentAll.cons (Lent.fact 0 rfl) (LentAll.cons (Lent.fact 1 rfl) (LentAll.nil))) (fun _ _ => rfl)) rfl fun x4 => ?_
  refine J.quiet (Y.not rfl) rfl ?_
  refine J.done ?_
  refine J.thenN ?_
  refine J.cond (by exact rfl) (fun hp5 => ?_) (fun hp5 => ?_)
  · replace h := ifP hp5 h
    refine J.seq ?_
    refine J.region ?_
    refine J.quiet (Y.assign rfl) rfl ?_
    refine J.done ?_
    refine J.thenN ?_
    refine J.ret ?_
    refine J.thenR ?_
    obtain rfl := Option.some.inj h
    exact J.retG1 (()) rfl rfl (RV.tmp rfl) (SubM.nil) LentAll.nil
  · replace h := ifBN hp5 h
    refine J.skip ?_
    refine J.thenN ?_
    refine J.seq ?_
    refine J.region ?_
    refine J.quiet (Y.assign rfl) rfl ?_
    refine J.done ?_
    refine J.thenN ?_
    refine J.seq ?_
    refine J.midI (A := Int) (B := Unit) (fun a7 => labels_Rejecting_k1  a7 = some r) (fun a7 b8 => [(9, Value.int .u32 (a7))]) (fun a7 b8 => []) (fun a7 b8 => [Sl RI64 v0 p1.1, S2 RI64I64p v1 z2 p1.2, Sl RI64 v3 p2, Sl RI64I64p v4 p3]) ?_ ?_
    · refine J.seq ?_
      refine J.region ?_
      refine J.quiet (Y.fieldB rfl rfl rfl rfl rfl) rfl ?_
      refine J.quiet (Y.loadB 0 rfl rfl rfl rfl rfl) rfl ?_
      refine J.quiet (Y.lenS rfl (Lent.fact 0 rfl) rfl) rfl ?_
      refine J.quiet (Y.move rfl) rfl ?_
      refine J.done ?_
      refine J.thenN ?_
      refine J.block ?_
      refine J.loopI (A := Int × Int) (B := Unit) (labels_Rejecting_s1 fuel p0 p1 p2 p3) (fun a12 b13 => [(0, Value.int .i64 (p0)), (2, v3), (3, v4), (5, Value.pointer (some ⟨b1, 0, none⟩)), (9, Value.int .u32 (a12.1)), (16, Value.int .i64 (List.length p1.1 : Int)), (17, Value.int .i64 (a12.2))]) (fun a12 b13 => [Blk b1 [v0, v1] 29]) (fun a12 b13 => [Sl RI64 v0 p1.1, S2 RI64I64p v1 z2 p1.2, Sl RI64 v3 p2, Sl RI64I64p v4 p3]) ((0 : Int), (0 : Int)) (()) h (by repeat (first | exact SubF.nil | refine SubF.cons rfl ?_)) (SubM.refl _) (LentAll.refl _ _) ?_
      clear h
      intro k14 a12 b13 h
      unfold labels_Rejecting_s1 at h
      refine J.seq ?_
      refine J.region ?_
      refine J.quiet (Y.lss rfl rfl) rfl ?_
      refine J.done ?_
      refine J.thenN ?_
      refine J.seq ?_
      refine J.condD (by exact rfl) (fun hp15 => ?_) (fun hp15 => ?_)
      · replace h := ifP hp15 h
        refine J.skip ?_
        refine J.thenN ?_
        refine J.seq ?_
        refine J.midI (A := Int) (B := Unit) (fun a17 => labels_Rejecting_k2 a12 (iter (labels_Rejecting_s1 fuel p0 p1 p2 p3) k14) a17 = some r) (fun a17 b18 => [(0, Value.int .i64 (p0)), (2, v3), (3, v4), (5, Value.pointer (some ⟨b1, 0, none⟩)), (9, Value.int .u32 (a17)), (16, Value.int .i64 (List.length p1.1 : Int)), (17, Value.int .i64 (a12.2))]) (fun a17 b18 => [Blk b1 [v0, v1] 29]) (fun a17 b18 => [Sl RI64 v0 p1.1, S2 RI64I64p v1 z2 p1.2, Sl RI64 v3 p2, Sl RI64I64p v4 p3]) ?_ ?_
        · refine J.block ?_
          refine J.seq ?_
          refine J.region ?_
          refine J.quiet (Y.move rfl) rfl ?_
          refine J.quiet (Y.assign rfl) rfl ?_
          refine J.done ?_
          refine J.thenN ?_
          refine J.seq ?_
          refine J.region ?_
          refine J.quiet (Y.move rfl) rfl ?_
          refine J.quiet (Y.loadBAll 0 rfl rfl rfl rfl) rfl ?_
          refine J.quiet (Y.move rfl) rfl ?_
          refine J.quiet (Y.move rfl) rfl ?_
          refine J.quiet (Y.move rfl) rfl ?_
          replace h := bnd h; obtain ⟨r19, hr20, h⟩ := h
          refine J.loud (Loud.callL body23 (t_labels_Accepts fuel v0 v1 z2 v3 v4 r19 hr20) rfl (LentAll.cons (Lent.fact 0 rfl) (LentAll.cons (Lent.fact 1 rfl) (LentAll.cons (Lent.fact 2 rfl) (LentAll.cons (Lent.fact 3 rfl) (LentAll.nil))))) (fun _ _ => rfl)) rfl fun x21 => ?_
          refine J.quiet (Y.not rfl) rfl ?_
          refine J.done ?_
          refine J.thenN ?_
          refine J.cond (by exact rfl) (fun hp22 => ?_) (fun hp22 => ?_)
          · replace h := ifP hp22 h
            refine J.region ?_
            refine J.quiet (Y.move rfl) rfl ?_
            refine J.quiet (Y.move rfl) rfl ?_
            replace h := ck_some h; obtain ⟨hc23, h⟩ := h
            refine J.quiet (Y.shl rfl rfl hc23) rfl ?_
            refine J.quiet (Y.or rfl rfl) rfl ?_
            refine J.quiet (Y.assign rfl) rfl ?_
            refine J.done ?_
            refine J.inN ?_
            refine J.thenN ?_
            exact J.meetI (bOr .u32 a12.1 (bShl .u32 (1 : Int) a12.2)) (()) h (by repeat (first | exact SubF.nil | refine SubF.cons rfl ?_)) (SubM.refl _) (LentAll.refl _ _)
          · replace h := ifBN hp22 h
            refine J.skip ?_
            refine J.inN ?_
            refine J.thenN ?_
            exact J.meetI (a12.1) (()) h (by repeat (first | exact SubF.nil | refine SubF.cons rfl ?_)) (SubM.refl _) (LentAll.refl _ _)
        · clear h
          intro a17 b18 h
          unfold labels_Rejecting_k2 at h
          refine J.region ?_
          refine J.quiet (Y.addW rfl rfl) rfl ?_
          refine J.quiet (Y.move rfl) rfl ?_
          refine J.done ?_
          refine J.thenN ?_
          exact J.againI (a17, (wI .i64 (a12.2 + (1 : Int)))) (()) h (by repeat (first | exact SubF.nil | refine SubF.cons rfl ?_)) (SubM.refl _) (LentAll.refl _ _)
      · replace h := ifN hp15 h
        refine J.exit ?_
        refine J.thenX ?_
        refine J.thenX ?_
        refine J.inX ?_
        refine J.thenN ?_
        exact J.meetI (a12.1) (()) h (by repeat (first | exact SubF.nil | refine SubF.cons rfl ?_)) (SubM.nil) (LentAll.refl _ _)
    · clear h
      intro a7 b8 h
      unfold labels_Rejecting_k1 at h
      refine J.seq ?_
      refine J.region ?_
      refine J.quiet (Y.move rfl) rfl ?_
      refine J.quiet (Y.assign rfl) rfl ?_
      refine J.done ?_
      refine J.thenN ?_
      refine J.ret ?_
      obtain rfl := Option.some.inj h
      exact J.retG1 (()) rfl rfl (RV.tmp rfl) (SubM.refl _) LentAll.nil

end Go.Proofs.Ytmajgimhmfeliaa
end
section
set_option linter.unusedVariables false
set_option linter.unusedSimpArgs false
namespace Go.Proofs.Ytmajgimhmfeliaa
open Go.Sx
set_option linter.unusedVariables false
set_option linter.unusedSimpArgs false
def ref39_Fits_k2  (a12 : Bool) : Option (Bool) :=
  some (a12)
def ref39_Fits_k1 (fuel : Nat) (p0 : Int) (p1 : List (Int) × (List (List (Int × Int)))) (p2 : Int) (p3 : Int) (a3 : Bool) : Option (Bool) :=
  if a3 = true then (ck (0 ≤ p2 ∧ p2 < (List.length p1.2 : Int)) (Option.bind (m_ref01_In fuel p3 (-1 : Int) (wI .i64 ((List.length (at' p1.2 p2) : Int) - (1 : Int)))) fun r7 => (some (r7)))) else (if p0 = (2 : Int) then (if p3 = (0 : Int) then (ref39_Fits_k2  (true)) else (ref39_Fits_k2  (decide (p3 = (1 : Int))))) else (some (decide (p3 = (0 : Int)))))
def m_ref39_Fits (fuel : Nat) (p0 : Int) (p1 : List (Int) × (List (List (Int × Int)))) (p2 : Int) (p3 : Int) : Option (Bool) :=
  if p0 = (1 : Int) then (ref39_Fits_k1 fuel p0 p1 p2 p3 (decide (p0 = (1 : Int)))) else (ref39_Fits_k1 fuel p0 p1 p2 p3 (decide (p0 = (4 : Int))))

end Go.Proofs.Ytmajgimhmfeliaa
end
section
set_option linter.unusedVariables false
set_option linter.unusedSimpArgs false
namespace Go.Proofs.Ytmajgimhmfeliaa
open Go.Sx
set_option linter.unusedVariables false
set_option linter.unusedSimpArgs false
def m_ref39_partner (fuel : Nat) (p0 : List (Int) × (List (List (Int × Int)))) (p1 : List (Int)) (p2 : Int) : Option (Int) :=
  ck (0 ≤ p2 ∧ p2 < (List.length p1 : Int)) (if (at' p1 p2) < (0 : Int) then (some (-1 : Int)) else (ck (0 ≤ p2 ∧ p2 < (List.length p0.2 : Int)) (ck (0 ≤ p2 ∧ p2 < (List.length p1 : Int)) (ck (0 ≤ (at' p1 p2) ∧ (at' p1 p2) < (List.length (at' p0.2 p2) : Int)) (some ((at' (at' p0.2 p2) (at' p1 p2)).1))))))

end Go.Proofs.Ytmajgimhmfeliaa
end
section
set_option linter.unusedVariables false
set_option linter.unusedSimpArgs false
namespace Go.Proofs.Ytmajgimhmfeliaa
open Go.Sx
set_option linter.unusedVariables false
set_option linter.unusedSimpArgs false
def ref01_Degree_k1 (p0 : List (Int) × (List (List (Int × Int)))) (p1 : Int) (a3 : Bool) : Option (Int) :=
  if a3 = true then (some (0 : Int)) else (ck (0 ≤ p1 ∧ p1 < (List.length p0.2 : Int)) (some (List.length (at' p0.2 p1) : Int)))
def m_ref01_Degree (fuel : Nat) (p0 : List (Int) × (List (List (Int × Int)))) (p1 : Int) : Option (Int) :=
  Option.bind (m_ref01_Valid fuel ((p0.1, p0.2))) fun r7 => (if (!r7) = true then (ref01_Degree_k1 p0 p1 (true)) else (Option.bind (m_ref01_In fuel p1 (0 : Int) (wI .i64 ((List.length p0.2 : Int) - (1 : Int)))) fun r11 => (ref01_Degree_k1 p0 p1 ((!r11)))))

end Go.Proofs.Ytmajgimhmfeliaa
end
section
set_option linter.unusedVariables false
set_option linter.unusedSimpArgs false
namespace Go.Proofs.Ytmajgimhmfeliaa
open Go.Sx
set_option linter.unusedVariables false
set_option linter.unusedSimpArgs false
def m_ref01_Back (fuel : Nat) (p0 : List (Int) × (List (List (Int × Int)))) (p1 : Int) (p2 : Int) : Option (Int) :=
  Option.bind (m_ref01_Degree fuel ((p0.1, p0.2)) p1) fun r2 => (Option.bind (m_ref01_In fuel p2 (0 : Int) (wI .i64 (r2 - (1 : Int)))) fun r5 => (if (!r5) = true then (some (-1 : Int)) else (ck (0 ≤ p1 ∧ p1 < (List.length p0.2 : Int)) (ck (0 ≤ p2 ∧ p2 < (List.length (at' p0.2 p1) : Int)) (Option.bind (m_ref01_Port fuel ((p0.1, p0.2)) ((at' (at' p0.2 p1) p2).1) p1) fun r11 => (some (r11)))))))

end Go.Proofs.Ytmajgimhmfeliaa
end
section
set_option linter.unusedVariables false
set_option linter.unusedSimpArgs false
namespace Go.Proofs.Ytmajgimhmfeliaa
open Go.Sx
set_option linter.unusedVariables false
set_option linter.unusedSimpArgs false
def ref39_sees_k2  (a9 : Bool) : Option (Bool) :=
  some (a9)
def ref39_sees_k3  (a24 : Bool) : Option (Bool) :=
  some (a24)
def ref39_sees_k4  (a39 : Bool) : Option (Bool) :=
  some (a39)
def ref39_sees_k6  (a50 : Bool) : Option (Bool) :=
  some (a50)
def ref39_sees_k5 (p3 : List (Int × Int)) (p4 : Int) (r42 : Int) (a46 : Bool) : Option (Bool) :=
  if a46 = true then (some (false)) else (if ((at' p3 p4).1) = (0 : Int) then (ref39_sees_k6  (true)) else (if ((at' p3 p4).1) = (1 : Int) then (if (0 : Int) ≤ r42 then (ck (0 ≤ r42 ∧ r42 < (List.length p3 : Int)) (ref39_sees_k6  (decide (((at' p3 r42).1) = (0 : Int))))) else (ref39_sees_k6  (false))) else (ref39_sees_k6  (false))))
def ref39_sees_k1 (fuel : Nat) (p0 : Int) (p1 : List (Int) × (List (List (Int × Int)))) (p2 : List (Int)) (p3 : List (Int × Int)) (p4 : Int) (a5 : Bool) : Option (Bool) :=
  if p0 = (1 : Int) then (ck (0 ≤ p4 ∧ p4 < (List.length p2 : Int)) (if (at' p2 p4) < (0 : Int) then (ck (0 ≤ p4 ∧ p4 < (List.length p1.1 : Int)) (if ((at' p3 p4).1) = (at' p1.1 p4) then (if ((at' p3 p4).2) = (0 : Int) then (ref39_sees_k2  (true)) else (ck (0 ≤ p4 ∧ p4 < (List.length p2 : Int)) (if (0 : Int) ≤ (at' p2 p4) then (ref39_sees_k2  (a5)) else (ref39_sees_k2  (false))))) else (ck (0 ≤ p4 ∧ p4 < (List.length p2 : Int)) (if (0 : Int) ≤ (at' p2 p4) then (ref39_sees_k2  (a5)) else (ref39_sees_k2  (false)))))) else (ck (0 ≤ p4 ∧ p4 < (List.length p2 : Int)) (if (0 : Int) ≤ (at' p2 p4) then (ref39_sees_k2  (a5)) else (ref39_sees_k2  (false)))))) else (if p0 = (2 : Int) then (ck (0 ≤ p4 ∧ p4 < (List.length p2 : Int)) (if (at' p2 p4) = (1 : Int) then (ck (0 ≤ p4 ∧ p4 < (List.length p1.1 : Int)) (if ((at' p3 p4).1) = (at' p1.1 p4) then (if ((at' p3 p4).2) = (0 : Int) then (ref39_sees_k3  (true)) else (ck (0 ≤ p4 ∧ p4 < (List.length p2 : Int)) (if (at' p2 p4) = (0 : Int) then (ref39_sees_k3  (a5)) else (ref39_sees_k3  (false))))) else (ck (0 ≤ p4 ∧ p4 < (List.length p2 : Int)) (if (at' p2 p4) = (0 : Int) then (ref39_sees_k3  (a5)) else (ref39_sees_k3  (false)))))) else (ck (0 ≤ p4 ∧ p4 < (List.length p2 : Int)) (if (at' p2 p4) = (0 : Int) then (ref39_sees_k3  (a5)) else (ref39_sees_k3  (false)))))) else (if p0 = (3 : Int) then (if ((at' p3 p4).1) = (0 : Int) then (ref39_sees_k4  (true)) else (ref39_sees_k4  (decide (((at' p3 p4).1) = (1 : Int))))) else (Option.bind (m_ref39_partner fuel ((p1.1, p1.2)) p2 p4) fun r42 => (if (0 : Int) ≤ r42 then (ck (0 ≤ r42 ∧ r42 < (List.length p2 : Int)) (ck (0 ≤ p4 ∧ p4 < (List.length p2 : Int)) (Option.bind (m_ref01_Back fuel ((p1.1, p1.2)) p4 (at' p2 p4)) fun r59 => (ref39_sees_k5 p3 p4 r42 (decide ((at' p2 r42) ≠ r59)))))) else (ref39_sees_k5 p3 p4 r42 (false))))))
def ref39_sees_k7 (a65 : Bool × Int) (ag64 : (Bool × Int) → Option (Bool)) (a71 : Bool) : Option (Bool) :=
  ag64 (a71, (wI .i64 (a65.2 + (1 : Int))))
def ref39_sees_k9 (a65 : Bool × Int) (ag64 : (Bool × Int) → Option (Bool)) (a82 : Bool) : Option (Bool) :=
  if a82 = true then (ref39_sees_k7 a65 ag64 (true)) else (ref39_sees_k7 a65 ag64 (a65.1))
def ref39_sees_k10 (a65 : Bool × Int) (ag64 : (Bool × Int) → Option (Bool)) (a96 : Bool) : Option (Bool) :=
  if a96 = true then (some (false)) else (ref39_sees_k7 a65 ag64 (a65.1))
def ref39_sees_k8 (p0 : Int) (p1 : List (Int) × (List (List (Int × Int)))) (p2 : List (Int)) (p3 : List (Int × Int)) (p4 : Int) (a65 : Bool × Int) (ag64 : (Bool × Int) → Option (Bool)) (a76 : Bool) : Option (Bool) :=
  if a76 = true then (ck (0 ≤ ((at' (at' p1.2 p4) a65.2).1) ∧ ((at' (at' p1.2 p4) a65.2).1) < (List.length p3 : Int)) (if ((at' p3 ((at' (at' p1.2 p4) a65.2).1)).1) ≠ ((at' p3 p4).1) then (some (false)) else (if p0 = (2 : Int) then (if (1 : Int) ≤ ((at' p3 p4).2) then (ck (0 ≤ ((at' (at' p1.2 p4) a65.2).1) ∧ ((at' (at' p1.2 p4) a65.2).1) < (List.length p3 : Int)) (ref39_sees_k9 a65 ag64 (decide (((at' p3 ((at' (at' p1.2 p4) a65.2).1)).2) = (wI .i64 (((at' p3 p4).2) - (1 : Int))))))) else (ref39_sees_k9 a65 ag64 (false))) else (ck (0 ≤ p4 ∧ p4 < (List.length p2 : Int)) (if a65.2 = (at' p2 p4) then (if (1 : Int) ≤ ((at' p3 p4).2) then (ck (0 ≤ ((at' (at' p1.2 p4) a65.2).1) ∧ ((at' (at' p1.2 p4) a65.2).1) < (List.length p3 : Int)) (ref39_sees_k9 a65 ag64 (decide (((at' p3 ((at' (at' p1.2 p4) a65.2).1)).2) = (wI .i64 (((at' p3 p4).2) - (1 : Int))))))) else (ref39_sees_k9 a65 ag64 (false))) else (ref39_sees_k9 a65 ag64 (false))))))) else (if p0 = (3 : Int) then (ck (0 ≤ ((at' (at' p1.2 p4) a65.2).1) ∧ ((at' (at' p1.2 p4) a65.2).1) < (List.length p3 : Int)) (if ((at' p3 ((at' (at' p1.2 p4) a65.2).1)).1) ≠ (wI .i64 ((1 : Int) - ((at' p3 p4).1))) then (some (false)) else (ref39_sees_k7 a65 ag64 (a65.1)))) else (if ((at' p3 p4).1) ≠ (1 : Int) then (ck (0 ≤ ((at' (at' p1.2 p4) a65.2).1) ∧ ((at' (at' p1.2 p4) a65.2).1) < (List.length p3 : Int)) (ref39_sees_k10 a65 ag64 (decide (((at' p3 ((at' (at' p1.2 p4) a65.2).1)).1) ≠ (1 : Int))))) else (ref39_sees_k10 a65 ag64 (false))))
def ref39_sees_s1 (fuel : Nat) (p0 : Int) (p1 : List (Int) × (List (List (Int × Int)))) (p2 : List (Int)) (p3 : List (Int × Int)) (p4 : Int) (a65 : Bool × Int) (ag64 : (Bool × Int) → Option (Bool)) : Option (Bool) :=
  ck (0 ≤ p4 ∧ p4 < (List.length p1.2 : Int)) (if a65.2 < (List.length (at' p1.2 p4) : Int) then (ck (0 ≤ p4 ∧ p4 < (List.length p1.2 : Int)) (ck (0 ≤ a65.2 ∧ a65.2 < (List.length (at' p1.2 p4) : Int)) (if p0 = (1 : Int) then (ref39_sees_k8 p0 p1 p2 p3 p4 a65 ag64 (decide (p0 = (1 : Int)))) else (ref39_sees_k8 p0 p1 p2 p3 p4 a65 ag64 (decide (p0 = (2 : Int))))))) else (ref39_sees_k1 fuel p0 p1 p2 p3 p4 (a65.1)))
def m_ref39_sees (fuel : Nat) (p0 : Int) (p1 : List (Int) × (List (List (Int × Int)))) (p2 : List (Int)) (p3 : List (Int × Int)) (p4 : Int) : Option (Bool) :=
  ck (0 ≤ p4 ∧ p4 < (List.length p3 : Int)) (ck (0 ≤ p4 ∧ p4 < (List.length p3 : Int)) (iter (ref39_sees_s1 fuel p0 p1 p2 p3 p4) fuel (false, (0 : Int))))

end Go.Proofs.Ytmajgimhmfeliaa
end
section
set_option linter.unusedVariables false
set_option linter.unusedSimpArgs false
namespace Go.Proofs.Ytmajgimhmfeliaa
open Go.Sx
set_option linter.unusedVariables false
set_option linter.unusedSimpArgs false
def ref39_Accepts_k1 (fuel : Nat) (p0 : Int) (p1 : List (Int) × (List (List (Int × Int)))) (p2 : List (Int)) (p3 : List (Int × Int)) (p4 : Int) (a3 : Bool) : Option (Bool) :=
  if a3 = true then (some (false)) else (Option.bind (m_ref39_sees fuel p0 ((p1.1, p1.2)) p2 p3 p4) fun r6 => (some (r6)))
def m_ref39_Accepts (fuel : Nat) (p0 : Int) (p1 : List (Int) × (List (List (Int × Int)))) (p2 : List (Int)) (p3 : List (Int × Int)) (p4 : Int) : Option (Bool) :=
  Option.bind (m_ref01_Valid fuel ((p1.1, p1.2))) fun r9 => (if (!r9) = true then (ref39_Accepts_k1 fuel p0 p1 p2 p3 p4 (true)) else (Option.bind (m_ref01_In fuel p0 (1 : Int) (4 : Int)) fun r13 => (if (!r13) = true then (ref39_Accepts_k1 fuel p0 p1 p2 p3 p4 (true)) else (Option.bind (m_ref01_In fuel p4 (0 : Int) (wI .i64 ((List.length p1.2 : Int) - (1 : Int)))) fun r17 => (if (!r17) = true then (ref39_Accepts_k1 fuel p0 p1 p2 p3 p4 (true)) else (if (List.length p2 : Int) ≠ (List.length p1.2 : Int) then (ref39_Accepts_k1 fuel p0 p1 p2 p3 p4 (true)) else (if (List.length p3 : Int) ≠ (List.length p1.2 : Int) then (ref39_Accepts_k1 fuel p0 p1 p2 p3 p4 (true)) else (ck (0 ≤ p4 ∧ p4 < (List.length p2 : Int)) (Option.bind (m_ref39_Fits fuel p0 ((p1.1, p1.2)) p4 (at' p2 p4)) fun r24 => (ref39_Accepts_k1 fuel p0 p1 p2 p3 p4 ((!r24))))))))))))

end Go.Proofs.Ytmajgimhmfeliaa
end
section
set_option linter.unusedVariables false
set_option linter.unusedSimpArgs false
set_option linter.unusedVariables false
set_option linter.unusedSimpArgs false
namespace Go.Proofs.Ytmajgimhmfeliaa
open Go.Sx
/-- both answer alike -/
def Same2 {R : Type} (a b : Option R) : Prop := ∃ r, a = some r ∧ b = some r

/-- the label of the neighbour at a port -/
abbrev nlab (g : GR) (l : List (Int × Int)) (v i : Nat) : Int × Int := at' l (lnk (row g v) i).1
abbrev lab (l : List (Int × Int)) (v : Nat) : Int × Int := at' l (v : Int)

structure Ctx39 (g : GR) (st : List Int) (l : List (Int × Int)) (v : Nat) : Prop where
  V : VG g
  hv : v < g.2.length
  hs : st.length = g.2.length
  hl : l.length = g.2.length

theorem Ctx39.nb {g : GR} {st : List Int} {l : List (Int × Int)} {v : Nat} (h : Ctx39 g st l v) {i : Nat} (hi : i < (row g v).length) : 0 ≤ (lnk (row g v) i).1 ∧ (lnk (row g v) i).1 < (l.length : Int) := by
  have := ((h.V.node v h.hv).links i hi).1
  have := h.hl
  omega

theorem Ctx39.deg {g : GR} {st : List Int} {l : List (Int × Int)} {v : Nat} (h : Ctx39 g st l v) : (row g v).length < 24 := by
  have := (h.V.node v h.hv).deg
  have := h.V.n24
  omega

section
variable {g : GR} {st : List Int} {l : List (Int × Int)} {v : Nat}
/-! ## the reference's loop -/
abbrev SameAt (g : GR) (l : List (Int × Int)) (v i : Nat) : Prop := (nlab g l v i).1 = (lab l v).1
abbrev NearAt (g : GR) (l : List (Int × Int)) (v i : Nat) : Prop := (nlab g l v i).2 = wI .i64 ((lab l v).2 - 1)

theorem sees12 (h : Ctx39 g st l v) {kind : Int} (hk : kind = 1 ∨ kind = 2) :
    ((∀ i, i < (row g v).length → SameAt g l v i) → ∃ b : Bool, (b = true ↔ ∃ i, i < (row g v).length ∧ (kind = 2 ∨ (i : Int) = at' st (v : Int)) ∧ 1 ≤ (lab l v).2 ∧ NearAt g l v i) ∧ m_ref39_sees 2000 kind g st l (v : Int) = ref39_sees_k1 2000 kind g st l (v : Int) b) ∧
    (¬ (∀ i, i < (row g v).length → SameAt g l v i) → m_ref39_sees 2000 kind g st l (v : Int) = some false) := by
  have hd := h.deg
  have hs := h.hs
  have hl := h.hl
  have hv := h.hv
  have q1 : (at' g.2 (v : Int)).length = (row g v).length := rfl
  have key := iter_ifS (step := ref39_sees_s1 2000 kind g st l v) (K := fun x => ref39_sees_k1 2000 kind g st l v x.1) (bad := false) (row g v).length (SameAt g l v)
    (fun k x => x.2 = (k : Int) ∧ (x.1 = true ↔ ∃ i, i < k ∧ (kind = 2 ∨ (i : Int) = at' st (v : Int)) ∧ 1 ≤ (lab l v).2 ∧ NearAt g l v i)) ?_ ?_ ?_ 2000 (false, (0 : Int)) ⟨rfl, by simp⟩ (by omega)
  · unfold m_ref39_sees
    rw [ckT (by omega), ckT (by omega)]
    refine ⟨fun ha => ?_, key.2⟩
    obtain ⟨x, ⟨_, hx⟩, he⟩ := key.1 ha
    exact ⟨x.1, hx, he⟩
  · rintro k ⟨b, x2⟩ ag hk2 ⟨hx, hb⟩ hp
    dsimp only at hx hb
    subst hx
    have hn := h.nb hk2
    have q2 : (at' (at' g.2 (v : Int)) (k : Int)).1 = (lnk (row g v) k).1 := rfl
    have hp' : (at' l ((at' (at' g.2 (v : Int)) (k : Int)).1)).1 = (at' l (v : Int)).1 := hp
    have hnext : ∀ c : Bool, (c = true ↔ ((kind = 2 ∨ (k : Int) = at' st (v : Int)) ∧ 1 ≤ (lab l v).2 ∧ NearAt g l v k)) → ref39_sees_k9 (b, (k : Int)) ag c = ag (b || c, (k : Int) + 1) ∧ ((b || c) = true ↔ ∃ i, i < k + 1 ∧ (kind = 2 ∨ (i : Int) = at' st (v : Int)) ∧ 1 ≤ (lab l v).2 ∧ NearAt g l v i) := by
      intro c hc
      constructor
      · unfold ref39_sees_k9 ref39_sees_k7
        dsimp only
        rw [wr (by omega) (by omega)]
        cases c <;> cases b <;> rfl
      · rw [Bool.or_eq_true, hb, hc]
        constructor
        · rintro (⟨i, hi, hr⟩ | hr)
          · exact ⟨i, by omega, hr⟩
          · exact ⟨k, by omega, hr⟩
        · rintro ⟨i, hi, hr⟩
          by_cases e : i = k
          · subst e; exact .inr hr
          · exact .inl ⟨i, by omega, hr⟩
    have go : ∃ c : Bool, (c = true ↔ ((kind = 2 ∨ (k : Int) = at' st (v : Int)) ∧ 1 ≤ (lab l v).2 ∧ NearAt g l v k)) ∧ ref39_sees_s1 2000 kind g st l v (b, (k : Int)) ag = ref39_sees_k9 (b, (k : Int)) ag c := by
      unfold ref39_sees_s1
      dsimp only
      rw [ckT (by omega), if_pos (by omega), ckT (by omega), ckT (by omega)]
      have h8 : (if kind = (1 : Int) then (ref39_sees_k8 kind g st l v (b, (k : Int)) ag (decide (kind = (1 : Int)))) else (ref39_sees_k8 kind g st l v (b, (k : Int)) ag (decide (kind = (2 : Int))))) = ref39_sees_k8 kind g st l v (b, (k : Int)) ag true := by
        rcases hk with rfl | rfl <;> rfl
      rw [h8]
      unfold ref39_sees_k8
      dsimp only
      rw [if_pos rfl, ckT (by omega), if_neg (fun hne => hne hp')]
      by_cases h2 : kind = 2
      · rw [if_pos h2]
        by_cases hy : (1 : Int) ≤ (at' l (v : Int)).2
        · rw [if_pos hy, ckT (by omega)]
          exact ⟨_, by rw [decide_eq_true_eq]; exact ⟨fun hr => ⟨.inl h2, hy, hr⟩, fun hr => hr.2.2⟩, rfl⟩
        · rw [if_neg hy]
          exact ⟨false, ⟨fun hc => (by cases hc), fun hr => absurd hr.2.1 hy⟩, rfl⟩
      · rw [if_neg h2, ckT (by omega)]
        by_cases he : (k : Int) = at' st (v : Int)
        · rw [if_pos he]
          by_cases hy : (1 : Int) ≤ (at' l (v : Int)).2
          · rw [if_pos hy, ckT (by omega)]
            exact ⟨_, by rw [decide_eq_true_eq]; exact ⟨fun hr => ⟨.inr he, hy, hr⟩, fun hr => hr.2.2⟩, rfl⟩
          · rw [if_neg hy]
            exact ⟨false, ⟨fun hc => (by cases hc), fun hr => absurd hr.2.1 hy⟩, rfl⟩
        · rw [if_neg he]
          exact ⟨false, ⟨fun hc => (by cases hc), fun hr => by rcases hr.1 with h' | h'; exact absurd h' h2; exact absurd h' he⟩, rfl⟩
    obtain ⟨c, hc, he⟩ := go
    obtain ⟨e1, e2⟩ := hnext c hc
    exact ⟨(b || c, (k : Int) + 1), ⟨by simp, e2⟩, he.trans e1⟩
  · rintro k ⟨b, x2⟩ ag hk2 ⟨hx, hb⟩ hp
    dsimp only at hx hb
    subst hx
    have hn := h.nb hk2
    have q2 : (at' (at' g.2 (v : Int)) (k : Int)).1 = (lnk (row g v) k).1 := rfl
    have hp' : (at' l ((at' (at' g.2 (v : Int)) (k : Int)).1)).1 ≠ (at' l (v : Int)).1 := hp
    unfold ref39_sees_s1
    dsimp only
    rw [ckT (by omega), if_pos (by omega), ckT (by omega), ckT (by omega)]
    have h8 : (if kind = (1 : Int) then (ref39_sees_k8 kind g st l v (b, (k : Int)) ag (decide (kind = (1 : Int)))) else (ref39_sees_k8 kind g st l v (b, (k : Int)) ag (decide (kind = (2 : Int))))) = ref39_sees_k8 kind g st l v (b, (k : Int)) ag true := by
      rcases hk with rfl | rfl <;> rfl
    rw [h8]
    unfold ref39_sees_k8
    dsimp only
    rw [if_pos rfl, ckT (by omega), if_pos hp']
  · rintro ⟨b, x2⟩ ag ⟨hx, hb⟩
    dsimp only at hx
    subst hx
    unfold ref39_sees_s1
    dsimp only
    rw [ckT (by omega), if_neg (by omega)]

/-- the loops of the other two kinds -/
theorem sees34 (h : Ctx39 g st l v) {kind : Int} (hk : kind = 3 ∨ kind = 4) (p : Nat → Prop)
    (hp3 : kind = 3 → ∀ i, p i ↔ (nlab g l v i).1 = wI .i64 (1 - (lab l v).1)) (hp4 : kind = 4 → ∀ i, p i ↔ ((lab l v).1 = 1 ∨ (nlab g l v i).1 = 1)) :
    ((∀ i, i < (row g v).length → p i) → m_ref39_sees 2000 kind g st l (v : Int) = ref39_sees_k1 2000 kind g st l (v : Int) false) ∧
    (¬ (∀ i, i < (row g v).length → p i) → m_ref39_sees 2000 kind g st l (v : Int) = some false) := by
  have hd := h.deg
  have hs := h.hs
  have hl := h.hl
  have hv := h.hv
  have q1 : (at' g.2 (v : Int)).length = (row g v).length := rfl
  have enter : ∀ (k : Nat) (ag : Bool × Int → Option Bool), k < (row g v).length → ref39_sees_s1 2000 kind g st l v (false, (k : Int)) ag = ref39_sees_k8 kind g st l v (false, (k : Int)) ag false := by
    intro k ag hk2
    unfold ref39_sees_s1
    dsimp only
    rw [ckT (by omega), if_pos (by omega), ckT (by omega), ckT (by omega)]
    rcases hk with rfl | rfl <;> rfl
  have key := iter_ifS (step := ref39_sees_s1 2000 kind g st l v) (K := fun x => ref39_sees_k1 2000 kind g st l v x.1) (bad := false) (row g v).length p (fun k x => x = (false, (k : Int))) ?_ ?_ ?_ 2000 (false, (0 : Int)) rfl (by omega)
  · unfold m_ref39_sees
    rw [ckT (by omega), ckT (by omega)]
    refine ⟨fun ha => ?_, key.2⟩
    obtain ⟨x, hx, he⟩ := key.1 ha
    rw [he, hx]
  · rintro k x ag hk2 rfl hp
    refine ⟨(false, ((k + 1 : Nat) : Int)), rfl, ?_⟩
    have hn := h.nb hk2
    have q2 : (at' (at' g.2 (v : Int)) (k : Int)).1 = (lnk (row g v) k).1 := rfl
    rw [enter k ag hk2]
    unfold ref39_sees_k8
    dsimp only
    rw [if_neg (by simp)]
    rcases hk with rfl | rfl
    · rw [if_pos rfl, ckT (by omega), if_neg (fun hne => hne ((hp3 rfl k).1 hp))]
      unfold ref39_sees_k7
      dsimp only
      rw [wr (by omega) (by omega)]
      rfl
    · rw [if_neg (by decide)]
      have fin : ref39_sees_k10 (false, (k : Int)) ag false = ag (false, ((k + 1 : Nat) : Int)) := by
        unfold ref39_sees_k10 ref39_sees_k7
        dsimp only
        rw [if_neg (by simp), wr (by omega) (by omega)]
        rfl
      by_cases hx : (at' l (v : Int)).1 = 1
      · rw [if_neg (fun hne => hne hx)]; exact fin
      · rw [if_pos hx, ckT (by omega), decide_eq_false]
        · exact fin
        · intro hne
          rcases (hp4 rfl k).1 hp with h' | h'
          · exact hx h'
          · exact hne h'
  · rintro k x ag hk2 rfl hp
    have hn := h.nb hk2
    have q2 : (at' (at' g.2 (v : Int)) (k : Int)).1 = (lnk (row g v) k).1 := rfl
    rw [enter k ag hk2]
    unfold ref39_sees_k8
    dsimp only
    rw [if_neg (by simp)]
    rcases hk with rfl | rfl
    · rw [if_pos rfl, ckT (by omega), if_pos (fun he => hp ((hp3 rfl k).2 he))]
    · rw [if_neg (by decide), if_pos (fun he => hp ((hp4 rfl k).2 (.inl he))), ckT (by omega), decide_eq_true (show (at' l (at' (at' g.2 (v : Int)) (k : Int)).1).1 ≠ 1 from fun he => hp ((hp4 rfl k).2 (.inr he)))]
      rfl
  · rintro x ag rfl
    unfold ref39_sees_s1
    dsimp only
    rw [ckT (by omega), if_neg (by omega)]

/-! ## the program's loops -/
theorem acc1 (h : Ctx39 g st l v) : ((∀ i, i < (row g v).length → SameAt g l v i) → iter (labels_accepts_s1 2000 g l v) 2000 0 = labels_accepts_k3 g l v true) ∧ (¬ (∀ i, i < (row g v).length → SameAt g l v i) → iter (labels_accepts_s1 2000 g l v) 2000 0 = some false) := by
  have hd := h.deg
  have q1 : (at' g.2 (v : Int)).length = (row g v).length := rfl
  refine iter_if (row g v).length (SameAt g l v) (fun k ag hk hp => ?_) (fun k ag hk hp => ?_) (fun ag => ?_) 2000 (by omega)
  · have hn := h.nb hk
    have q2 : (at' (at' g.2 (v : Int)) (k : Int)).1 = (lnk (row g v) k).1 := rfl
    unfold labels_accepts_s1 m_labels_accepts_3
    rw [if_pos (by omega), ckT (by omega), ckT (by omega), bindS rfl, decide_eq_true hp]
    unfold labels_accepts_k8 labels_accepts_k7
    rw [if_neg (by simp), wr (by omega) (by omega)]
  · have hn := h.nb hk
    have q2 : (at' (at' g.2 (v : Int)) (k : Int)).1 = (lnk (row g v) k).1 := rfl
    unfold labels_accepts_s1 m_labels_accepts_3
    rw [if_pos (by omega), ckT (by omega), ckT (by omega), bindS rfl, decide_eq_false hp]
    unfold labels_accepts_k8 labels_accepts_k7 labels_accepts_k5
    rw [if_pos (by rfl), decide_eq_true (by omega)]
    rfl
  · unfold labels_accepts_s1
    rw [if_neg (by omega)]
    rfl

theorem acc2 (h : Ctx39 g st l v) : ((∀ i, i < (row g v).length → SameAt g l v i) → iter (labels_accepts_s2 2000 g st l v) 2000 0 = labels_accepts_k10 2000 g st l v true) ∧ (¬ (∀ i, i < (row g v).length → SameAt g l v i) → iter (labels_accepts_s2 2000 g st l v) 2000 0 = some false) := by
  have hd := h.deg
  have q1 : (at' g.2 (v : Int)).length = (row g v).length := rfl
  refine iter_if (row g v).length (SameAt g l v) (fun k ag hk hp => ?_) (fun k ag hk hp => ?_) (fun ag => ?_) 2000 (by omega)
  · have hn := h.nb hk
    have q2 : (at' (at' g.2 (v : Int)) (k : Int)).1 = (lnk (row g v) k).1 := rfl
    unfold labels_accepts_s2 m_labels_accepts_3
    rw [if_pos (by omega), ckT (by omega), ckT (by omega), bindS rfl, decide_eq_true hp]
    unfold labels_accepts_k15 labels_accepts_k14
    rw [if_neg (by simp), wr (by omega) (by omega)]
  · have hn := h.nb hk
    have q2 : (at' (at' g.2 (v : Int)) (k : Int)).1 = (lnk (row g v) k).1 := rfl
    unfold labels_accepts_s2 m_labels_accepts_3
    rw [if_pos (by omega), ckT (by omega), ckT (by omega), bindS rfl, decide_eq_false hp]
    unfold labels_accepts_k15 labels_accepts_k14 labels_accepts_k12
    rw [if_pos (by rfl), decide_eq_true (by omega)]
    rfl
  · unfold labels_accepts_s2
    rw [if_neg (by omega)]
    rfl

theorem acc3 (h : Ctx39 g st l v) : ((∀ i, i < (row g v).length → SameAt g l v i) → iter (labels_accepts_s3 2000 g l v) 2000 0 = labels_accepts_k17 g l v true) ∧ (¬ (∀ i, i < (row g v).length → SameAt g l v i) → iter (labels_accepts_s3 2000 g l v) 2000 0 = some false) := by
  have hd := h.deg
  have q1 : (at' g.2 (v : Int)).length = (row g v).length := rfl
  refine iter_if (row g v).length (SameAt g l v) (fun k ag hk hp => ?_) (fun k ag hk hp => ?_) (fun ag => ?_) 2000 (by omega)
  · have hn := h.nb hk
    have q2 : (at' (at' g.2 (v : Int)) (k : Int)).1 = (lnk (row g v) k).1 := rfl
    unfold labels_accepts_s3 m_labels_accepts_3
    rw [if_pos (by omega), ckT (by omega), ckT (by omega), bindS rfl, decide_eq_true hp]
    unfold labels_accepts_k22 labels_accepts_k21
    rw [if_neg (by simp), wr (by omega) (by omega)]
  · have hn := h.nb hk
    have q2 : (at' (at' g.2 (v : Int)) (k : Int)).1 = (lnk (row g v) k).1 := rfl
    unfold labels_accepts_s3 m_labels_accepts_3
    rw [if_pos (by omega), ckT (by omega), ckT (by omega), bindS rfl, decide_eq_false hp]
    unfold labels_accepts_k22 labels_accepts_k21 labels_accepts_k19
    rw [if_pos (by rfl), decide_eq_true (by omega)]
    rfl
  · unfold labels_accepts_s3
    rw [if_neg (by omega)]
    rfl

theorem acc5 (h : Ctx39 g st l v) : ((∀ i, i < (row g v).length → SameAt g l v i) → iter (labels_accepts_s5 2000 g l v) 2000 0 = labels_accepts_k24 2000 g l v true) ∧ (¬ (∀ i, i < (row g v).length → SameAt g l v i) → iter (labels_accepts_s5 2000 g l v) 2000 0 = some false) := by
  have hd := h.deg
  have q1 : (at' g.2 (v : Int)).length = (row g v).length := rfl
  refine iter_if (row g v).length (SameAt g l v) (fun k ag hk hp => ?_) (fun k ag hk hp => ?_) (fun ag => ?_) 2000 (by omega)
  · have hn := h.nb hk
    have q2 : (at' (at' g.2 (v : Int)) (k : Int)).1 = (lnk (row g v) k).1 := rfl
    unfold labels_accepts_s5 m_labels_accepts_3
    rw [if_pos (by omega), ckT (by omega), ckT (by omega), bindS rfl, decide_eq_true hp]
    unfold labels_accepts_k33 labels_accepts_k32
    rw [if_neg (by simp), wr (by omega) (by omega)]
  · have hn := h.nb hk
    have q2 : (at' (at' g.2 (v : Int)) (k : Int)).1 = (lnk (row g v) k).1 := rfl
    unfold labels_accepts_s5 m_labels_accepts_3
    rw [if_pos (by omega), ckT (by omega), ckT (by omega), bindS rfl, decide_eq_false hp]
    unfold labels_accepts_k33 labels_accepts_k32 labels_accepts_k30
    rw [if_pos (by rfl), decide_eq_true (by omega)]
    rfl
  · unfold labels_accepts_s5
    rw [if_neg (by omega)]
    rfl

theorem acc4 (h : Ctx39 g st l v) : ((∀ i, i < (row g v).length → ¬ NearAt g l v i) → iter (labels_accepts_s4 2000 g l v) 2000 0 = some false) ∧ (¬ (∀ i, i < (row g v).length → ¬ NearAt g l v i) → iter (labels_accepts_s4 2000 g l v) 2000 0 = some true) := by
  have hd := h.deg
  have q1 : (at' g.2 (v : Int)).length = (row g v).length := rfl
  refine iter_if (row g v).length (fun i => ¬ NearAt g l v i) (fun k ag hk hp => ?_) (fun k ag hk hp => ?_) (fun ag => ?_) 2000 (by omega)
  · have hn := h.nb hk
    have q2 : (at' (at' g.2 (v : Int)) (k : Int)).1 = (lnk (row g v) k).1 := rfl
    unfold labels_accepts_s4 m_labels_accepts_4
    rw [if_pos (by omega), ckT (by omega), ckT (by omega), bindS rfl, decide_eq_false hp]
    unfold labels_accepts_k28
    rw [if_neg (by simp), wr (by omega) (by omega)]
  · have hn := h.nb hk
    have q2 : (at' (at' g.2 (v : Int)) (k : Int)).1 = (lnk (row g v) k).1 := rfl
    unfold labels_accepts_s4 m_labels_accepts_4
    rw [if_pos (by omega), ckT (by omega), ckT (by omega), bindS rfl, decide_eq_true (Classical.not_not.1 hp)]
    unfold labels_accepts_k28 labels_accepts_k26
    rw [if_pos rfl, decide_eq_true (by omega)]
    rfl
  · unfold labels_accepts_s4
    rw [if_neg (by omega)]
    rfl

theorem acc6 (h : Ctx39 g st l v) : ((∀ i, i < (row g v).length → (nlab g l v i).1 = wI .i64 (1 - (lab l v).1)) → iter (labels_accepts_s6 2000 g l v) 2000 0 = some true) ∧ (¬ (∀ i, i < (row g v).length → (nlab g l v i).1 = wI .i64 (1 - (lab l v).1)) → iter (labels_accepts_s6 2000 g l v) 2000 0 = some false) := by
  have hd := h.deg
  have q1 : (at' g.2 (v : Int)).length = (row g v).length := rfl
  refine iter_if (row g v).length (fun i => (nlab g l v i).1 = wI .i64 (1 - (lab l v).1)) (fun k ag hk hp => ?_) (fun k ag hk hp => ?_) (fun ag => ?_) 2000 (by omega)
  · have hn := h.nb hk
    have q2 : (at' (at' g.2 (v : Int)) (k : Int)).1 = (lnk (row g v) k).1 := rfl
    unfold labels_accepts_s6 m_labels_accepts_5
    rw [if_pos (by omega), ckT (by omega), ckT (by omega), bindS rfl, decide_eq_true hp]
    unfold labels_accepts_k40 labels_accepts_k39
    rw [if_neg (by simp), wr (by omega) (by omega)]
  · have hn := h.nb hk
    have q2 : (at' (at' g.2 (v : Int)) (k : Int)).1 = (lnk (row g v) k).1 := rfl
    unfold labels_accepts_s6 m_labels_accepts_5
    rw [if_pos (by omega), ckT (by omega), ckT (by omega), bindS rfl, decide_eq_false hp]
    unfold labels_accepts_k40 labels_accepts_k39 labels_accepts_k37
    rw [if_pos (by rfl), decide_eq_true (by omega)]
    rfl
  · unfold labels_accepts_s6
    rw [if_neg (by omega)]
    rfl

theorem acc7 (h : Ctx39 g st l v) : ((∀ i, i < (row g v).length → ((lab l v).1 = 1 ∨ (nlab g l v i).1 = 1)) → iter (labels_accepts_s7 2000 g st l v) 2000 0 = labels_accepts_k41 2000 g st l v true) ∧ (¬ (∀ i, i < (row g v).length → ((lab l v).1 = 1 ∨ (nlab g l v i).1 = 1)) → iter (labels_accepts_s7 2000 g st l v) 2000 0 = some false) := by
  have hd := h.deg
  have q1 : (at' g.2 (v : Int)).length = (row g v).length := rfl
  have h6 : ∀ a b : Int × Int, m_labels_accepts_6 2000 (b.1, b.2) a.1 = some (decide (a.1 = 1 ∨ b.1 = 1)) := by
    intro a b
    unfold m_labels_accepts_6 labels_accepts_6_k1
    by_cases ha : a.1 = 1
    · rw [if_pos ha, decide_eq_true (.inl ha)]
    · rw [if_neg ha]; congr 1; exact decide_eq_decide.2 ⟨.inr, fun h => h.resolve_left ha⟩
  refine iter_if (row g v).length (fun i => (lab l v).1 = 1 ∨ (nlab g l v i).1 = 1) (fun k ag hk hp => ?_) (fun k ag hk hp => ?_) (fun ag => ?_) 2000 (by omega)
  · have hn := h.nb hk
    have q2 : (at' (at' g.2 (v : Int)) (k : Int)).1 = (lnk (row g v) k).1 := rfl
    unfold labels_accepts_s7
    rw [if_pos (by omega), ckT (by omega), ckT (by omega), h6, bindS rfl, decide_eq_true hp]
    unfold labels_accepts_k47 labels_accepts_k46
    rw [if_neg (by simp), wr (by omega) (by omega)]
  · have hn := h.nb hk
    have q2 : (at' (at' g.2 (v : Int)) (k : Int)).1 = (lnk (row g v) k).1 := rfl
    unfold labels_accepts_s7
    rw [if_pos (by omega), ckT (by omega), ckT (by omega), h6, bindS rfl, decide_eq_false hp]
    unfold labels_accepts_k47 labels_accepts_k46 labels_accepts_k44
    rw [if_pos (by rfl), decide_eq_true (by omega)]
    rfl
  · unfold labels_accepts_s7
    rw [if_neg (by omega)]
    rfl
end
end Go.Proofs.Ytmajgimhmfeliaa
end
