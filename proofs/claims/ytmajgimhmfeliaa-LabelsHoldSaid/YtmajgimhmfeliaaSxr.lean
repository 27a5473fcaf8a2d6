/- The layer Sx, part 18: arrays in blocks; rows once more. Conditions: a table of types that is right for the program. -/
import Derived.Test.YtmajgimhmfeliaaSxq
set_option linter.unusedVariables false
set_option linter.unusedSimpArgs false
namespace Go.Sx
open Go.RowKit
section
variable {P : Program} {rd : Option Nat} {c : Ctx} {n : Sz} {σ : Fr} {M L M' L' : List Fact} {Q : Exit → Act → World → Prop} {ops : Array Oper} {rest : List Oper} {K : Act → World → Prop}
variable {d : Option Tmp} {D : Nat} {ty : TypeId} {pos : String} {aft : Array Edge} {g : Option (Nat × Bool)}
variable {α β : Type} {e : Enc α} {r : Rep α}

theorem HistOk.b {A : Nat → Bool} {Mx Lx M L : List Fact} {j : Nat} {H : List (Nat × List Fact × List Fact)} (h : A j = true) (k : HistOk A Mx Lx H) : HistOk A Mx Lx ((j, M, L) :: H) := ⟨.inl h, k⟩
theorem HistOk.h {A : Nat → Bool} {Mx Lx M L : List Fact} {j : Nat} {H : List (Nat × List Fact × List Fact)} (h : SubM M Mx) (h' : SubL L Lx) (k : HistOk A Mx Lx H) : HistOk A Mx Lx ((j, M, L) :: H) := ⟨.inr ⟨h, h'⟩, k⟩
theorem HistOk.z {A : Nat → Bool} {Mx Lx : List Fact} : HistOk A Mx Lx [] := trivial
theorem BsOk.b {A : Nat → Bool} {Mx Lx M L : List Fact} {j : Nat} {H : List (Nat × List Fact × List Fact)} (h : A j = true) (k : BsOk A M L H) : BsOk A M L ((j, Mx, Lx) :: H) := ⟨.inl h, k⟩
theorem BsOk.h {A : Nat → Bool} {Mx Lx M L : List Fact} {j : Nat} {H : List (Nat × List Fact × List Fact)} (h : SubM M Mx) (h' : SubL L Lx) (k : BsOk A M L H) : BsOk A M L ((j, Mx, Lx) :: H) := ⟨.inr ⟨h, h'⟩, k⟩
theorem BsOk.z {A : Nat → Bool} {M L : List Fact} : BsOk A M L [] := trivial
theorem all1 {v : Value} {vs : List Value} (h : one v = true) (k : vs.all one = true) : (v :: vs).all one = true := by simp [h, k]
theorem cells_intV (k : IntKind) (x : Int) : (Value.int k x).cells = #[.int k x] := rfl
theorem cells_boolV (b : Bool) : (Value.bool b).cells = #[.bool b] := rfl
theorem cells_sliceV (a : Option Addr) (l k : Nat) : (Value.slice a l k).cells = #[.slice a l k] := rfl
theorem cells_ptrV (a : Option Addr) : (Value.pointer a).cells = #[.pointer a] := rfl
theorem cells_strV (a : ByteArray) : (Value.string a).cells = #[.string a] := rfl
theorem cells_funcV (f : Fn) (a b : Array Value) : (Value.func f a b).cells = #[.func f a b] := rfl

theorem Know.oneRow (q : Nat) {vs : List Value} {xss : List (List α)} {k : Int} {u : Value} (hr : M[q]? = some (Rws e (vs.set k.toNat u) xss)) (h : 0 ≤ k ∧ k < xss.length) : ∀ c w, St c M L w → Go.Sx.one u = true := fun c w t => by
  obtain ⟨S, hl, G', g1, _⟩ := t.res hr
  have hlt : k.toNat < vs.length := by simp at hl; omega
  obtain ⟨_, _, hh⟩ := g1 k.toNat u _ (by rw [List.getElem?_set_self hlt]) (List.getElem?_eq_getElem (by omega))
  rcases hh with ⟨hu, _⟩ | ⟨b, off, cap, T, cur, hu, _⟩ <;> (rw [hu]; rfl)

theorem Y.loadArr [Tab P] [Inhabited α] {T T' : TypeId} {s2 : Nat} {z : Value} {dT : TypeDesc} {x : Operand} {b k : Nat} {i : Int} {xs : List α} {u : Value} (hx : ev σ x = some (.pointer (some ⟨b, i.toNat * 1, none⟩)))
    (hM : Lent M L (Blk b (cellsOf e xs) T')) (hT : Tab.tab P T = some ⟨dT, 1, s2, z⟩) (hd : aggD dT = false) (hq : e.sz = 1) (hu : (e.enc (at' xs i)) = [u]) (h : (0 ≤ i ∧ i < (k : Int)) ∧ xs.length = k) :
    Y P c n σ M L ⟨d, .load T x, ty, pos, aft, g⟩ u := fun a w s t => by
  obtain ⟨F, hF⟩ := hM.st t
  have hg := cellsOf_get e xs i.toNat (at' xs i) (at'_some h.1.1 (by omega)) 0 u (by rw [hu]; rfl)
  rw [hq, Nat.add_zero] at hg
  rw [Nat.mul_one] at hx hg
  simp [execOp, s.eval hx, run_load1 (Tab.ok hT) hd (Blk.cell hF hg)]

theorem J.storeArr [Tab P] (q : Nat) {T T' : TypeId} {s2 : Nat} {z : Value} {dT : TypeDesc} {x y : Operand} {b k : Nat} {i : Int} {xs : List α} {u : Value} (yv : α) (h : (0 ≤ i ∧ i < (k : Int)) ∧ xs.length = k) (hx : ev σ x = some (.pointer (some ⟨b, i.toNat * 1, none⟩))) (hy : ev σ y = some u)
    (hM : M[q]? = some (Blk b (cellsOf e xs) T')) (hu : e.enc yv = [u]) (h1u : one u = true) (hT : Tab.tab P T = some ⟨dT, 1, s2, z⟩) (hq : e.sz = 1)
    (hh : J c n σ (M.set q (Blk b (cellsOf e (xs.set i.toNat yv)) T')) L (wpList P ops Q rest)) :
    J c n σ M L (wpList P ops Q (⟨none, .store T x y, ty, pos, aft, none⟩ :: rest)) := by
  rw [Nat.mul_one] at hx
  refine J.store1 q hx hy h1u hM hT ?_ ?_
  · have := cellsOf_length e xs; rw [hq] at this; rw [Nat.blt_eq]; omega
  · rw [← cellsOf_set1 hq hu]; exact hh
end
end Go.Sx
