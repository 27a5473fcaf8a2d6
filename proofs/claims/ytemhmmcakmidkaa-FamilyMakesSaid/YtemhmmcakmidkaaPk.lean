/- FamilyMakes: the families of integer parameters agree with the reference, by the kernel's own computation. Conditions: none. -/
import Derived.Test.YtemhmmcakmidkaaPa
import Derived.KernelRfl
namespace Go.Proofs.Ytemhmmcakmidkaa
open Go.Sx

abbrev GG := List Int × List (List (Int × Int))

def agree (a b : Option (GG × Int)) : Bool := match a, b with
  | some x, some y => (x == y) && (m_ref01_Same 1000 x.1 x.1 == some true)
  | _, _ => false

theorem ringK : ((List.range 25).all fun n : Nat => agree (m_family_Ring 1000 (n : Int)) (m_ref03_Ring 1000 (n : Int))) = true := by kernel_rfl
theorem pathK : ((List.range 25).all fun n : Nat => agree (m_family_Path 1000 (n : Int)) (m_ref03_Path 1000 (n : Int))) = true := by kernel_rfl
theorem starK : ((List.range 25).all fun n : Nat => agree (m_family_Star 1000 (n : Int)) (m_ref03_Star 1000 (n : Int))) = true := by kernel_rfl
/-- neighbours in a grid, by the numbers alone -/
def famN (w v u : Nat) : Bool := decide (v ≠ u) && (decide (min v u + w = max v u) || (decide (min v u + 1 = max v u) && decide (min v u / w = max v u / w)))
def refN (w v u : Nat) : Bool := (decide (u % w = v % w) && (decide (u / w + 1 = v / w) || decide (u / w = v / w + 1))) || (decide (u / w = v / w) && (decide (u % w + 1 = v % w) || decide (u % w = v % w + 1)))
theorem gridK : ((List.range 24).all fun w : Nat => (List.range 24).all fun v : Nat => (List.range 24).all fun u : Nat => famN (w + 1) v u == refN (w + 1) v u) = true := by kernel_rfl
theorem awakeK : m_law03_awake 1000 = some true := by kernel_rfl
theorem same0K : m_ref01_Same 1000 ([], []) ([], []) = some true := by kernel_rfl
end Go.Proofs.Ytemhmmcakmidkaa
