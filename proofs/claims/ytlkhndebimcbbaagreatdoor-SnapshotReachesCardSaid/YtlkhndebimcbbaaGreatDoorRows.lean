/-
  NARROWER THAN 'FOR EVERY INPUT', by the rows' own cells (each row's printed sentence says how): SnapshotSums: laid · SnapshotInTime: laid · SnapshotReaches: laid.
  DERIVED. THE GIVEN ROWS OF THIS SEAT. 3 by the template 'for every input the law returns true; each argument reads behind the call as it read before'; 0 by the template 'total and deterministic' (their statements: YtlkhndebimcbbaaGreatDoorTotals.lean).
  GIVEN WITH THE SEED: the statements are not yours to turn. If you find one false, say at which input.
  Laid BY PROGRAM, IN A SANDBOX (cutbox-rows.mjs): the forced cells as the released guide's own fill.sh prints them over the translation 573a1036f1b09025… (all of the seat's roots in one cut). By AI agents, Wed Nov 11 2026. No macro, syntax, notation, axiom, sorry.
-/
import Derived.Test.YtlkhndebimcbbaaGreatDoorChecked
import GoSem.Claim
import GoSem.ClaimJoined
import GoSem.ClaimMapViews
import Derived.JoinedTies
import Derived.KernelRfl
namespace Go.Proofs.YtlkhndebimcbbaaGreatDoor
/- THE CELL 'sum', in the pinned program and in every row, IS THE sha256 OF THE DUMP (.gsa) THAT YtlkhndebimcbbaaGreatDoorProg.lean LOADS. Nothing in Lean hashes anything: it is a label: what it is worth is what the hold of that sum in a sandbox is worth. -/
noncomputable def Tryz.pinned : Pinned := { name := "ytlkhndebimcbbaagreatdoor", sum := "573a1036f1b090258eea3de28d36269ba2b95acbe9e8211c7c115bc7d7d6bd4e", checked := Tryz.checked }
namespace Rows
def none {H : Type} : Left H := { results := [], args := [] }

/- WHAT THE LISTED PACKAGE-LEVEL VARIABLES READ AS WHEN THE CALL BEGINS. Each datum BY PROGRAM (the guide's laid-datum.mjs) off the statement by which the dump's own 'gosem.cut.vars' lays the variable. In a bare row this is a premise. The card (YtlkhndebimcbbaaGreatDoorCards.lean) ties it to the program's text. -/
def laid_math_bits_deBruijn32tab {H : Type} : DataW H := .agg [.lit (.int .u8 0), .lit (.int .u8 1), .lit (.int .u8 28), .lit (.int .u8 2), .lit (.int .u8 29), .lit (.int .u8 14), .lit (.int .u8 24), .lit (.int .u8 3), .lit (.int .u8 30), .lit (.int .u8 22), .lit (.int .u8 20), .lit (.int .u8 15), .lit (.int .u8 25), .lit (.int .u8 17), .lit (.int .u8 4), .lit (.int .u8 8), .lit (.int .u8 31), .lit (.int .u8 27), .lit (.int .u8 13), .lit (.int .u8 23), .lit (.int .u8 21), .lit (.int .u8 19), .lit (.int .u8 16), .lit (.int .u8 7), .lit (.int .u8 26), .lit (.int .u8 12), .lit (.int .u8 18), .lit (.int .u8 6), .lit (.int .u8 11), .lit (.int .u8 5), .lit (.int .u8 10), .lit (.int .u8 9)]

/-- 'selfstablaw37.SnapshotSums': WHATEVER THE INPUT: true; the input reads as it did. -/
def snapshotSumsSpec : ChangeSpec := { name := "snapshotSums", fn := fun _ => fun
  | [d1, d2, d3] => { results := [.lit (.bool true)], args := [d1, d2, d3] }
  | _ => none }
def snapshotSumsRow : OpenClaim := { program := "ytlkhndebimcbbaagreatdoor", sum := "573a1036f1b090258eea3de28d36269ba2b95acbe9e8211c7c115bc7d7d6bd4e", func := "selfstab/selfstablaw37.SnapshotSums", spec := "snapshotSums", inPlace := ["internal/bytealg.IndexByteString"], unfollowed := true, recurses := true, named := ["math/bits.deBruijn32tab"], plainKeys := false, apart := false, laid := [("math/bits.deBruijn32tab", laid_math_bits_deBruijn32tab)] }
def SnapshotSumsSaid : Prop := snapshotSumsRow.holds Tryz.pinned (OpenSpec.ofChange snapshotSumsSpec)

/-- ITS FALSE NEIGHBOUR: 'it returns false'. Refute it at one input. -/
def snapshotSumsWrong : ChangeSpec := { name := "snapshotSums", fn := fun _ => fun
  | [d1, d2, d3] => { results := [.lit (.bool false)], args := [d1, d2, d3] }
  | _ => none }
def SnapshotSumsWrongFalsely : Prop := snapshotSumsRow.holds Tryz.pinned (OpenSpec.ofChange snapshotSumsWrong)

/-- 'selfstablaw37.SnapshotInTime': WHATEVER THE INPUT: true; the input reads as it did. -/
def snapshotInTimeSpec : ChangeSpec := { name := "snapshotInTime", fn := fun _ => fun
  | [d1, d2] => { results := [.lit (.bool true)], args := [d1, d2] }
  | _ => none }
def snapshotInTimeRow : OpenClaim := { program := "ytlkhndebimcbbaagreatdoor", sum := "573a1036f1b090258eea3de28d36269ba2b95acbe9e8211c7c115bc7d7d6bd4e", func := "selfstab/selfstablaw37.SnapshotInTime", spec := "snapshotInTime", inPlace := ["internal/bytealg.IndexByteString"], unfollowed := true, recurses := true, named := ["math/bits.deBruijn32tab"], plainKeys := false, apart := false, laid := [("math/bits.deBruijn32tab", laid_math_bits_deBruijn32tab)] }
def SnapshotInTimeSaid : Prop := snapshotInTimeRow.holds Tryz.pinned (OpenSpec.ofChange snapshotInTimeSpec)

/-- ITS FALSE NEIGHBOUR: 'it returns false'. Refute it at one input. -/
def snapshotInTimeWrong : ChangeSpec := { name := "snapshotInTime", fn := fun _ => fun
  | [d1, d2] => { results := [.lit (.bool false)], args := [d1, d2] }
  | _ => none }
def SnapshotInTimeWrongFalsely : Prop := snapshotInTimeRow.holds Tryz.pinned (OpenSpec.ofChange snapshotInTimeWrong)

/-- 'selfstablaw37.SnapshotReaches': WHATEVER THE INPUT: true; the input reads as it did. -/
def snapshotReachesSpec : ChangeSpec := { name := "snapshotReaches", fn := fun _ => fun
  | [d1, d2, d3] => { results := [.lit (.bool true)], args := [d1, d2, d3] }
  | _ => none }
def snapshotReachesRow : OpenClaim := { program := "ytlkhndebimcbbaagreatdoor", sum := "573a1036f1b090258eea3de28d36269ba2b95acbe9e8211c7c115bc7d7d6bd4e", func := "selfstab/selfstablaw37.SnapshotReaches", spec := "snapshotReaches", inPlace := ["internal/bytealg.IndexByteString"], unfollowed := true, recurses := true, named := ["math/bits.deBruijn32tab"], plainKeys := false, apart := false, laid := [("math/bits.deBruijn32tab", laid_math_bits_deBruijn32tab)] }
def SnapshotReachesSaid : Prop := snapshotReachesRow.holds Tryz.pinned (OpenSpec.ofChange snapshotReachesSpec)

/-- ITS FALSE NEIGHBOUR: 'it returns false'. Refute it at one input. -/
def snapshotReachesWrong : ChangeSpec := { name := "snapshotReaches", fn := fun _ => fun
  | [d1, d2, d3] => { results := [.lit (.bool false)], args := [d1, d2, d3] }
  | _ => none }
def SnapshotReachesWrongFalsely : Prop := snapshotReachesRow.holds Tryz.pinned (OpenSpec.ofChange snapshotReachesWrong)

/- THE SECOND FORM. 'bulk': how many values and letters a reading holds, each counted each time it is reached (what is shared counts as often as it is met; a slice's spare places count too). A statement '..UptoSaid' is the law's where the arguments, and the package variables that the reading takes, are together of bulk at most 1048576: NARROWER than '..Said'. Prove '..Said' where nothing that the law and all that it calls make is longer than what came in: it says more and counts as full. Else prove '..UptoSaid'. A law counts once. -/
mutual
def uptoBulk {H : Type} : DataW H → Nat
  | .lit (.string bytes) => bytes.length + 1
  | .lit _ => 1
  | .nil => 1
  | .ptr d => uptoBulk d + 1
  | .slice elems spare => uptoBulkAll elems + uptoBulkAll spare + 1
  | .agg parts => uptoBulkAll parts + 1
  | .iface _ d => uptoBulk d + 1
  | .map entries => uptoBulkEntries entries + 1
  | .held _ => 1
def uptoBulkAll {H : Type} : List (DataW H) → Nat
  | [] => 0
  | d :: r => uptoBulk d + uptoBulkAll r
def uptoBulkEntries {H : Type} : List (Lit × DataW H) → Nat
  | [] => 0
  | x :: r => uptoBulkEntry x + uptoBulkEntries r
def uptoBulkEntry {H : Type} : Lit × DataW H → Nat
  | (.string bytes, d) => bytes.length + uptoBulk d + 1
  | (_, d) => uptoBulk d + 1
 end
def uptoSmall : (H : Type) → List (DataW H) → Bool := fun _ ds => decide (uptoBulkAll ds ≤ 1048576)
def OpenSpec.upto (s : _root_.Go.ChangeSpec) : _root_.Go.OpenSpec := { _root_.Go.OpenSpec.ofChange s with cond := some uptoSmall }

/-- 'selfstablaw37.SnapshotSums', WHERE WHAT IT READS IS OF BULK AT MOST 1048576: true; the input reads as it did. -/
def snapshotSumsUptoRow : OpenClaim := { program := "ytlkhndebimcbbaagreatdoor", sum := "573a1036f1b090258eea3de28d36269ba2b95acbe9e8211c7c115bc7d7d6bd4e", func := "selfstab/selfstablaw37.SnapshotSums", spec := "snapshotSums", inPlace := ["internal/bytealg.IndexByteString"], unfollowed := true, recurses := true, named := ["math/bits.deBruijn32tab"], plainKeys := false, apart := false, laid := [("math/bits.deBruijn32tab", laid_math_bits_deBruijn32tab)], narrowed := true }
def SnapshotSumsUptoSaid : Prop := snapshotSumsUptoRow.holds Tryz.pinned (OpenSpec.upto snapshotSumsSpec)

/-- 'selfstablaw37.SnapshotInTime', WHERE WHAT IT READS IS OF BULK AT MOST 1048576: true; the input reads as it did. -/
def snapshotInTimeUptoRow : OpenClaim := { program := "ytlkhndebimcbbaagreatdoor", sum := "573a1036f1b090258eea3de28d36269ba2b95acbe9e8211c7c115bc7d7d6bd4e", func := "selfstab/selfstablaw37.SnapshotInTime", spec := "snapshotInTime", inPlace := ["internal/bytealg.IndexByteString"], unfollowed := true, recurses := true, named := ["math/bits.deBruijn32tab"], plainKeys := false, apart := false, laid := [("math/bits.deBruijn32tab", laid_math_bits_deBruijn32tab)], narrowed := true }
def SnapshotInTimeUptoSaid : Prop := snapshotInTimeUptoRow.holds Tryz.pinned (OpenSpec.upto snapshotInTimeSpec)

/-- 'selfstablaw37.SnapshotReaches', WHERE WHAT IT READS IS OF BULK AT MOST 1048576: true; the input reads as it did. -/
def snapshotReachesUptoRow : OpenClaim := { program := "ytlkhndebimcbbaagreatdoor", sum := "573a1036f1b090258eea3de28d36269ba2b95acbe9e8211c7c115bc7d7d6bd4e", func := "selfstab/selfstablaw37.SnapshotReaches", spec := "snapshotReaches", inPlace := ["internal/bytealg.IndexByteString"], unfollowed := true, recurses := true, named := ["math/bits.deBruijn32tab"], plainKeys := false, apart := false, laid := [("math/bits.deBruijn32tab", laid_math_bits_deBruijn32tab)], narrowed := true }
def SnapshotReachesUptoSaid : Prop := snapshotReachesUptoRow.holds Tryz.pinned (OpenSpec.upto snapshotReachesSpec)

end Rows
end Go.Proofs.YtlkhndebimcbbaaGreatDoor
