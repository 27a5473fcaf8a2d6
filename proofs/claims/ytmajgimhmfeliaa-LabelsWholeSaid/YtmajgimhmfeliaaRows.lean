/-
  No cell of these rows narrows 'for every input' (looked for: loops, veiled, ifaces, maps, wideKeys, modest, calm, conditions, laid).
  DERIVED. THE GIVEN ROWS OF THIS SEAT. 7 by the template 'for every input the law returns true; each argument reads behind the call as it read before'; 0 by the template 'total and deterministic' (their statements: YtmajgimhmfeliaaTotals.lean).
  GIVEN WITH THE SEED: the statements are not yours to turn. If you find one false, say at which input.
  Laid BY PROGRAM, IN A SANDBOX (cutbox-rows.mjs): the forced cells as the released guide's own fill.sh prints them over the translation 5a7e7004196b42c9… (all of the seat's roots in one cut). By AI agents, Wed Nov 11 2026. No macro, syntax, notation, axiom, sorry.
-/
import Derived.Test.YtmajgimhmfeliaaChecked
import GoSem.Claim
import GoSem.ClaimJoined
import GoSem.ClaimMapViews
import Derived.JoinedTies
import Derived.KernelRfl
namespace Go.Proofs.Ytmajgimhmfeliaa
/- THE CELL 'sum', in the pinned program and in every row, IS THE sha256 OF THE DUMP (.gsa) THAT YtmajgimhmfeliaaProg.lean LOADS. Nothing in Lean hashes anything: it is a label: what it is worth is what the hold of that sum in a sandbox is worth. -/
noncomputable def Try.pinned : Pinned := { name := "ytmajgimhmfeliaa", sum := "5a7e7004196b42c95f00a7674c015976a661f4ca751f9e9d7802d13ba59570a4", checked := Try.checked }
namespace Rows
def none {H : Type} : Left H := { results := [], args := [] }

/-- 'selfstablaw39.LabelsCover': WHATEVER THE INPUT: true; the input reads as it did. -/
def labelsCoverSpec : ChangeSpec := { name := "labelsCover", fn := fun _ => fun
  | [d1, d2, d3] => { results := [.lit (.bool true)], args := [d1, d2, d3] }
  | _ => none }
def labelsCoverRow : OpenClaim := { program := "ytmajgimhmfeliaa", sum := "5a7e7004196b42c95f00a7674c015976a661f4ca751f9e9d7802d13ba59570a4", func := "selfstab/selfstablaw39.LabelsCover", spec := "labelsCover", unfollowed := true, recurses := true, plainKeys := false, apart := false }
def LabelsCoverSaid : Prop := labelsCoverRow.holds Try.pinned (OpenSpec.ofChange labelsCoverSpec)

/-- ITS FALSE NEIGHBOUR: 'it returns false'. Refute it at one input. -/
def labelsCoverWrong : ChangeSpec := { name := "labelsCover", fn := fun _ => fun
  | [d1, d2, d3] => { results := [.lit (.bool false)], args := [d1, d2, d3] }
  | _ => none }
def LabelsCoverWrongFalsely : Prop := labelsCoverRow.holds Try.pinned (OpenSpec.ofChange labelsCoverWrong)

/-- 'selfstablaw39.LabelsHold': WHATEVER THE INPUT: true; the input reads as it did. -/
def labelsHoldSpec : ChangeSpec := { name := "labelsHold", fn := fun _ => fun
  | [d1, d2, d3] => { results := [.lit (.bool true)], args := [d1, d2, d3] }
  | _ => none }
def labelsHoldRow : OpenClaim := { program := "ytmajgimhmfeliaa", sum := "5a7e7004196b42c95f00a7674c015976a661f4ca751f9e9d7802d13ba59570a4", func := "selfstab/selfstablaw39.LabelsHold", spec := "labelsHold", unfollowed := true, recurses := true, plainKeys := false, apart := false }
def LabelsHoldSaid : Prop := labelsHoldRow.holds Try.pinned (OpenSpec.ofChange labelsHoldSpec)

/-- ITS FALSE NEIGHBOUR: 'it returns false'. Refute it at one input. -/
def labelsHoldWrong : ChangeSpec := { name := "labelsHold", fn := fun _ => fun
  | [d1, d2, d3] => { results := [.lit (.bool false)], args := [d1, d2, d3] }
  | _ => none }
def LabelsHoldWrongFalsely : Prop := labelsHoldRow.holds Try.pinned (OpenSpec.ofChange labelsHoldWrong)

/-- 'selfstablaw39.LabelsAccept': WHATEVER THE INPUT: true; the input reads as it did. -/
def labelsAcceptSpec : ChangeSpec := { name := "labelsAccept", fn := fun _ => fun
  | [d1, d2, d3] => { results := [.lit (.bool true)], args := [d1, d2, d3] }
  | _ => none }
def labelsAcceptRow : OpenClaim := { program := "ytmajgimhmfeliaa", sum := "5a7e7004196b42c95f00a7674c015976a661f4ca751f9e9d7802d13ba59570a4", func := "selfstab/selfstablaw39.LabelsAccept", spec := "labelsAccept", unfollowed := true, recurses := true, plainKeys := false, apart := false }
def LabelsAcceptSaid : Prop := labelsAcceptRow.holds Try.pinned (OpenSpec.ofChange labelsAcceptSpec)

/-- ITS FALSE NEIGHBOUR: 'it returns false'. Refute it at one input. -/
def labelsAcceptWrong : ChangeSpec := { name := "labelsAccept", fn := fun _ => fun
  | [d1, d2, d3] => { results := [.lit (.bool false)], args := [d1, d2, d3] }
  | _ => none }
def LabelsAcceptWrongFalsely : Prop := labelsAcceptRow.holds Try.pinned (OpenSpec.ofChange labelsAcceptWrong)

/-- 'selfstablaw39.LabelsStrange': WHATEVER THE INPUT: true; the input reads as it did. -/
def labelsStrangeSpec : ChangeSpec := { name := "labelsStrange", fn := fun _ => fun
  | [d1, d2, d3] => { results := [.lit (.bool true)], args := [d1, d2, d3] }
  | _ => none }
def labelsStrangeRow : OpenClaim := { program := "ytmajgimhmfeliaa", sum := "5a7e7004196b42c95f00a7674c015976a661f4ca751f9e9d7802d13ba59570a4", func := "selfstab/selfstablaw39.LabelsStrange", spec := "labelsStrange", unfollowed := true, recurses := true, plainKeys := false, apart := false }
def LabelsStrangeSaid : Prop := labelsStrangeRow.holds Try.pinned (OpenSpec.ofChange labelsStrangeSpec)

/-- ITS FALSE NEIGHBOUR: 'it returns false'. Refute it at one input. -/
def labelsStrangeWrong : ChangeSpec := { name := "labelsStrange", fn := fun _ => fun
  | [d1, d2, d3] => { results := [.lit (.bool false)], args := [d1, d2, d3] }
  | _ => none }
def LabelsStrangeWrongFalsely : Prop := labelsStrangeRow.holds Try.pinned (OpenSpec.ofChange labelsStrangeWrong)

/-- 'selfstablaw39.LabelsComplete': WHATEVER THE INPUT: true; the input reads as it did. -/
def labelsCompleteSpec : ChangeSpec := { name := "labelsComplete", fn := fun _ => fun
  | [d1, d2] => { results := [.lit (.bool true)], args := [d1, d2] }
  | _ => none }
def labelsCompleteRow : OpenClaim := { program := "ytmajgimhmfeliaa", sum := "5a7e7004196b42c95f00a7674c015976a661f4ca751f9e9d7802d13ba59570a4", func := "selfstab/selfstablaw39.LabelsComplete", spec := "labelsComplete", unfollowed := true, recurses := true, plainKeys := false, apart := false }
def LabelsCompleteSaid : Prop := labelsCompleteRow.holds Try.pinned (OpenSpec.ofChange labelsCompleteSpec)

/-- ITS FALSE NEIGHBOUR: 'it returns false'. Refute it at one input. -/
def labelsCompleteWrong : ChangeSpec := { name := "labelsComplete", fn := fun _ => fun
  | [d1, d2] => { results := [.lit (.bool false)], args := [d1, d2] }
  | _ => none }
def LabelsCompleteWrongFalsely : Prop := labelsCompleteRow.holds Try.pinned (OpenSpec.ofChange labelsCompleteWrong)

/-- 'selfstablaw39.LabelsSound': WHATEVER THE INPUT: true; the input reads as it did. -/
def labelsSoundSpec : ChangeSpec := { name := "labelsSound", fn := fun _ => fun
  | [d1, d2] => { results := [.lit (.bool true)], args := [d1, d2] }
  | _ => none }
def labelsSoundRow : OpenClaim := { program := "ytmajgimhmfeliaa", sum := "5a7e7004196b42c95f00a7674c015976a661f4ca751f9e9d7802d13ba59570a4", func := "selfstab/selfstablaw39.LabelsSound", spec := "labelsSound", unfollowed := true, recurses := true, plainKeys := false, apart := false }
def LabelsSoundSaid : Prop := labelsSoundRow.holds Try.pinned (OpenSpec.ofChange labelsSoundSpec)

/-- ITS FALSE NEIGHBOUR: 'it returns false'. Refute it at one input. -/
def labelsSoundWrong : ChangeSpec := { name := "labelsSound", fn := fun _ => fun
  | [d1, d2] => { results := [.lit (.bool false)], args := [d1, d2] }
  | _ => none }
def LabelsSoundWrongFalsely : Prop := labelsSoundRow.holds Try.pinned (OpenSpec.ofChange labelsSoundWrong)

/-- 'selfstablaw39.LabelsWhole': WHATEVER THE INPUT: true; the input reads as it did. -/
def labelsWholeSpec : ChangeSpec := { name := "labelsWhole", fn := fun _ => fun
  | [d1, d2] => { results := [.lit (.bool true)], args := [d1, d2] }
  | _ => none }
def labelsWholeRow : OpenClaim := { program := "ytmajgimhmfeliaa", sum := "5a7e7004196b42c95f00a7674c015976a661f4ca751f9e9d7802d13ba59570a4", func := "selfstab/selfstablaw39.LabelsWhole", spec := "labelsWhole", unfollowed := true, recurses := true, plainKeys := false, apart := false }
def LabelsWholeSaid : Prop := labelsWholeRow.holds Try.pinned (OpenSpec.ofChange labelsWholeSpec)

/-- ITS FALSE NEIGHBOUR: 'it returns false'. Refute it at one input. -/
def labelsWholeWrong : ChangeSpec := { name := "labelsWhole", fn := fun _ => fun
  | [d1, d2] => { results := [.lit (.bool false)], args := [d1, d2] }
  | _ => none }
def LabelsWholeWrongFalsely : Prop := labelsWholeRow.holds Try.pinned (OpenSpec.ofChange labelsWholeWrong)

/- THE SECOND FORM. 'bulk': how many values and letters a reading holds, each counted each time it is reached (what is shared counts as often as it is met; a slice's spare places count too). A statement '..UptoSaid' is the law's where the arguments, and the package variables that the reading takes, are together of bulk at most 1048576: NARROWER than '..Said'. Prove '..Said' where nothing that the law and all that it calls make is longer than what came in: it says more and counts as full. Else prove '..UptoSaid'. A law counts once. -/
mutual
def uptoBulk {H : Type} : DataW H → Nat
  | .lit (.string bytes) => bytes.length + 1
  | .lit _ => 1
  | .nil => 1
  | .ptr d => uptoBulk d + 1
  | .slice elems spare => uptoBulkAll elems + uptoBulkAll spare + 1
  | .agg parts => uptoBulkAll parts + 1
  | .iface _ d => uptoBulk d + 1
  | .map entries => uptoBulkEntries entries + 1
  | .held _ => 1
def uptoBulkAll {H : Type} : List (DataW H) → Nat
  | [] => 0
  | d :: r => uptoBulk d + uptoBulkAll r
def uptoBulkEntries {H : Type} : List (Lit × DataW H) → Nat
  | [] => 0
  | x :: r => uptoBulkEntry x + uptoBulkEntries r
def uptoBulkEntry {H : Type} : Lit × DataW H → Nat
  | (.string bytes, d) => bytes.length + uptoBulk d + 1
  | (_, d) => uptoBulk d + 1
 end
def uptoSmall : (H : Type) → List (DataW H) → Bool := fun _ ds => decide (uptoBulkAll ds ≤ 1048576)
def OpenSpec.upto (s : _root_.Go.ChangeSpec) : _root_.Go.OpenSpec := { _root_.Go.OpenSpec.ofChange s with cond := some uptoSmall }

/-- 'selfstablaw39.LabelsCover', WHERE WHAT IT READS IS OF BULK AT MOST 1048576: true; the input reads as it did. -/
def labelsCoverUptoRow : OpenClaim := { program := "ytmajgimhmfeliaa", sum := "5a7e7004196b42c95f00a7674c015976a661f4ca751f9e9d7802d13ba59570a4", func := "selfstab/selfstablaw39.LabelsCover", spec := "labelsCover", unfollowed := true, recurses := true, plainKeys := false, apart := false, narrowed := true }
def LabelsCoverUptoSaid : Prop := labelsCoverUptoRow.holds Try.pinned (OpenSpec.upto labelsCoverSpec)

/-- 'selfstablaw39.LabelsHold', WHERE WHAT IT READS IS OF BULK AT MOST 1048576: true; the input reads as it did. -/
def labelsHoldUptoRow : OpenClaim := { program := "ytmajgimhmfeliaa", sum := "5a7e7004196b42c95f00a7674c015976a661f4ca751f9e9d7802d13ba59570a4", func := "selfstab/selfstablaw39.LabelsHold", spec := "labelsHold", unfollowed := true, recurses := true, plainKeys := false, apart := false, narrowed := true }
def LabelsHoldUptoSaid : Prop := labelsHoldUptoRow.holds Try.pinned (OpenSpec.upto labelsHoldSpec)

/-- 'selfstablaw39.LabelsAccept', WHERE WHAT IT READS IS OF BULK AT MOST 1048576: true; the input reads as it did. -/
def labelsAcceptUptoRow : OpenClaim := { program := "ytmajgimhmfeliaa", sum := "5a7e7004196b42c95f00a7674c015976a661f4ca751f9e9d7802d13ba59570a4", func := "selfstab/selfstablaw39.LabelsAccept", spec := "labelsAccept", unfollowed := true, recurses := true, plainKeys := false, apart := false, narrowed := true }
def LabelsAcceptUptoSaid : Prop := labelsAcceptUptoRow.holds Try.pinned (OpenSpec.upto labelsAcceptSpec)

/-- 'selfstablaw39.LabelsStrange', WHERE WHAT IT READS IS OF BULK AT MOST 1048576: true; the input reads as it did. -/
def labelsStrangeUptoRow : OpenClaim := { program := "ytmajgimhmfeliaa", sum := "5a7e7004196b42c95f00a7674c015976a661f4ca751f9e9d7802d13ba59570a4", func := "selfstab/selfstablaw39.LabelsStrange", spec := "labelsStrange", unfollowed := true, recurses := true, plainKeys := false, apart := false, narrowed := true }
def LabelsStrangeUptoSaid : Prop := labelsStrangeUptoRow.holds Try.pinned (OpenSpec.upto labelsStrangeSpec)

/-- 'selfstablaw39.LabelsComplete', WHERE WHAT IT READS IS OF BULK AT MOST 1048576: true; the input reads as it did. -/
def labelsCompleteUptoRow : OpenClaim := { program := "ytmajgimhmfeliaa", sum := "5a7e7004196b42c95f00a7674c015976a661f4ca751f9e9d7802d13ba59570a4", func := "selfstab/selfstablaw39.LabelsComplete", spec := "labelsComplete", unfollowed := true, recurses := true, plainKeys := false, apart := false, narrowed := true }
def LabelsCompleteUptoSaid : Prop := labelsCompleteUptoRow.holds Try.pinned (OpenSpec.upto labelsCompleteSpec)

/-- 'selfstablaw39.LabelsSound', WHERE WHAT IT READS IS OF BULK AT MOST 1048576: true; the input reads as it did. -/
def labelsSoundUptoRow : OpenClaim := { program := "ytmajgimhmfeliaa", sum := "5a7e7004196b42c95f00a7674c015976a661f4ca751f9e9d7802d13ba59570a4", func := "selfstab/selfstablaw39.LabelsSound", spec := "labelsSound", unfollowed := true, recurses := true, plainKeys := false, apart := false, narrowed := true }
def LabelsSoundUptoSaid : Prop := labelsSoundUptoRow.holds Try.pinned (OpenSpec.upto labelsSoundSpec)

/-- 'selfstablaw39.LabelsWhole', WHERE WHAT IT READS IS OF BULK AT MOST 1048576: true; the input reads as it did. -/
def labelsWholeUptoRow : OpenClaim := { program := "ytmajgimhmfeliaa", sum := "5a7e7004196b42c95f00a7674c015976a661f4ca751f9e9d7802d13ba59570a4", func := "selfstab/selfstablaw39.LabelsWhole", spec := "labelsWhole", unfollowed := true, recurses := true, plainKeys := false, apart := false, narrowed := true }
def LabelsWholeUptoSaid : Prop := labelsWholeUptoRow.holds Try.pinned (OpenSpec.upto labelsWholeSpec)

end Rows
end Go.Proofs.Ytmajgimhmfeliaa
