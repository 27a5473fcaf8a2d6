/-
  NARROWER THAN 'FOR EVERY INPUT', by the rows' own cells (each row's printed sentence says how): CrashDistances: laid · CrashRounds: laid · CrashColours: laid · CrashMembers: laid.
  DERIVED. THE GIVEN ROWS OF THIS SEAT. 4 by the template 'for every input the law returns true; each argument reads behind the call as it read before'; 0 by the template 'total and deterministic' (their statements: YtigggfnchamobaaGreatDoorTotals.lean).
  GIVEN WITH THE SEED: the statements are not yours to turn. If you find one false, say at which input.
  Laid BY PROGRAM, IN A SANDBOX (cutbox-rows.mjs): the forced cells as the released guide's own fill.sh prints them over the translation 81c5e3fe9732bfbc… (all of the seat's roots in one cut). By AI agents, Wed Nov 11 2026. No macro, syntax, notation, axiom, sorry.
-/
import Derived.Test.YtigggfnchamobaaGreatDoorChecked
import GoSem.Claim
import GoSem.ClaimJoined
import GoSem.ClaimMapViews
import Derived.JoinedTies
import Derived.KernelRfl
namespace Go.Proofs.YtigggfnchamobaaGreatDoor
/- THE CELL 'sum', in the pinned program and in every row, IS THE sha256 OF THE DUMP (.gsa) THAT YtigggfnchamobaaGreatDoorProg.lean LOADS. Nothing in Lean hashes anything: it is a label: what it is worth is what the hold of that sum in a sandbox is worth. -/
noncomputable def Tryz.pinned : Pinned := { name := "ytigggfnchamobaagreatdoor", sum := "81c5e3fe9732bfbc41671478117360018927cae6543aa22bccd71936a595f80b", checked := Tryz.checked }
namespace Rows
def none {H : Type} : Left H := { results := [], args := [] }

/- WHAT THE LISTED PACKAGE-LEVEL VARIABLES READ AS WHEN THE CALL BEGINS. Each datum BY PROGRAM (the guide's laid-datum.mjs) off the statement by which the dump's own 'gosem.cut.vars' lays the variable. In a bare row this is a premise. The card (YtigggfnchamobaaGreatDoorCards.lean) ties it to the program's text. -/
def laid_math_bits_deBruijn32tab {H : Type} : DataW H := .agg [.lit (.int .u8 0), .lit (.int .u8 1), .lit (.int .u8 28), .lit (.int .u8 2), .lit (.int .u8 29), .lit (.int .u8 14), .lit (.int .u8 24), .lit (.int .u8 3), .lit (.int .u8 30), .lit (.int .u8 22), .lit (.int .u8 20), .lit (.int .u8 15), .lit (.int .u8 25), .lit (.int .u8 17), .lit (.int .u8 4), .lit (.int .u8 8), .lit (.int .u8 31), .lit (.int .u8 27), .lit (.int .u8 13), .lit (.int .u8 23), .lit (.int .u8 21), .lit (.int .u8 19), .lit (.int .u8 16), .lit (.int .u8 7), .lit (.int .u8 26), .lit (.int .u8 12), .lit (.int .u8 18), .lit (.int .u8 6), .lit (.int .u8 11), .lit (.int .u8 5), .lit (.int .u8 10), .lit (.int .u8 9)]

/-- 'selfstablaw44.CrashDistances': WHATEVER THE INPUT: true; the input reads as it did. -/
def crashDistancesSpec : ChangeSpec := { name := "crashDistances", fn := fun _ => fun
  | [d1, d2, d3] => { results := [.lit (.bool true)], args := [d1, d2, d3] }
  | _ => none }
def crashDistancesRow : OpenClaim := { program := "ytigggfnchamobaagreatdoor", sum := "81c5e3fe9732bfbc41671478117360018927cae6543aa22bccd71936a595f80b", func := "selfstab/selfstablaw44.CrashDistances", spec := "crashDistances", inPlace := ["internal/bytealg.IndexByteString"], unfollowed := true, recurses := true, named := ["math/bits.deBruijn32tab"], plainKeys := false, apart := false, laid := [("math/bits.deBruijn32tab", laid_math_bits_deBruijn32tab)] }
def CrashDistancesSaid : Prop := crashDistancesRow.holds Tryz.pinned (OpenSpec.ofChange crashDistancesSpec)

/-- ITS FALSE NEIGHBOUR: 'it returns false'. Refute it at one input. -/
def crashDistancesWrong : ChangeSpec := { name := "crashDistances", fn := fun _ => fun
  | [d1, d2, d3] => { results := [.lit (.bool false)], args := [d1, d2, d3] }
  | _ => none }
def CrashDistancesWrongFalsely : Prop := crashDistancesRow.holds Tryz.pinned (OpenSpec.ofChange crashDistancesWrong)

/-- 'selfstablaw44.CrashRounds': WHATEVER THE INPUT: true; the input reads as it did. -/
def crashRoundsSpec : ChangeSpec := { name := "crashRounds", fn := fun _ => fun
  | [d1, d2, d3, d4] => { results := [.lit (.bool true)], args := [d1, d2, d3, d4] }
  | _ => none }
def crashRoundsRow : OpenClaim := { program := "ytigggfnchamobaagreatdoor", sum := "81c5e3fe9732bfbc41671478117360018927cae6543aa22bccd71936a595f80b", func := "selfstab/selfstablaw44.CrashRounds", spec := "crashRounds", inPlace := ["internal/bytealg.IndexByteString"], unfollowed := true, recurses := true, named := ["math/bits.deBruijn32tab"], plainKeys := false, apart := false, laid := [("math/bits.deBruijn32tab", laid_math_bits_deBruijn32tab)] }
def CrashRoundsSaid : Prop := crashRoundsRow.holds Tryz.pinned (OpenSpec.ofChange crashRoundsSpec)

/-- ITS FALSE NEIGHBOUR: 'it returns false'. Refute it at one input. -/
def crashRoundsWrong : ChangeSpec := { name := "crashRounds", fn := fun _ => fun
  | [d1, d2, d3, d4] => { results := [.lit (.bool false)], args := [d1, d2, d3, d4] }
  | _ => none }
def CrashRoundsWrongFalsely : Prop := crashRoundsRow.holds Tryz.pinned (OpenSpec.ofChange crashRoundsWrong)

/-- 'selfstablaw44.CrashColours': WHATEVER THE INPUT: true; the input reads as it did. -/
def crashColoursSpec : ChangeSpec := { name := "crashColours", fn := fun _ => fun
  | [d1, d2, d3, d4] => { results := [.lit (.bool true)], args := [d1, d2, d3, d4] }
  | _ => none }
def crashColoursRow : OpenClaim := { program := "ytigggfnchamobaagreatdoor", sum := "81c5e3fe9732bfbc41671478117360018927cae6543aa22bccd71936a595f80b", func := "selfstab/selfstablaw44.CrashColours", spec := "crashColours", inPlace := ["internal/bytealg.IndexByteString"], unfollowed := true, recurses := true, named := ["math/bits.deBruijn32tab"], plainKeys := false, apart := false, laid := [("math/bits.deBruijn32tab", laid_math_bits_deBruijn32tab)] }
def CrashColoursSaid : Prop := crashColoursRow.holds Tryz.pinned (OpenSpec.ofChange crashColoursSpec)

/-- ITS FALSE NEIGHBOUR: 'it returns false'. Refute it at one input. -/
def crashColoursWrong : ChangeSpec := { name := "crashColours", fn := fun _ => fun
  | [d1, d2, d3, d4] => { results := [.lit (.bool false)], args := [d1, d2, d3, d4] }
  | _ => none }
def CrashColoursWrongFalsely : Prop := crashColoursRow.holds Tryz.pinned (OpenSpec.ofChange crashColoursWrong)

/-- 'selfstablaw44.CrashMembers': WHATEVER THE INPUT: true; the input reads as it did. -/
def crashMembersSpec : ChangeSpec := { name := "crashMembers", fn := fun _ => fun
  | [d1, d2, d3, d4] => { results := [.lit (.bool true)], args := [d1, d2, d3, d4] }
  | _ => none }
def crashMembersRow : OpenClaim := { program := "ytigggfnchamobaagreatdoor", sum := "81c5e3fe9732bfbc41671478117360018927cae6543aa22bccd71936a595f80b", func := "selfstab/selfstablaw44.CrashMembers", spec := "crashMembers", inPlace := ["internal/bytealg.IndexByteString"], unfollowed := true, recurses := true, named := ["math/bits.deBruijn32tab"], plainKeys := false, apart := false, laid := [("math/bits.deBruijn32tab", laid_math_bits_deBruijn32tab)] }
def CrashMembersSaid : Prop := crashMembersRow.holds Tryz.pinned (OpenSpec.ofChange crashMembersSpec)

/-- ITS FALSE NEIGHBOUR: 'it returns false'. Refute it at one input. -/
def crashMembersWrong : ChangeSpec := { name := "crashMembers", fn := fun _ => fun
  | [d1, d2, d3, d4] => { results := [.lit (.bool false)], args := [d1, d2, d3, d4] }
  | _ => none }
def CrashMembersWrongFalsely : Prop := crashMembersRow.holds Tryz.pinned (OpenSpec.ofChange crashMembersWrong)

/- THE SECOND FORM. 'bulk': how many values and letters a reading holds, each counted each time it is reached (what is shared counts as often as it is met; a slice's spare places count too). A statement '..UptoSaid' is the law's where the arguments, and the package variables that the reading takes, are together of bulk at most 1048576: NARROWER than '..Said'. Prove '..Said' where nothing that the law and all that it calls make is longer than what came in: it says more and counts as full. Else prove '..UptoSaid'. A law counts once. -/
mutual
def uptoBulk {H : Type} : DataW H → Nat
  | .lit (.string bytes) => bytes.length + 1
  | .lit _ => 1
  | .nil => 1
  | .ptr d => uptoBulk d + 1
  | .slice elems spare => uptoBulkAll elems + uptoBulkAll spare + 1
  | .agg parts => uptoBulkAll parts + 1
  | .iface _ d => uptoBulk d + 1
  | .map entries => uptoBulkEntries entries + 1
  | .held _ => 1
def uptoBulkAll {H : Type} : List (DataW H) → Nat
  | [] => 0
  | d :: r => uptoBulk d + uptoBulkAll r
def uptoBulkEntries {H : Type} : List (Lit × DataW H) → Nat
  | [] => 0
  | x :: r => uptoBulkEntry x + uptoBulkEntries r
def uptoBulkEntry {H : Type} : Lit × DataW H → Nat
  | (.string bytes, d) => bytes.length + uptoBulk d + 1
  | (_, d) => uptoBulk d + 1
 end
def uptoSmall : (H : Type) → List (DataW H) → Bool := fun _ ds => decide (uptoBulkAll ds ≤ 1048576)
def OpenSpec.upto (s : _root_.Go.ChangeSpec) : _root_.Go.OpenSpec := { _root_.Go.OpenSpec.ofChange s with cond := some uptoSmall }

/-- 'selfstablaw44.CrashDistances', WHERE WHAT IT READS IS OF BULK AT MOST 1048576: true; the input reads as it did. -/
def crashDistancesUptoRow : OpenClaim := { program := "ytigggfnchamobaagreatdoor", sum := "81c5e3fe9732bfbc41671478117360018927cae6543aa22bccd71936a595f80b", func := "selfstab/selfstablaw44.CrashDistances", spec := "crashDistances", inPlace := ["internal/bytealg.IndexByteString"], unfollowed := true, recurses := true, named := ["math/bits.deBruijn32tab"], plainKeys := false, apart := false, laid := [("math/bits.deBruijn32tab", laid_math_bits_deBruijn32tab)], narrowed := true }
def CrashDistancesUptoSaid : Prop := crashDistancesUptoRow.holds Tryz.pinned (OpenSpec.upto crashDistancesSpec)

/-- 'selfstablaw44.CrashRounds', WHERE WHAT IT READS IS OF BULK AT MOST 1048576: true; the input reads as it did. -/
def crashRoundsUptoRow : OpenClaim := { program := "ytigggfnchamobaagreatdoor", sum := "81c5e3fe9732bfbc41671478117360018927cae6543aa22bccd71936a595f80b", func := "selfstab/selfstablaw44.CrashRounds", spec := "crashRounds", inPlace := ["internal/bytealg.IndexByteString"], unfollowed := true, recurses := true, named := ["math/bits.deBruijn32tab"], plainKeys := false, apart := false, laid := [("math/bits.deBruijn32tab", laid_math_bits_deBruijn32tab)], narrowed := true }
def CrashRoundsUptoSaid : Prop := crashRoundsUptoRow.holds Tryz.pinned (OpenSpec.upto crashRoundsSpec)

/-- 'selfstablaw44.CrashColours', WHERE WHAT IT READS IS OF BULK AT MOST 1048576: true; the input reads as it did. -/
def crashColoursUptoRow : OpenClaim := { program := "ytigggfnchamobaagreatdoor", sum := "81c5e3fe9732bfbc41671478117360018927cae6543aa22bccd71936a595f80b", func := "selfstab/selfstablaw44.CrashColours", spec := "crashColours", inPlace := ["internal/bytealg.IndexByteString"], unfollowed := true, recurses := true, named := ["math/bits.deBruijn32tab"], plainKeys := false, apart := false, laid := [("math/bits.deBruijn32tab", laid_math_bits_deBruijn32tab)], narrowed := true }
def CrashColoursUptoSaid : Prop := crashColoursUptoRow.holds Tryz.pinned (OpenSpec.upto crashColoursSpec)

/-- 'selfstablaw44.CrashMembers', WHERE WHAT IT READS IS OF BULK AT MOST 1048576: true; the input reads as it did. -/
def crashMembersUptoRow : OpenClaim := { program := "ytigggfnchamobaagreatdoor", sum := "81c5e3fe9732bfbc41671478117360018927cae6543aa22bccd71936a595f80b", func := "selfstab/selfstablaw44.CrashMembers", spec := "crashMembers", inPlace := ["internal/bytealg.IndexByteString"], unfollowed := true, recurses := true, named := ["math/bits.deBruijn32tab"], plainKeys := false, apart := false, laid := [("math/bits.deBruijn32tab", laid_math_bits_deBruijn32tab)], narrowed := true }
def CrashMembersUptoSaid : Prop := crashMembersUptoRow.holds Tryz.pinned (OpenSpec.upto crashMembersSpec)

end Rows
end Go.Proofs.YtigggfnchamobaaGreatDoor
