/-
  No cell of these rows narrows 'for every input' (looked for: loops, veiled, ifaces, maps, wideKeys, modest, calm, conditions, laid).
  DERIVED. THE GIVEN ROWS OF THIS SEAT. 5 by the template 'for every input the law returns true; each argument reads behind the call as it read before'; 0 by the template 'total and deterministic' (their statements: YtflciafboapaaaaGreatTotals.lean).
  GIVEN WITH THE SEED: the statements are not yours to turn. If you find one false, say at which input.
  Laid BY PROGRAM, IN A SANDBOX (cutbox-rows.mjs): the forced cells as the released guide's own fill.sh prints them over the translation 85ba4b7076fbac9e… (all of the seat's roots in one cut). By AI agents, Wed Nov 11 2026. No macro, syntax, notation, axiom, sorry.
-/
import Derived.Test.YtflciafboapaaaaGreatChecked
import GoSem.Claim
import GoSem.ClaimJoined
import GoSem.ClaimMapViews
import Derived.JoinedTies
import Derived.KernelRfl
namespace Go.Proofs.YtflciafboapaaaaGreat
/- THE CELL 'sum', in the pinned program and in every row, IS THE sha256 OF THE DUMP (.gsa) THAT YtflciafboapaaaaGreatProg.lean LOADS. Nothing in Lean hashes anything: it is a label: what it is worth is what the hold of that sum in a sandbox is worth. -/
noncomputable def Tryz.pinned : Pinned := { name := "ytflciafboapaaaagreat", sum := "85ba4b7076fbac9ed36153efa5d30a160290125b53ce570ef9fb8cd05bf8411c", checked := Tryz.checked }
namespace Rows
def none {H : Type} : Left H := { results := [], args := [] }

/-- 'selfstablaw43.RelaySteps': WHATEVER THE INPUT: true; the input reads as it did. -/
def relayStepsSpec : ChangeSpec := { name := "relaySteps", fn := fun _ => fun
  | [d1, d2, d3, d4] => { results := [.lit (.bool true)], args := [d1, d2, d3, d4] }
  | _ => none }
def relayStepsRow : OpenClaim := { program := "ytflciafboapaaaagreat", sum := "85ba4b7076fbac9ed36153efa5d30a160290125b53ce570ef9fb8cd05bf8411c", func := "selfstab/selfstablaw43.RelaySteps", spec := "relaySteps", inPlace := ["internal/bytealg.IndexByteString"], unfollowed := true, recurses := true, plainKeys := false, apart := false }
def RelayStepsSaid : Prop := relayStepsRow.holds Tryz.pinned (OpenSpec.ofChange relayStepsSpec)

/-- ITS FALSE NEIGHBOUR: 'it returns false'. Refute it at one input. -/
def relayStepsWrong : ChangeSpec := { name := "relaySteps", fn := fun _ => fun
  | [d1, d2, d3, d4] => { results := [.lit (.bool false)], args := [d1, d2, d3, d4] }
  | _ => none }
def RelayStepsWrongFalsely : Prop := relayStepsRow.holds Tryz.pinned (OpenSpec.ofChange relayStepsWrong)

/-- 'selfstablaw43.RelayStrange': WHATEVER THE INPUT: true; the input reads as it did. -/
def relayStrangeSpec : ChangeSpec := { name := "relayStrange", fn := fun _ => fun
  | [d1, d2, d3] => { results := [.lit (.bool true)], args := [d1, d2, d3] }
  | _ => none }
def relayStrangeRow : OpenClaim := { program := "ytflciafboapaaaagreat", sum := "85ba4b7076fbac9ed36153efa5d30a160290125b53ce570ef9fb8cd05bf8411c", func := "selfstab/selfstablaw43.RelayStrange", spec := "relayStrange", inPlace := ["internal/bytealg.IndexByteString"], unfollowed := true, recurses := true, plainKeys := false, apart := false }
def RelayStrangeSaid : Prop := relayStrangeRow.holds Tryz.pinned (OpenSpec.ofChange relayStrangeSpec)

/-- ITS FALSE NEIGHBOUR: 'it returns false'. Refute it at one input. -/
def relayStrangeWrong : ChangeSpec := { name := "relayStrange", fn := fun _ => fun
  | [d1, d2, d3] => { results := [.lit (.bool false)], args := [d1, d2, d3] }
  | _ => none }
def RelayStrangeWrongFalsely : Prop := relayStrangeRow.holds Tryz.pinned (OpenSpec.ofChange relayStrangeWrong)

/-- 'selfstablaw43.RelayRuns': WHATEVER THE INPUT: true; the input reads as it did. -/
def relayRunsSpec : ChangeSpec := { name := "relayRuns", fn := fun _ => fun
  | [d1, d2, d3, d4] => { results := [.lit (.bool true)], args := [d1, d2, d3, d4] }
  | _ => none }
def relayRunsRow : OpenClaim := { program := "ytflciafboapaaaagreat", sum := "85ba4b7076fbac9ed36153efa5d30a160290125b53ce570ef9fb8cd05bf8411c", func := "selfstab/selfstablaw43.RelayRuns", spec := "relayRuns", inPlace := ["internal/bytealg.IndexByteString"], unfollowed := true, recurses := true, plainKeys := false, apart := false }
def RelayRunsSaid : Prop := relayRunsRow.holds Tryz.pinned (OpenSpec.ofChange relayRunsSpec)

/-- ITS FALSE NEIGHBOUR: 'it returns false'. Refute it at one input. -/
def relayRunsWrong : ChangeSpec := { name := "relayRuns", fn := fun _ => fun
  | [d1, d2, d3, d4] => { results := [.lit (.bool false)], args := [d1, d2, d3, d4] }
  | _ => none }
def RelayRunsWrongFalsely : Prop := relayRunsRow.holds Tryz.pinned (OpenSpec.ofChange relayRunsWrong)

/-- 'selfstablaw43.RelayStarts': WHATEVER THE INPUT: true; the input reads as it did. -/
def relayStartsSpec : ChangeSpec := { name := "relayStarts", fn := fun _ => fun
  | [d1, d2] => { results := [.lit (.bool true)], args := [d1, d2] }
  | _ => none }
def relayStartsRow : OpenClaim := { program := "ytflciafboapaaaagreat", sum := "85ba4b7076fbac9ed36153efa5d30a160290125b53ce570ef9fb8cd05bf8411c", func := "selfstab/selfstablaw43.RelayStarts", spec := "relayStarts", inPlace := ["internal/bytealg.IndexByteString"], unfollowed := true, recurses := true, plainKeys := false, apart := false }
def RelayStartsSaid : Prop := relayStartsRow.holds Tryz.pinned (OpenSpec.ofChange relayStartsSpec)

/-- ITS FALSE NEIGHBOUR: 'it returns false'. Refute it at one input. -/
def relayStartsWrong : ChangeSpec := { name := "relayStarts", fn := fun _ => fun
  | [d1, d2] => { results := [.lit (.bool false)], args := [d1, d2] }
  | _ => none }
def RelayStartsWrongFalsely : Prop := relayStartsRow.holds Tryz.pinned (OpenSpec.ofChange relayStartsWrong)

/-- 'selfstablaw43.RelayArrives': WHATEVER THE INPUT: true; the input reads as it did. -/
def relayArrivesSpec : ChangeSpec := { name := "relayArrives", fn := fun _ => fun
  | [d1, d2, d3, d4, d5, d6] => { results := [.lit (.bool true)], args := [d1, d2, d3, d4, d5, d6] }
  | _ => none }
def relayArrivesRow : OpenClaim := { program := "ytflciafboapaaaagreat", sum := "85ba4b7076fbac9ed36153efa5d30a160290125b53ce570ef9fb8cd05bf8411c", func := "selfstab/selfstablaw43.RelayArrives", spec := "relayArrives", inPlace := ["internal/bytealg.IndexByteString"], unfollowed := true, recurses := true, plainKeys := false, apart := false }
def RelayArrivesSaid : Prop := relayArrivesRow.holds Tryz.pinned (OpenSpec.ofChange relayArrivesSpec)

/-- ITS FALSE NEIGHBOUR: 'it returns false'. Refute it at one input. -/
def relayArrivesWrong : ChangeSpec := { name := "relayArrives", fn := fun _ => fun
  | [d1, d2, d3, d4, d5, d6] => { results := [.lit (.bool false)], args := [d1, d2, d3, d4, d5, d6] }
  | _ => none }
def RelayArrivesWrongFalsely : Prop := relayArrivesRow.holds Tryz.pinned (OpenSpec.ofChange relayArrivesWrong)

/- THE SECOND FORM. 'bulk': how many values and letters a reading holds, each counted each time it is reached (what is shared counts as often as it is met; a slice's spare places count too). A statement '..UptoSaid' is the law's where the arguments, and the package variables that the reading takes, are together of bulk at most 1048576: NARROWER than '..Said'. Prove '..Said' where nothing that the law and all that it calls make is longer than what came in: it says more and counts as full. Else prove '..UptoSaid'. A law counts once. -/
mutual
def uptoBulk {H : Type} : DataW H → Nat
  | .lit (.string bytes) => bytes.length + 1
  | .lit _ => 1
  | .nil => 1
  | .ptr d => uptoBulk d + 1
  | .slice elems spare => uptoBulkAll elems + uptoBulkAll spare + 1
  | .agg parts => uptoBulkAll parts + 1
  | .iface _ d => uptoBulk d + 1
  | .map entries => uptoBulkEntries entries + 1
  | .held _ => 1
def uptoBulkAll {H : Type} : List (DataW H) → Nat
  | [] => 0
  | d :: r => uptoBulk d + uptoBulkAll r
def uptoBulkEntries {H : Type} : List (Lit × DataW H) → Nat
  | [] => 0
  | x :: r => uptoBulkEntry x + uptoBulkEntries r
def uptoBulkEntry {H : Type} : Lit × DataW H → Nat
  | (.string bytes, d) => bytes.length + uptoBulk d + 1
  | (_, d) => uptoBulk d + 1
 end
def uptoSmall : (H : Type) → List (DataW H) → Bool := fun _ ds => decide (uptoBulkAll ds ≤ 1048576)
def OpenSpec.upto (s : _root_.Go.ChangeSpec) : _root_.Go.OpenSpec := { _root_.Go.OpenSpec.ofChange s with cond := some uptoSmall }

/-- 'selfstablaw43.RelaySteps', WHERE WHAT IT READS IS OF BULK AT MOST 1048576: true; the input reads as it did. -/
def relayStepsUptoRow : OpenClaim := { program := "ytflciafboapaaaagreat", sum := "85ba4b7076fbac9ed36153efa5d30a160290125b53ce570ef9fb8cd05bf8411c", func := "selfstab/selfstablaw43.RelaySteps", spec := "relaySteps", inPlace := ["internal/bytealg.IndexByteString"], unfollowed := true, recurses := true, plainKeys := false, apart := false, narrowed := true }
def RelayStepsUptoSaid : Prop := relayStepsUptoRow.holds Tryz.pinned (OpenSpec.upto relayStepsSpec)

/-- 'selfstablaw43.RelayStrange', WHERE WHAT IT READS IS OF BULK AT MOST 1048576: true; the input reads as it did. -/
def relayStrangeUptoRow : OpenClaim := { program := "ytflciafboapaaaagreat", sum := "85ba4b7076fbac9ed36153efa5d30a160290125b53ce570ef9fb8cd05bf8411c", func := "selfstab/selfstablaw43.RelayStrange", spec := "relayStrange", inPlace := ["internal/bytealg.IndexByteString"], unfollowed := true, recurses := true, plainKeys := false, apart := false, narrowed := true }
def RelayStrangeUptoSaid : Prop := relayStrangeUptoRow.holds Tryz.pinned (OpenSpec.upto relayStrangeSpec)

/-- 'selfstablaw43.RelayRuns', WHERE WHAT IT READS IS OF BULK AT MOST 1048576: true; the input reads as it did. -/
def relayRunsUptoRow : OpenClaim := { program := "ytflciafboapaaaagreat", sum := "85ba4b7076fbac9ed36153efa5d30a160290125b53ce570ef9fb8cd05bf8411c", func := "selfstab/selfstablaw43.RelayRuns", spec := "relayRuns", inPlace := ["internal/bytealg.IndexByteString"], unfollowed := true, recurses := true, plainKeys := false, apart := false, narrowed := true }
def RelayRunsUptoSaid : Prop := relayRunsUptoRow.holds Tryz.pinned (OpenSpec.upto relayRunsSpec)

/-- 'selfstablaw43.RelayStarts', WHERE WHAT IT READS IS OF BULK AT MOST 1048576: true; the input reads as it did. -/
def relayStartsUptoRow : OpenClaim := { program := "ytflciafboapaaaagreat", sum := "85ba4b7076fbac9ed36153efa5d30a160290125b53ce570ef9fb8cd05bf8411c", func := "selfstab/selfstablaw43.RelayStarts", spec := "relayStarts", inPlace := ["internal/bytealg.IndexByteString"], unfollowed := true, recurses := true, plainKeys := false, apart := false, narrowed := true }
def RelayStartsUptoSaid : Prop := relayStartsUptoRow.holds Tryz.pinned (OpenSpec.upto relayStartsSpec)

/-- 'selfstablaw43.RelayArrives', WHERE WHAT IT READS IS OF BULK AT MOST 1048576: true; the input reads as it did. -/
def relayArrivesUptoRow : OpenClaim := { program := "ytflciafboapaaaagreat", sum := "85ba4b7076fbac9ed36153efa5d30a160290125b53ce570ef9fb8cd05bf8411c", func := "selfstab/selfstablaw43.RelayArrives", spec := "relayArrives", inPlace := ["internal/bytealg.IndexByteString"], unfollowed := true, recurses := true, plainKeys := false, apart := false, narrowed := true }
def RelayArrivesUptoSaid : Prop := relayArrivesUptoRow.holds Tryz.pinned (OpenSpec.upto relayArrivesSpec)

end Rows
end Go.Proofs.YtflciafboapaaaaGreat
