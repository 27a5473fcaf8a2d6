/-
  DERIVED. GIVEN WITH THE SEED: THE CARDS: each row of YtahgemjmgopleaaGreatDoorRows.lean that lists a variable, with what it lists TIED to the program's text (the seventh form; the later family's looks); each row that meets fmt, with fmt's text TOLD by the authors' own Lean function (tested against real Go, not proved from fmt's source: count such statements apart). THE CARD IS WHAT COUNTS. Prove the row's statement (the work); the ties are given (YtahgemjmgopleaaGreatDoorTie.lean); close each card by the builder's one call (the guide's Derived/Test/ToyasCard.lean, 'card_holds'). Laid BY PROGRAM, IN A SANDBOX (cutbox-door.mjs). By AI agents, Wed Nov 11 2026. No macro, syntax, notation, axiom, sorry.
-/
import Derived.Test.YtahgemjmgopleaaGreatDoorRows
import GoSem.ClaimSeven
namespace Go.Proofs.YtahgemjmgopleaaGreatDoor
namespace Rows

/-- THE TIED CARD OF 'selfstablaw40.ContainmentTells'. -/
def containmentTellsCard : Claim7 := { stood := { row := containmentTellsRow, standIns := [], harness := (true, "2586e35087845dc8ae544c79dd001266548ade16680e2267fb2e4a974e8d23e0"), looks := true }, kinds := [], alts := [], laidByText := true, laidKinds := [.data], laidTests := true, laidLooks := .later }
def ContainmentTellsCardSaid : Prop := Claim7.holds Tryz.pinned (.plain (OpenSpec.ofChange containmentTellsSpec)) containmentTellsCard

/-- THE TIED CARD OF 'selfstablaw44.CrashFollows'. -/
def crashFollowsCard : Claim7 := { stood := { row := crashFollowsRow, standIns := [], harness := (true, "2586e35087845dc8ae544c79dd001266548ade16680e2267fb2e4a974e8d23e0"), looks := true }, kinds := [], alts := [], laidByText := true, laidKinds := [.data], laidTests := true, laidLooks := .later }
def CrashFollowsCardSaid : Prop := Claim7.holds Tryz.pinned (.plain (OpenSpec.ofChange crashFollowsSpec)) crashFollowsCard

/-- THE SECOND FORM's CARD OF 'selfstablaw40.ContainmentTells'. -/
def containmentTellsUptoCard : Claim7 := { stood := { row := containmentTellsUptoRow, standIns := [], harness := (true, "2586e35087845dc8ae544c79dd001266548ade16680e2267fb2e4a974e8d23e0"), looks := true }, kinds := [], alts := [], laidByText := true, laidKinds := [.data], laidTests := true, laidLooks := .later }
def ContainmentTellsUptoCardSaid : Prop := Claim7.holds Tryz.pinned (.plain (OpenSpec.upto containmentTellsSpec)) containmentTellsUptoCard

/-- THE SECOND FORM's CARD OF 'selfstablaw44.CrashFollows'. -/
def crashFollowsUptoCard : Claim7 := { stood := { row := crashFollowsUptoRow, standIns := [], harness := (true, "2586e35087845dc8ae544c79dd001266548ade16680e2267fb2e4a974e8d23e0"), looks := true }, kinds := [], alts := [], laidByText := true, laidKinds := [.data], laidTests := true, laidLooks := .later }
def CrashFollowsUptoCardSaid : Prop := Claim7.holds Tryz.pinned (.plain (OpenSpec.upto crashFollowsSpec)) crashFollowsUptoCard
end Rows
end Go.Proofs.YtahgemjmgopleaaGreatDoor
