/-
  DERIVED. GIVEN WITH THE SEED: THE CARDS: each row of YtjlbcgddhnjcjaaGreatDoorRows.lean that lists a variable, with what it lists TIED to the program's text (the seventh form; the later family's looks); each row that meets fmt, with fmt's text TOLD by the authors' own Lean function (tested against real Go, not proved from fmt's source: count such statements apart). THE CARD IS WHAT COUNTS. Prove the row's statement (the work); the ties are given (YtjlbcgddhnjcjaaGreatDoorTie.lean); close each card by the builder's one call (the guide's Derived/Test/ToyasCard.lean, 'card_holds'). Laid BY PROGRAM, IN A SANDBOX (cutbox-door.mjs). By AI agents, Wed Nov 11 2026. No macro, syntax, notation, axiom, sorry.
-/
import Derived.Test.YtjlbcgddhnjcjaaGreatDoorRows
import GoSem.ClaimSeven
namespace Go.Proofs.YtjlbcgddhnjcjaaGreatDoor
namespace Rows

/-- THE TIED CARD OF 'selfstablaw40.ContainmentTells'. -/
def containmentTellsCard : Claim7 := { stood := { row := containmentTellsRow, standIns := [], harness := (true, "3e1ab1d3128a0473676168ae0e4034d89b36ca4e9495482ae8cd409f47ef9d5b"), looks := true }, kinds := [], alts := [], laidByText := true, laidKinds := [.data], laidTests := true, laidLooks := .later }
def ContainmentTellsCardSaid : Prop := Claim7.holds Tryz.pinned (.plain (OpenSpec.ofChange containmentTellsSpec)) containmentTellsCard

/-- THE TIED CARD OF 'selfstablaw40.ContainmentWithin'. -/
def containmentWithinCard : Claim7 := { stood := { row := containmentWithinRow, standIns := [], harness := (true, "3e1ab1d3128a0473676168ae0e4034d89b36ca4e9495482ae8cd409f47ef9d5b"), looks := true }, kinds := [], alts := [], laidByText := true, laidKinds := [.data], laidTests := true, laidLooks := .later }
def ContainmentWithinCardSaid : Prop := Claim7.holds Tryz.pinned (.plain (OpenSpec.ofChange containmentWithinSpec)) containmentWithinCard

/-- THE TIED CARD OF 'selfstablaw40.ContainmentMembers'. -/
def containmentMembersCard : Claim7 := { stood := { row := containmentMembersRow, standIns := [], harness := (true, "3e1ab1d3128a0473676168ae0e4034d89b36ca4e9495482ae8cd409f47ef9d5b"), looks := true }, kinds := [], alts := [], laidByText := true, laidKinds := [.data], laidTests := true, laidLooks := .later }
def ContainmentMembersCardSaid : Prop := Claim7.holds Tryz.pinned (.plain (OpenSpec.ofChange containmentMembersSpec)) containmentMembersCard

/-- THE TIED CARD OF 'selfstablaw40.ContainmentColours'. -/
def containmentColoursCard : Claim7 := { stood := { row := containmentColoursRow, standIns := [], harness := (true, "3e1ab1d3128a0473676168ae0e4034d89b36ca4e9495482ae8cd409f47ef9d5b"), looks := true }, kinds := [], alts := [], laidByText := true, laidKinds := [.data], laidTests := true, laidLooks := .later }
def ContainmentColoursCardSaid : Prop := Claim7.holds Tryz.pinned (.plain (OpenSpec.ofChange containmentColoursSpec)) containmentColoursCard

/-- THE TIED CARD OF 'selfstablaw40.ContainmentLinks'. -/
def containmentLinksCard : Claim7 := { stood := { row := containmentLinksRow, standIns := [], harness := (true, "3e1ab1d3128a0473676168ae0e4034d89b36ca4e9495482ae8cd409f47ef9d5b"), looks := true }, kinds := [], alts := [], laidByText := true, laidKinds := [.data], laidTests := true, laidLooks := .later }
def ContainmentLinksCardSaid : Prop := Claim7.holds Tryz.pinned (.plain (OpenSpec.ofChange containmentLinksSpec)) containmentLinksCard

/-- THE SECOND FORM's CARD OF 'selfstablaw40.ContainmentTells'. -/
def containmentTellsUptoCard : Claim7 := { stood := { row := containmentTellsUptoRow, standIns := [], harness := (true, "3e1ab1d3128a0473676168ae0e4034d89b36ca4e9495482ae8cd409f47ef9d5b"), looks := true }, kinds := [], alts := [], laidByText := true, laidKinds := [.data], laidTests := true, laidLooks := .later }
def ContainmentTellsUptoCardSaid : Prop := Claim7.holds Tryz.pinned (.plain (OpenSpec.upto containmentTellsSpec)) containmentTellsUptoCard

/-- THE SECOND FORM's CARD OF 'selfstablaw40.ContainmentWithin'. -/
def containmentWithinUptoCard : Claim7 := { stood := { row := containmentWithinUptoRow, standIns := [], harness := (true, "3e1ab1d3128a0473676168ae0e4034d89b36ca4e9495482ae8cd409f47ef9d5b"), looks := true }, kinds := [], alts := [], laidByText := true, laidKinds := [.data], laidTests := true, laidLooks := .later }
def ContainmentWithinUptoCardSaid : Prop := Claim7.holds Tryz.pinned (.plain (OpenSpec.upto containmentWithinSpec)) containmentWithinUptoCard

/-- THE SECOND FORM's CARD OF 'selfstablaw40.ContainmentMembers'. -/
def containmentMembersUptoCard : Claim7 := { stood := { row := containmentMembersUptoRow, standIns := [], harness := (true, "3e1ab1d3128a0473676168ae0e4034d89b36ca4e9495482ae8cd409f47ef9d5b"), looks := true }, kinds := [], alts := [], laidByText := true, laidKinds := [.data], laidTests := true, laidLooks := .later }
def ContainmentMembersUptoCardSaid : Prop := Claim7.holds Tryz.pinned (.plain (OpenSpec.upto containmentMembersSpec)) containmentMembersUptoCard

/-- THE SECOND FORM's CARD OF 'selfstablaw40.ContainmentColours'. -/
def containmentColoursUptoCard : Claim7 := { stood := { row := containmentColoursUptoRow, standIns := [], harness := (true, "3e1ab1d3128a0473676168ae0e4034d89b36ca4e9495482ae8cd409f47ef9d5b"), looks := true }, kinds := [], alts := [], laidByText := true, laidKinds := [.data], laidTests := true, laidLooks := .later }
def ContainmentColoursUptoCardSaid : Prop := Claim7.holds Tryz.pinned (.plain (OpenSpec.upto containmentColoursSpec)) containmentColoursUptoCard

/-- THE SECOND FORM's CARD OF 'selfstablaw40.ContainmentLinks'. -/
def containmentLinksUptoCard : Claim7 := { stood := { row := containmentLinksUptoRow, standIns := [], harness := (true, "3e1ab1d3128a0473676168ae0e4034d89b36ca4e9495482ae8cd409f47ef9d5b"), looks := true }, kinds := [], alts := [], laidByText := true, laidKinds := [.data], laidTests := true, laidLooks := .later }
def ContainmentLinksUptoCardSaid : Prop := Claim7.holds Tryz.pinned (.plain (OpenSpec.upto containmentLinksSpec)) containmentLinksUptoCard
end Rows
end Go.Proofs.YtjlbcgddhnjcjaaGreatDoor
