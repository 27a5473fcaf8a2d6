/-
  DERIVED. GIVEN WITH THE SEED: THE CARDS: each row of YtpenklncfhiloaaGreatDoorRows.lean that lists a variable, with what it lists TIED to the program's text (the seventh form; the later family's looks); each row that meets fmt, with fmt's text TOLD by the authors' own Lean function (tested against real Go, not proved from fmt's source: count such statements apart). THE CARD IS WHAT COUNTS. Prove the row's statement (the work); the ties are given (YtpenklncfhiloaaGreatDoorTie.lean); close each card by the builder's one call (the guide's Derived/Test/ToyasCard.lean, 'card_holds'). Laid BY PROGRAM, IN A SANDBOX (cutbox-door.mjs). By AI agents, Wed Nov 11 2026. No macro, syntax, notation, axiom, sorry.
-/
import Derived.Test.YtpenklncfhiloaaGreatDoorRows
import GoSem.ClaimSeven
namespace Go.Proofs.YtpenklncfhiloaaGreatDoor
namespace Rows

/-- THE TIED CARD OF 'selfstablaw40.ContainmentLinks'. -/
def containmentLinksCard : Claim7 := { stood := { row := containmentLinksRow, standIns := [], harness := (true, "f6f7e3e434886da1853b404fb336445b7eaef7675689ebcc4799d2af507c1207"), looks := true }, kinds := [], alts := [], laidByText := true, laidKinds := [.data], laidTests := true, laidLooks := .later }
def ContainmentLinksCardSaid : Prop := Claim7.holds Tryz.pinned (.plain (OpenSpec.ofChange containmentLinksSpec)) containmentLinksCard

/-- THE SECOND FORM's CARD OF 'selfstablaw40.ContainmentLinks'. -/
def containmentLinksUptoCard : Claim7 := { stood := { row := containmentLinksUptoRow, standIns := [], harness := (true, "f6f7e3e434886da1853b404fb336445b7eaef7675689ebcc4799d2af507c1207"), looks := true }, kinds := [], alts := [], laidByText := true, laidKinds := [.data], laidTests := true, laidLooks := .later }
def ContainmentLinksUptoCardSaid : Prop := Claim7.holds Tryz.pinned (.plain (OpenSpec.upto containmentLinksSpec)) containmentLinksUptoCard
end Rows
end Go.Proofs.YtpenklncfhiloaaGreatDoor
