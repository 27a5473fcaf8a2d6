/-
  DERIVED. GIVEN WITH THE SEED: THE CARDS: each row of YtjkjpdonlpdcaaaGreatDoorRows.lean that lists a variable, with what it lists TIED to the program's text (the seventh form; the later family's looks); each row that meets fmt, with fmt's text TOLD by the authors' own Lean function (tested against real Go, not proved from fmt's source: count such statements apart). THE CARD IS WHAT COUNTS. Prove the row's statement (the work); the ties are given (YtjkjpdonlpdcaaaGreatDoorTie.lean); close each card by the builder's one call (the guide's Derived/Test/ToyasCard.lean, 'card_holds'). Laid BY PROGRAM, IN A SANDBOX (cutbox-door.mjs). By AI agents, Wed Nov 11 2026. No macro, syntax, notation, axiom, sorry.
-/
import Derived.Test.YtjkjpdonlpdcaaaGreatDoorRows
import GoSem.ClaimSeven
namespace Go.Proofs.YtjkjpdonlpdcaaaGreatDoor
namespace Rows

/-- THE TIED CARD OF 'selfstabtop.TopLeadersAreProved'. -/
def topLeadersAreProvedCard : Claim7 := { stood := { row := topLeadersAreProvedRow, standIns := [], harness := (true, "5a6e2a4a94974c5650e528137117dab0c4ca181bb2ce36a63d934ad48231a961"), looks := true }, kinds := [], alts := [], laidByText := true, laidKinds := [.data], laidTests := true, laidLooks := .later }
def TopLeadersAreProvedCardSaid : Prop := Claim7.holds Tryz.pinned (.plain (OpenSpec.ofChange topLeadersAreProvedSpec)) topLeadersAreProvedCard

/-- THE TIED CARD OF 'selfstabtop.TopFaultsAreCounted'. -/
def topFaultsAreCountedCard : Claim7 := { stood := { row := topFaultsAreCountedRow, standIns := [], harness := (true, "5a6e2a4a94974c5650e528137117dab0c4ca181bb2ce36a63d934ad48231a961"), looks := true }, kinds := [], alts := [], laidByText := true, laidKinds := [.data], laidTests := true, laidLooks := .later }
def TopFaultsAreCountedCardSaid : Prop := Claim7.holds Tryz.pinned (.plain (OpenSpec.ofChange topFaultsAreCountedSpec)) topFaultsAreCountedCard

/-- THE SECOND FORM's CARD OF 'selfstabtop.TopLeadersAreProved'. -/
def topLeadersAreProvedUptoCard : Claim7 := { stood := { row := topLeadersAreProvedUptoRow, standIns := [], harness := (true, "5a6e2a4a94974c5650e528137117dab0c4ca181bb2ce36a63d934ad48231a961"), looks := true }, kinds := [], alts := [], laidByText := true, laidKinds := [.data], laidTests := true, laidLooks := .later }
def TopLeadersAreProvedUptoCardSaid : Prop := Claim7.holds Tryz.pinned (.plain (OpenSpec.upto topLeadersAreProvedSpec)) topLeadersAreProvedUptoCard

/-- THE SECOND FORM's CARD OF 'selfstabtop.TopFaultsAreCounted'. -/
def topFaultsAreCountedUptoCard : Claim7 := { stood := { row := topFaultsAreCountedUptoRow, standIns := [], harness := (true, "5a6e2a4a94974c5650e528137117dab0c4ca181bb2ce36a63d934ad48231a961"), looks := true }, kinds := [], alts := [], laidByText := true, laidKinds := [.data], laidTests := true, laidLooks := .later }
def TopFaultsAreCountedUptoCardSaid : Prop := Claim7.holds Tryz.pinned (.plain (OpenSpec.upto topFaultsAreCountedSpec)) topFaultsAreCountedUptoCard
end Rows
end Go.Proofs.YtjkjpdonlpdcaaaGreatDoor
