/-
  DERIVED. GIVEN WITH THE SEED: THE CARDS: each row of YtemmagadjnlajaaGreatDoorRows.lean that lists a variable, with what it lists TIED to the program's text (the seventh form; the later family's looks); each row that meets fmt, with fmt's text TOLD by the authors' own Lean function (tested against real Go, not proved from fmt's source: count such statements apart). THE CARD IS WHAT COUNTS. Prove the row's statement (the work); the ties are given (YtemmagadjnlajaaGreatDoorTie.lean); close each card by the builder's one call (the guide's Derived/Test/ToyasCard.lean, 'card_holds'). Laid BY PROGRAM, IN A SANDBOX (cutbox-door.mjs). By AI agents, Wed Nov 11 2026. No macro, syntax, notation, axiom, sorry.
-/
import Derived.Test.YtemmagadjnlajaaGreatDoorRows
import GoSem.ClaimSeven
namespace Go.Proofs.YtemmagadjnlajaaGreatDoor
namespace Rows

/-- THE TIED CARD OF 'selfstabtop.TopCompiledProgramsMove'. -/
def topCompiledProgramsMoveCard : Claim7 := { stood := { row := topCompiledProgramsMoveRow, standIns := [], harness := (true, "1bec00ba75584ea6c5ddf30c28285b1380c0d75c0686451b7dc3bb48af361b7c"), looks := true }, kinds := [], alts := [], laidByText := true, laidKinds := [.data], laidTests := true, laidLooks := .later }
def TopCompiledProgramsMoveCardSaid : Prop := Claim7.holds Tryz.pinned (.plain (OpenSpec.ofChange topCompiledProgramsMoveSpec)) topCompiledProgramsMoveCard

/-- THE SECOND FORM's CARD OF 'selfstabtop.TopCompiledProgramsMove'. -/
def topCompiledProgramsMoveUptoCard : Claim7 := { stood := { row := topCompiledProgramsMoveUptoRow, standIns := [], harness := (true, "1bec00ba75584ea6c5ddf30c28285b1380c0d75c0686451b7dc3bb48af361b7c"), looks := true }, kinds := [], alts := [], laidByText := true, laidKinds := [.data], laidTests := true, laidLooks := .later }
def TopCompiledProgramsMoveUptoCardSaid : Prop := Claim7.holds Tryz.pinned (.plain (OpenSpec.upto topCompiledProgramsMoveSpec)) topCompiledProgramsMoveUptoCard
end Rows
end Go.Proofs.YtemmagadjnlajaaGreatDoor
