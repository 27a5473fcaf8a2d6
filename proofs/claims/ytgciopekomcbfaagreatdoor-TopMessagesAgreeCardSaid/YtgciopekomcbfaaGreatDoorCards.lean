/-
  DERIVED. GIVEN WITH THE SEED: THE CARDS: each row of YtgciopekomcbfaaGreatDoorRows.lean that lists a variable, with what it lists TIED to the program's text (the seventh form; the later family's looks); each row that meets fmt, with fmt's text TOLD by the authors' own Lean function (tested against real Go, not proved from fmt's source: count such statements apart). THE CARD IS WHAT COUNTS. Prove the row's statement (the work); the ties are given (YtgciopekomcbfaaGreatDoorTie.lean); close each card by the builder's one call (the guide's Derived/Test/ToyasCard.lean, 'card_holds'). Laid BY PROGRAM, IN A SANDBOX (cutbox-door.mjs). By AI agents, Wed Nov 11 2026. No macro, syntax, notation, axiom, sorry.
-/
import Derived.Test.YtgciopekomcbfaaGreatDoorRows
import GoSem.ClaimSeven
namespace Go.Proofs.YtgciopekomcbfaaGreatDoor
namespace Rows

/-- THE TIED CARD OF 'selfstabtop.TopMessagesAgree'. -/
def topMessagesAgreeCard : Claim7 := { stood := { row := topMessagesAgreeRow, standIns := [], harness := (true, "a8a1e3c0b25ca784b6f0d735386e0ee28751c6b2550d0945d8ff65fb6668dfbe"), looks := true }, kinds := [], alts := [], laidByText := true, laidKinds := [.data], laidTests := true, laidLooks := .later }
def TopMessagesAgreeCardSaid : Prop := Claim7.holds Tryz.pinned (.plain (OpenSpec.ofChange topMessagesAgreeSpec)) topMessagesAgreeCard

/-- THE SECOND FORM's CARD OF 'selfstabtop.TopMessagesAgree'. -/
def topMessagesAgreeUptoCard : Claim7 := { stood := { row := topMessagesAgreeUptoRow, standIns := [], harness := (true, "a8a1e3c0b25ca784b6f0d735386e0ee28751c6b2550d0945d8ff65fb6668dfbe"), looks := true }, kinds := [], alts := [], laidByText := true, laidKinds := [.data], laidTests := true, laidLooks := .later }
def TopMessagesAgreeUptoCardSaid : Prop := Claim7.holds Tryz.pinned (.plain (OpenSpec.upto topMessagesAgreeSpec)) topMessagesAgreeUptoCard
end Rows
end Go.Proofs.YtgciopekomcbfaaGreatDoor
