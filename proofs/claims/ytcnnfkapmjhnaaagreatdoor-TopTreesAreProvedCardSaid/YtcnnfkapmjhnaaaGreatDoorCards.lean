/-
  DERIVED. GIVEN WITH THE SEED: THE CARDS: each row of YtcnnfkapmjhnaaaGreatDoorRows.lean that lists a variable, with what it lists TIED to the program's text (the seventh form; the later family's looks); each row that meets fmt, with fmt's text TOLD by the authors' own Lean function (tested against real Go, not proved from fmt's source: count such statements apart). THE CARD IS WHAT COUNTS. Prove the row's statement (the work); the ties are given (YtcnnfkapmjhnaaaGreatDoorTie.lean); close each card by the builder's one call (the guide's Derived/Test/ToyasCard.lean, 'card_holds'). Laid BY PROGRAM, IN A SANDBOX (cutbox-door.mjs). By AI agents, Wed Nov 11 2026. No macro, syntax, notation, axiom, sorry.
-/
import Derived.Test.YtcnnfkapmjhnaaaGreatDoorRows
import GoSem.ClaimSeven
namespace Go.Proofs.YtcnnfkapmjhnaaaGreatDoor
namespace Rows

/-- THE TIED CARD OF 'selfstabtop.TopTreesAreProved'. -/
def topTreesAreProvedCard : Claim7 := { stood := { row := topTreesAreProvedRow, standIns := [], harness := (true, "e9a847e7ece64170f39b4a2ad4f513f86d25bf96e88e325ada1da8276fe2ae5f"), looks := true }, kinds := [], alts := [], laidByText := true, laidKinds := [.data], laidTests := true, laidLooks := .later }
def TopTreesAreProvedCardSaid : Prop := Claim7.holds Tryz.pinned (.plain (OpenSpec.ofChange topTreesAreProvedSpec)) topTreesAreProvedCard

/-- THE SECOND FORM's CARD OF 'selfstabtop.TopTreesAreProved'. -/
def topTreesAreProvedUptoCard : Claim7 := { stood := { row := topTreesAreProvedUptoRow, standIns := [], harness := (true, "e9a847e7ece64170f39b4a2ad4f513f86d25bf96e88e325ada1da8276fe2ae5f"), looks := true }, kinds := [], alts := [], laidByText := true, laidKinds := [.data], laidTests := true, laidLooks := .later }
def TopTreesAreProvedUptoCardSaid : Prop := Claim7.holds Tryz.pinned (.plain (OpenSpec.upto topTreesAreProvedSpec)) topTreesAreProvedUptoCard
end Rows
end Go.Proofs.YtcnnfkapmjhnaaaGreatDoor
