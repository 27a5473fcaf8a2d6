/-
  DERIVED. GIVEN WITH THE SEED: THE CARDS: each row of YtigggfnchamobaaGreatDoorRows.lean that lists a variable, with what it lists TIED to the program's text (the seventh form; the later family's looks); each row that meets fmt, with fmt's text TOLD by the authors' own Lean function (tested against real Go, not proved from fmt's source: count such statements apart). THE CARD IS WHAT COUNTS. Prove the row's statement (the work); the ties are given (YtigggfnchamobaaGreatDoorTie.lean); close each card by the builder's one call (the guide's Derived/Test/ToyasCard.lean, 'card_holds'). Laid BY PROGRAM, IN A SANDBOX (cutbox-door.mjs). By AI agents, Wed Nov 11 2026. No macro, syntax, notation, axiom, sorry.
-/
import Derived.Test.YtigggfnchamobaaGreatDoorRows
import GoSem.ClaimSeven
namespace Go.Proofs.YtigggfnchamobaaGreatDoor
namespace Rows

/-- THE TIED CARD OF 'selfstablaw44.CrashDistances'. -/
def crashDistancesCard : Claim7 := { stood := { row := crashDistancesRow, standIns := [], harness := (true, "e6ff11a443d1bfc6552f57e69bb57e612416a8daefabd80e0601c902908a6e1f"), looks := true }, kinds := [], alts := [], laidByText := true, laidKinds := [.data], laidTests := true, laidLooks := .later }
def CrashDistancesCardSaid : Prop := Claim7.holds Tryz.pinned (.plain (OpenSpec.ofChange crashDistancesSpec)) crashDistancesCard

/-- THE TIED CARD OF 'selfstablaw44.CrashRounds'. -/
def crashRoundsCard : Claim7 := { stood := { row := crashRoundsRow, standIns := [], harness := (true, "e6ff11a443d1bfc6552f57e69bb57e612416a8daefabd80e0601c902908a6e1f"), looks := true }, kinds := [], alts := [], laidByText := true, laidKinds := [.data], laidTests := true, laidLooks := .later }
def CrashRoundsCardSaid : Prop := Claim7.holds Tryz.pinned (.plain (OpenSpec.ofChange crashRoundsSpec)) crashRoundsCard

/-- THE TIED CARD OF 'selfstablaw44.CrashColours'. -/
def crashColoursCard : Claim7 := { stood := { row := crashColoursRow, standIns := [], harness := (true, "e6ff11a443d1bfc6552f57e69bb57e612416a8daefabd80e0601c902908a6e1f"), looks := true }, kinds := [], alts := [], laidByText := true, laidKinds := [.data], laidTests := true, laidLooks := .later }
def CrashColoursCardSaid : Prop := Claim7.holds Tryz.pinned (.plain (OpenSpec.ofChange crashColoursSpec)) crashColoursCard

/-- THE TIED CARD OF 'selfstablaw44.CrashMembers'. -/
def crashMembersCard : Claim7 := { stood := { row := crashMembersRow, standIns := [], harness := (true, "e6ff11a443d1bfc6552f57e69bb57e612416a8daefabd80e0601c902908a6e1f"), looks := true }, kinds := [], alts := [], laidByText := true, laidKinds := [.data], laidTests := true, laidLooks := .later }
def CrashMembersCardSaid : Prop := Claim7.holds Tryz.pinned (.plain (OpenSpec.ofChange crashMembersSpec)) crashMembersCard

/-- THE SECOND FORM's CARD OF 'selfstablaw44.CrashDistances'. -/
def crashDistancesUptoCard : Claim7 := { stood := { row := crashDistancesUptoRow, standIns := [], harness := (true, "e6ff11a443d1bfc6552f57e69bb57e612416a8daefabd80e0601c902908a6e1f"), looks := true }, kinds := [], alts := [], laidByText := true, laidKinds := [.data], laidTests := true, laidLooks := .later }
def CrashDistancesUptoCardSaid : Prop := Claim7.holds Tryz.pinned (.plain (OpenSpec.upto crashDistancesSpec)) crashDistancesUptoCard

/-- THE SECOND FORM's CARD OF 'selfstablaw44.CrashRounds'. -/
def crashRoundsUptoCard : Claim7 := { stood := { row := crashRoundsUptoRow, standIns := [], harness := (true, "e6ff11a443d1bfc6552f57e69bb57e612416a8daefabd80e0601c902908a6e1f"), looks := true }, kinds := [], alts := [], laidByText := true, laidKinds := [.data], laidTests := true, laidLooks := .later }
def CrashRoundsUptoCardSaid : Prop := Claim7.holds Tryz.pinned (.plain (OpenSpec.upto crashRoundsSpec)) crashRoundsUptoCard

/-- THE SECOND FORM's CARD OF 'selfstablaw44.CrashColours'. -/
def crashColoursUptoCard : Claim7 := { stood := { row := crashColoursUptoRow, standIns := [], harness := (true, "e6ff11a443d1bfc6552f57e69bb57e612416a8daefabd80e0601c902908a6e1f"), looks := true }, kinds := [], alts := [], laidByText := true, laidKinds := [.data], laidTests := true, laidLooks := .later }
def CrashColoursUptoCardSaid : Prop := Claim7.holds Tryz.pinned (.plain (OpenSpec.upto crashColoursSpec)) crashColoursUptoCard

/-- THE SECOND FORM's CARD OF 'selfstablaw44.CrashMembers'. -/
def crashMembersUptoCard : Claim7 := { stood := { row := crashMembersUptoRow, standIns := [], harness := (true, "e6ff11a443d1bfc6552f57e69bb57e612416a8daefabd80e0601c902908a6e1f"), looks := true }, kinds := [], alts := [], laidByText := true, laidKinds := [.data], laidTests := true, laidLooks := .later }
def CrashMembersUptoCardSaid : Prop := Claim7.holds Tryz.pinned (.plain (OpenSpec.upto crashMembersSpec)) crashMembersUptoCard
end Rows
end Go.Proofs.YtigggfnchamobaaGreatDoor
