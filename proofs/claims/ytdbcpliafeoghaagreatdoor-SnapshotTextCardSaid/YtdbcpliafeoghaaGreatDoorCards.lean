/-
  DERIVED. GIVEN WITH THE SEED: THE CARDS: each row of YtdbcpliafeoghaaGreatDoorRows.lean that lists a variable, with what it lists TIED to the program's text (the seventh form; the later family's looks); each row that meets fmt, with fmt's text TOLD by the authors' own Lean function (tested against real Go, not proved from fmt's source: count such statements apart). THE CARD IS WHAT COUNTS. Prove the row's statement (the work); the ties are given (YtdbcpliafeoghaaGreatDoorTie.lean); close each card by the builder's one call (the guide's Derived/Test/ToyasCard.lean, 'card_holds'). Laid BY PROGRAM, IN A SANDBOX (cutbox-door.mjs). By AI agents, Wed Nov 11 2026. No macro, syntax, notation, axiom, sorry.
-/
import Derived.Test.YtdbcpliafeoghaaGreatDoorRows
import GoSem.ClaimSeven
namespace Go.Proofs.YtdbcpliafeoghaaGreatDoor
namespace Rows

/-- THE TIED CARD OF 'selfstablaw38.ResetText'. -/
def resetTextCard : Claim7 := { stood := { row := resetTextRow, standIns := [], harness := (true, "de35040a4d6120acebccb7dd5ca382112f9e4a0991f61c86404e7d0c6c39af3a"), looks := true }, kinds := [], alts := [], laidByText := true, laidKinds := [.data], laidTests := true, laidLooks := .later }
def ResetTextCardSaid : Prop := Claim7.holds Tryz.pinned (.plain (OpenSpec.ofChange resetTextSpec)) resetTextCard

/-- THE TIED CARD OF 'selfstablaw37.SnapshotText'. -/
def snapshotTextCard : Claim7 := { stood := { row := snapshotTextRow, standIns := [], harness := (true, "de35040a4d6120acebccb7dd5ca382112f9e4a0991f61c86404e7d0c6c39af3a"), looks := true }, kinds := [], alts := [], laidByText := true, laidKinds := [.data], laidTests := true, laidLooks := .later }
def SnapshotTextCardSaid : Prop := Claim7.holds Tryz.pinned (.plain (OpenSpec.ofChange snapshotTextSpec)) snapshotTextCard

/-- THE SECOND FORM's CARD OF 'selfstablaw38.ResetText'. -/
def resetTextUptoCard : Claim7 := { stood := { row := resetTextUptoRow, standIns := [], harness := (true, "de35040a4d6120acebccb7dd5ca382112f9e4a0991f61c86404e7d0c6c39af3a"), looks := true }, kinds := [], alts := [], laidByText := true, laidKinds := [.data], laidTests := true, laidLooks := .later }
def ResetTextUptoCardSaid : Prop := Claim7.holds Tryz.pinned (.plain (OpenSpec.upto resetTextSpec)) resetTextUptoCard

/-- THE SECOND FORM's CARD OF 'selfstablaw37.SnapshotText'. -/
def snapshotTextUptoCard : Claim7 := { stood := { row := snapshotTextUptoRow, standIns := [], harness := (true, "de35040a4d6120acebccb7dd5ca382112f9e4a0991f61c86404e7d0c6c39af3a"), looks := true }, kinds := [], alts := [], laidByText := true, laidKinds := [.data], laidTests := true, laidLooks := .later }
def SnapshotTextUptoCardSaid : Prop := Claim7.holds Tryz.pinned (.plain (OpenSpec.upto snapshotTextSpec)) snapshotTextUptoCard
end Rows
end Go.Proofs.YtdbcpliafeoghaaGreatDoor
