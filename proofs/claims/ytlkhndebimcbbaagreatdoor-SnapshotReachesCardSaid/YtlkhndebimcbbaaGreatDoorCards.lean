/-
  DERIVED. GIVEN WITH THE SEED: THE CARDS: each row of YtlkhndebimcbbaaGreatDoorRows.lean that lists a variable, with what it lists TIED to the program's text (the seventh form; the later family's looks); each row that meets fmt, with fmt's text TOLD by the authors' own Lean function (tested against real Go, not proved from fmt's source: count such statements apart). THE CARD IS WHAT COUNTS. Prove the row's statement (the work); the ties are given (YtlkhndebimcbbaaGreatDoorTie.lean); close each card by the builder's one call (the guide's Derived/Test/ToyasCard.lean, 'card_holds'). Laid BY PROGRAM, IN A SANDBOX (cutbox-door.mjs). By AI agents, Wed Nov 11 2026. No macro, syntax, notation, axiom, sorry.
-/
import Derived.Test.YtlkhndebimcbbaaGreatDoorRows
import GoSem.ClaimSeven
namespace Go.Proofs.YtlkhndebimcbbaaGreatDoor
namespace Rows

/-- THE TIED CARD OF 'selfstablaw37.SnapshotSums'. -/
def snapshotSumsCard : Claim7 := { stood := { row := snapshotSumsRow, standIns := [], harness := (true, "8f23c64f59cab12dd593e9f26b21a739fb3c65eeb83621b94043d4e333c05f91"), looks := true }, kinds := [], alts := [], laidByText := true, laidKinds := [.data], laidTests := true, laidLooks := .later }
def SnapshotSumsCardSaid : Prop := Claim7.holds Tryz.pinned (.plain (OpenSpec.ofChange snapshotSumsSpec)) snapshotSumsCard

/-- THE TIED CARD OF 'selfstablaw37.SnapshotInTime'. -/
def snapshotInTimeCard : Claim7 := { stood := { row := snapshotInTimeRow, standIns := [], harness := (true, "8f23c64f59cab12dd593e9f26b21a739fb3c65eeb83621b94043d4e333c05f91"), looks := true }, kinds := [], alts := [], laidByText := true, laidKinds := [.data], laidTests := true, laidLooks := .later }
def SnapshotInTimeCardSaid : Prop := Claim7.holds Tryz.pinned (.plain (OpenSpec.ofChange snapshotInTimeSpec)) snapshotInTimeCard

/-- THE TIED CARD OF 'selfstablaw37.SnapshotReaches'. -/
def snapshotReachesCard : Claim7 := { stood := { row := snapshotReachesRow, standIns := [], harness := (true, "8f23c64f59cab12dd593e9f26b21a739fb3c65eeb83621b94043d4e333c05f91"), looks := true }, kinds := [], alts := [], laidByText := true, laidKinds := [.data], laidTests := true, laidLooks := .later }
def SnapshotReachesCardSaid : Prop := Claim7.holds Tryz.pinned (.plain (OpenSpec.ofChange snapshotReachesSpec)) snapshotReachesCard

/-- THE SECOND FORM's CARD OF 'selfstablaw37.SnapshotSums'. -/
def snapshotSumsUptoCard : Claim7 := { stood := { row := snapshotSumsUptoRow, standIns := [], harness := (true, "8f23c64f59cab12dd593e9f26b21a739fb3c65eeb83621b94043d4e333c05f91"), looks := true }, kinds := [], alts := [], laidByText := true, laidKinds := [.data], laidTests := true, laidLooks := .later }
def SnapshotSumsUptoCardSaid : Prop := Claim7.holds Tryz.pinned (.plain (OpenSpec.upto snapshotSumsSpec)) snapshotSumsUptoCard

/-- THE SECOND FORM's CARD OF 'selfstablaw37.SnapshotInTime'. -/
def snapshotInTimeUptoCard : Claim7 := { stood := { row := snapshotInTimeUptoRow, standIns := [], harness := (true, "8f23c64f59cab12dd593e9f26b21a739fb3c65eeb83621b94043d4e333c05f91"), looks := true }, kinds := [], alts := [], laidByText := true, laidKinds := [.data], laidTests := true, laidLooks := .later }
def SnapshotInTimeUptoCardSaid : Prop := Claim7.holds Tryz.pinned (.plain (OpenSpec.upto snapshotInTimeSpec)) snapshotInTimeUptoCard

/-- THE SECOND FORM's CARD OF 'selfstablaw37.SnapshotReaches'. -/
def snapshotReachesUptoCard : Claim7 := { stood := { row := snapshotReachesUptoRow, standIns := [], harness := (true, "8f23c64f59cab12dd593e9f26b21a739fb3c65eeb83621b94043d4e333c05f91"), looks := true }, kinds := [], alts := [], laidByText := true, laidKinds := [.data], laidTests := true, laidLooks := .later }
def SnapshotReachesUptoCardSaid : Prop := Claim7.holds Tryz.pinned (.plain (OpenSpec.upto snapshotReachesSpec)) snapshotReachesUptoCard
end Rows
end Go.Proofs.YtlkhndebimcbbaaGreatDoor
