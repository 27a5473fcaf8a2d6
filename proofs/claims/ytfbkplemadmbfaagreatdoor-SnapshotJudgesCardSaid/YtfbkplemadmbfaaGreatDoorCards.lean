/-
  DERIVED. GIVEN WITH THE SEED: THE CARDS: each row of YtfbkplemadmbfaaGreatDoorRows.lean that lists a variable, with what it lists TIED to the program's text (the seventh form; the later family's looks); each row that meets fmt, with fmt's text TOLD by the authors' own Lean function (tested against real Go, not proved from fmt's source: count such statements apart). THE CARD IS WHAT COUNTS. Prove the row's statement (the work); the ties are given (YtfbkplemadmbfaaGreatDoorTie.lean); close each card by the builder's one call (the guide's Derived/Test/ToyasCard.lean, 'card_holds'). Laid BY PROGRAM, IN A SANDBOX (cutbox-door.mjs). By AI agents, Wed Nov 11 2026. No macro, syntax, notation, axiom, sorry.
-/
import Derived.Test.YtfbkplemadmbfaaGreatDoorRows
import GoSem.ClaimSeven
namespace Go.Proofs.YtfbkplemadmbfaaGreatDoor
namespace Rows

/-- THE TIED CARD OF 'selfstablaw40.ContainmentRegion'. -/
def containmentRegionCard : Claim7 := { stood := { row := containmentRegionRow, standIns := [], harness := (true, "93383d42f33f5117e2ea24c4422cdb02d1b8c8416158b5cbd6145d66b007fcc1"), looks := true }, kinds := [], alts := [], laidByText := true, laidKinds := [.data], laidTests := true, laidLooks := .later }
def ContainmentRegionCardSaid : Prop := Claim7.holds Tryz.pinned (.plain (OpenSpec.ofChange containmentRegionSpec)) containmentRegionCard

/-- THE TIED CARD OF 'selfstablaw38.ResetJudges'. -/
def resetJudgesCard : Claim7 := { stood := { row := resetJudgesRow, standIns := [], harness := (true, "93383d42f33f5117e2ea24c4422cdb02d1b8c8416158b5cbd6145d66b007fcc1"), looks := true }, kinds := [], alts := [], laidByText := true, laidKinds := [.data], laidTests := true, laidLooks := .later }
def ResetJudgesCardSaid : Prop := Claim7.holds Tryz.pinned (.plain (OpenSpec.ofChange resetJudgesSpec)) resetJudgesCard

/-- THE TIED CARD OF 'selfstablaw37.SnapshotJudges'. -/
def snapshotJudgesCard : Claim7 := { stood := { row := snapshotJudgesRow, standIns := [], harness := (true, "93383d42f33f5117e2ea24c4422cdb02d1b8c8416158b5cbd6145d66b007fcc1"), looks := true }, kinds := [], alts := [], laidByText := true, laidKinds := [.data], laidTests := true, laidLooks := .later }
def SnapshotJudgesCardSaid : Prop := Claim7.holds Tryz.pinned (.plain (OpenSpec.ofChange snapshotJudgesSpec)) snapshotJudgesCard

/-- THE SECOND FORM's CARD OF 'selfstablaw40.ContainmentRegion'. -/
def containmentRegionUptoCard : Claim7 := { stood := { row := containmentRegionUptoRow, standIns := [], harness := (true, "93383d42f33f5117e2ea24c4422cdb02d1b8c8416158b5cbd6145d66b007fcc1"), looks := true }, kinds := [], alts := [], laidByText := true, laidKinds := [.data], laidTests := true, laidLooks := .later }
def ContainmentRegionUptoCardSaid : Prop := Claim7.holds Tryz.pinned (.plain (OpenSpec.upto containmentRegionSpec)) containmentRegionUptoCard

/-- THE SECOND FORM's CARD OF 'selfstablaw38.ResetJudges'. -/
def resetJudgesUptoCard : Claim7 := { stood := { row := resetJudgesUptoRow, standIns := [], harness := (true, "93383d42f33f5117e2ea24c4422cdb02d1b8c8416158b5cbd6145d66b007fcc1"), looks := true }, kinds := [], alts := [], laidByText := true, laidKinds := [.data], laidTests := true, laidLooks := .later }
def ResetJudgesUptoCardSaid : Prop := Claim7.holds Tryz.pinned (.plain (OpenSpec.upto resetJudgesSpec)) resetJudgesUptoCard

/-- THE SECOND FORM's CARD OF 'selfstablaw37.SnapshotJudges'. -/
def snapshotJudgesUptoCard : Claim7 := { stood := { row := snapshotJudgesUptoRow, standIns := [], harness := (true, "93383d42f33f5117e2ea24c4422cdb02d1b8c8416158b5cbd6145d66b007fcc1"), looks := true }, kinds := [], alts := [], laidByText := true, laidKinds := [.data], laidTests := true, laidLooks := .later }
def SnapshotJudgesUptoCardSaid : Prop := Claim7.holds Tryz.pinned (.plain (OpenSpec.upto snapshotJudgesSpec)) snapshotJudgesUptoCard
end Rows
end Go.Proofs.YtfbkplemadmbfaaGreatDoor
