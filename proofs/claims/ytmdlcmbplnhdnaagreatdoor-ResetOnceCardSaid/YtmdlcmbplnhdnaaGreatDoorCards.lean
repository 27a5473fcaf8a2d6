/-
  DERIVED. GIVEN WITH THE SEED: THE CARDS: each row of YtmdlcmbplnhdnaaGreatDoorRows.lean that lists a variable, with what it lists TIED to the program's text (the seventh form; the later family's looks); each row that meets fmt, with fmt's text TOLD by the authors' own Lean function (tested against real Go, not proved from fmt's source: count such statements apart). THE CARD IS WHAT COUNTS. Prove the row's statement (the work); the ties are given (YtmdlcmbplnhdnaaGreatDoorTie.lean); close each card by the builder's one call (the guide's Derived/Test/ToyasCard.lean, 'card_holds'). Laid BY PROGRAM, IN A SANDBOX (cutbox-door.mjs). By AI agents, Wed Nov 11 2026. No macro, syntax, notation, axiom, sorry.
-/
import Derived.Test.YtmdlcmbplnhdnaaGreatDoorRows
import GoSem.ClaimSeven
namespace Go.Proofs.YtmdlcmbplnhdnaaGreatDoor
namespace Rows

/-- THE TIED CARD OF 'selfstablaw38.ResetClears'. -/
def resetClearsCard : Claim7 := { stood := { row := resetClearsRow, standIns := [], harness := (true, "d0325af19ad1891d4d3b42ce6648ac6692c556883d91e30701cf8b087a058b31"), looks := true }, kinds := [], alts := [], laidByText := true, laidKinds := [.data], laidTests := true, laidLooks := .later }
def ResetClearsCardSaid : Prop := Claim7.holds Tryz.pinned (.plain (OpenSpec.ofChange resetClearsSpec)) resetClearsCard

/-- THE TIED CARD OF 'selfstablaw38.ResetOnce'. -/
def resetOnceCard : Claim7 := { stood := { row := resetOnceRow, standIns := [], harness := (true, "d0325af19ad1891d4d3b42ce6648ac6692c556883d91e30701cf8b087a058b31"), looks := true }, kinds := [], alts := [], laidByText := true, laidKinds := [.data], laidTests := true, laidLooks := .later }
def ResetOnceCardSaid : Prop := Claim7.holds Tryz.pinned (.plain (OpenSpec.ofChange resetOnceSpec)) resetOnceCard

/-- THE TIED CARD OF 'selfstablaw38.ResetReaches'. -/
def resetReachesCard : Claim7 := { stood := { row := resetReachesRow, standIns := [], harness := (true, "d0325af19ad1891d4d3b42ce6648ac6692c556883d91e30701cf8b087a058b31"), looks := true }, kinds := [], alts := [], laidByText := true, laidKinds := [.data], laidTests := true, laidLooks := .later }
def ResetReachesCardSaid : Prop := Claim7.holds Tryz.pinned (.plain (OpenSpec.ofChange resetReachesSpec)) resetReachesCard

/-- THE TIED CARD OF 'selfstablaw38.ResetRests'. -/
def resetRestsCard : Claim7 := { stood := { row := resetRestsRow, standIns := [], harness := (true, "d0325af19ad1891d4d3b42ce6648ac6692c556883d91e30701cf8b087a058b31"), looks := true }, kinds := [], alts := [], laidByText := true, laidKinds := [.data], laidTests := true, laidLooks := .later }
def ResetRestsCardSaid : Prop := Claim7.holds Tryz.pinned (.plain (OpenSpec.ofChange resetRestsSpec)) resetRestsCard

/-- THE SECOND FORM's CARD OF 'selfstablaw38.ResetClears'. -/
def resetClearsUptoCard : Claim7 := { stood := { row := resetClearsUptoRow, standIns := [], harness := (true, "d0325af19ad1891d4d3b42ce6648ac6692c556883d91e30701cf8b087a058b31"), looks := true }, kinds := [], alts := [], laidByText := true, laidKinds := [.data], laidTests := true, laidLooks := .later }
def ResetClearsUptoCardSaid : Prop := Claim7.holds Tryz.pinned (.plain (OpenSpec.upto resetClearsSpec)) resetClearsUptoCard

/-- THE SECOND FORM's CARD OF 'selfstablaw38.ResetOnce'. -/
def resetOnceUptoCard : Claim7 := { stood := { row := resetOnceUptoRow, standIns := [], harness := (true, "d0325af19ad1891d4d3b42ce6648ac6692c556883d91e30701cf8b087a058b31"), looks := true }, kinds := [], alts := [], laidByText := true, laidKinds := [.data], laidTests := true, laidLooks := .later }
def ResetOnceUptoCardSaid : Prop := Claim7.holds Tryz.pinned (.plain (OpenSpec.upto resetOnceSpec)) resetOnceUptoCard

/-- THE SECOND FORM's CARD OF 'selfstablaw38.ResetReaches'. -/
def resetReachesUptoCard : Claim7 := { stood := { row := resetReachesUptoRow, standIns := [], harness := (true, "d0325af19ad1891d4d3b42ce6648ac6692c556883d91e30701cf8b087a058b31"), looks := true }, kinds := [], alts := [], laidByText := true, laidKinds := [.data], laidTests := true, laidLooks := .later }
def ResetReachesUptoCardSaid : Prop := Claim7.holds Tryz.pinned (.plain (OpenSpec.upto resetReachesSpec)) resetReachesUptoCard

/-- THE SECOND FORM's CARD OF 'selfstablaw38.ResetRests'. -/
def resetRestsUptoCard : Claim7 := { stood := { row := resetRestsUptoRow, standIns := [], harness := (true, "d0325af19ad1891d4d3b42ce6648ac6692c556883d91e30701cf8b087a058b31"), looks := true }, kinds := [], alts := [], laidByText := true, laidKinds := [.data], laidTests := true, laidLooks := .later }
def ResetRestsUptoCardSaid : Prop := Claim7.holds Tryz.pinned (.plain (OpenSpec.upto resetRestsSpec)) resetRestsUptoCard
end Rows
end Go.Proofs.YtmdlcmbplnhdnaaGreatDoor
