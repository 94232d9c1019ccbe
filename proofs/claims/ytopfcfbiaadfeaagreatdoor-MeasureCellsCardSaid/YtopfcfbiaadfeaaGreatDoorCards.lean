/-
  DERIVED. GIVEN WITH THE SEED: THE CARDS: each row of YtopfcfbiaadfeaaGreatDoorRows.lean that lists a variable, with what it lists TIED to the program's text (the seventh form; the later family's looks); each row that meets fmt, with fmt's text TOLD by the authors' own Lean function (tested against real Go, not proved from fmt's source: count such statements apart). THE CARD IS WHAT COUNTS. Prove the row's statement (the work); the ties are given (YtopfcfbiaadfeaaGreatDoorTie.lean); close each card by the builder's one call (the guide's Derived/Test/ToyasCard.lean, 'card_holds'). Laid BY PROGRAM, IN A SANDBOX (cutbox-door.mjs). By AI agents, Wed Nov 11 2026. No macro, syntax, notation, axiom, sorry.
-/
import Derived.Test.YtopfcfbiaadfeaaGreatDoorRows
import GoSem.ClaimSeven
namespace Go.Proofs.YtopfcfbiaadfeaaGreatDoor
namespace Rows

/-- THE TIED CARD OF 'corporalaw38.MeasureCells'. -/
def measureCellsCard : Claim7 := { stood := { row := measureCellsRow, standIns := [], harness := (true, "b56ec08d87828832dade8e3cd007e7f09535ba9fe33a492e1cb141f2236b7201"), looks := true }, kinds := [], alts := [], laidByText := true, laidKinds := [.data, .data, .data], laidTests := true, laidLooks := .later }
def MeasureCellsCardSaid : Prop := Claim7.holds Tryz.pinned (.plain (OpenSpec.ofChange measureCellsSpec)) measureCellsCard

/-- THE TIED CARD OF 'corporalaw38.MeasureRaw'. -/
def measureRawCard : Claim7 := { stood := { row := measureRawRow, standIns := [], harness := (true, "b56ec08d87828832dade8e3cd007e7f09535ba9fe33a492e1cb141f2236b7201"), looks := true }, kinds := [], alts := [], laidByText := true, laidKinds := [.data, .data, .data], laidTests := true, laidLooks := .later }
def MeasureRawCardSaid : Prop := Claim7.holds Tryz.pinned (.plain (OpenSpec.ofChange measureRawSpec)) measureRawCard

/-- THE TIED CARD OF 'corporalaw38.MeasureKeywords'. -/
def measureKeywordsCard : Claim7 := { stood := { row := measureKeywordsRow, standIns := [], harness := (true, "b56ec08d87828832dade8e3cd007e7f09535ba9fe33a492e1cb141f2236b7201"), looks := true }, kinds := [], alts := [], laidByText := true, laidKinds := [.data, .data, .data], laidTests := true, laidLooks := .later }
def MeasureKeywordsCardSaid : Prop := Claim7.holds Tryz.pinned (.plain (OpenSpec.ofChange measureKeywordsSpec)) measureKeywordsCard

/-- THE TIED CARD OF 'corporalaw38.MeasureCollocates'. -/
def measureCollocatesCard : Claim7 := { stood := { row := measureCollocatesRow, standIns := [], harness := (true, "b56ec08d87828832dade8e3cd007e7f09535ba9fe33a492e1cb141f2236b7201"), looks := true }, kinds := [], alts := [], laidByText := true, laidKinds := [.data, .data, .data], laidTests := true, laidLooks := .later }
def MeasureCollocatesCardSaid : Prop := Claim7.holds Tryz.pinned (.plain (OpenSpec.ofChange measureCollocatesSpec)) measureCollocatesCard

/-- THE TIED CARD OF 'corporalaw38.MeasureWindows'. -/
def measureWindowsCard : Claim7 := { stood := { row := measureWindowsRow, standIns := [], harness := (true, "b56ec08d87828832dade8e3cd007e7f09535ba9fe33a492e1cb141f2236b7201"), looks := true }, kinds := [], alts := [], laidByText := true, laidKinds := [.data, .data, .data], laidTests := true, laidLooks := .later }
def MeasureWindowsCardSaid : Prop := Claim7.holds Tryz.pinned (.plain (OpenSpec.ofChange measureWindowsSpec)) measureWindowsCard

/-- THE TIED CARD OF 'corporalaw38.MeasureErrors'. -/
def measureErrorsCard : Claim7 := { stood := { row := measureErrorsRow, standIns := [], harness := (true, "b56ec08d87828832dade8e3cd007e7f09535ba9fe33a492e1cb141f2236b7201"), looks := true }, kinds := [], alts := [], laidByText := true, laidKinds := [.data, .data, .data], laidTests := true, laidLooks := .later }
def MeasureErrorsCardSaid : Prop := Claim7.holds Tryz.pinned (.plain (OpenSpec.ofChange measureErrorsSpec)) measureErrorsCard

/-- THE SECOND FORM's CARD OF 'corporalaw38.MeasureCells'. -/
def measureCellsUptoCard : Claim7 := { stood := { row := measureCellsUptoRow, standIns := [], harness := (true, "b56ec08d87828832dade8e3cd007e7f09535ba9fe33a492e1cb141f2236b7201"), looks := true }, kinds := [], alts := [], laidByText := true, laidKinds := [.data, .data, .data], laidTests := true, laidLooks := .later }
def MeasureCellsUptoCardSaid : Prop := Claim7.holds Tryz.pinned (.plain (OpenSpec.upto measureCellsSpec)) measureCellsUptoCard

/-- THE SECOND FORM's CARD OF 'corporalaw38.MeasureRaw'. -/
def measureRawUptoCard : Claim7 := { stood := { row := measureRawUptoRow, standIns := [], harness := (true, "b56ec08d87828832dade8e3cd007e7f09535ba9fe33a492e1cb141f2236b7201"), looks := true }, kinds := [], alts := [], laidByText := true, laidKinds := [.data, .data, .data], laidTests := true, laidLooks := .later }
def MeasureRawUptoCardSaid : Prop := Claim7.holds Tryz.pinned (.plain (OpenSpec.upto measureRawSpec)) measureRawUptoCard

/-- THE SECOND FORM's CARD OF 'corporalaw38.MeasureKeywords'. -/
def measureKeywordsUptoCard : Claim7 := { stood := { row := measureKeywordsUptoRow, standIns := [], harness := (true, "b56ec08d87828832dade8e3cd007e7f09535ba9fe33a492e1cb141f2236b7201"), looks := true }, kinds := [], alts := [], laidByText := true, laidKinds := [.data, .data, .data], laidTests := true, laidLooks := .later }
def MeasureKeywordsUptoCardSaid : Prop := Claim7.holds Tryz.pinned (.plain (OpenSpec.upto measureKeywordsSpec)) measureKeywordsUptoCard

/-- THE SECOND FORM's CARD OF 'corporalaw38.MeasureCollocates'. -/
def measureCollocatesUptoCard : Claim7 := { stood := { row := measureCollocatesUptoRow, standIns := [], harness := (true, "b56ec08d87828832dade8e3cd007e7f09535ba9fe33a492e1cb141f2236b7201"), looks := true }, kinds := [], alts := [], laidByText := true, laidKinds := [.data, .data, .data], laidTests := true, laidLooks := .later }
def MeasureCollocatesUptoCardSaid : Prop := Claim7.holds Tryz.pinned (.plain (OpenSpec.upto measureCollocatesSpec)) measureCollocatesUptoCard

/-- THE SECOND FORM's CARD OF 'corporalaw38.MeasureWindows'. -/
def measureWindowsUptoCard : Claim7 := { stood := { row := measureWindowsUptoRow, standIns := [], harness := (true, "b56ec08d87828832dade8e3cd007e7f09535ba9fe33a492e1cb141f2236b7201"), looks := true }, kinds := [], alts := [], laidByText := true, laidKinds := [.data, .data, .data], laidTests := true, laidLooks := .later }
def MeasureWindowsUptoCardSaid : Prop := Claim7.holds Tryz.pinned (.plain (OpenSpec.upto measureWindowsSpec)) measureWindowsUptoCard

/-- THE SECOND FORM's CARD OF 'corporalaw38.MeasureErrors'. -/
def measureErrorsUptoCard : Claim7 := { stood := { row := measureErrorsUptoRow, standIns := [], harness := (true, "b56ec08d87828832dade8e3cd007e7f09535ba9fe33a492e1cb141f2236b7201"), looks := true }, kinds := [], alts := [], laidByText := true, laidKinds := [.data, .data, .data], laidTests := true, laidLooks := .later }
def MeasureErrorsUptoCardSaid : Prop := Claim7.holds Tryz.pinned (.plain (OpenSpec.upto measureErrorsSpec)) measureErrorsUptoCard
end Rows
end Go.Proofs.YtopfcfbiaadfeaaGreatDoor
