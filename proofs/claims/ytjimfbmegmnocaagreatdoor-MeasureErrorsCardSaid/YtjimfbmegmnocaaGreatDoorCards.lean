/-
  DERIVED. GIVEN WITH THE SEED: THE CARDS: each row of YtjimfbmegmnocaaGreatDoorRows.lean that lists a variable, with what it lists TIED to the program's text (the seventh form; the later family's looks); each row that meets fmt, with fmt's text TOLD by the authors' own Lean function (tested against real Go, not proved from fmt's source: count such statements apart). THE CARD IS WHAT COUNTS. Prove the row's statement (the work); the ties are given (YtjimfbmegmnocaaGreatDoorTie.lean); close each card by the builder's one call (the guide's Derived/Test/ToyasCard.lean, 'card_holds'). Laid BY PROGRAM, IN A SANDBOX (cutbox-door.mjs). By AI agents, Wed Nov 11 2026. No macro, syntax, notation, axiom, sorry.
-/
import Derived.Test.YtjimfbmegmnocaaGreatDoorRows
import GoSem.ClaimSeven
namespace Go.Proofs.YtjimfbmegmnocaaGreatDoor
namespace Rows

/-- THE TIED CARD OF 'corporalaw38.MeasureKeywords'. -/
def measureKeywordsCard : Claim7 := { stood := { row := measureKeywordsRow, standIns := [], harness := (true, "b43bb91e5211d98002139c0a1d99f8b91ef06c003a851ddabc66a3bd012c8375"), looks := true }, kinds := [], alts := [], laidByText := true, laidKinds := [.data, .data, .data], laidTests := true, laidLooks := .later }
def MeasureKeywordsCardSaid : Prop := Claim7.holds Tryz.pinned (.plain (OpenSpec.ofChange measureKeywordsSpec)) measureKeywordsCard

/-- THE TIED CARD OF 'corporalaw38.MeasureCollocates'. -/
def measureCollocatesCard : Claim7 := { stood := { row := measureCollocatesRow, standIns := [], harness := (true, "b43bb91e5211d98002139c0a1d99f8b91ef06c003a851ddabc66a3bd012c8375"), looks := true }, kinds := [], alts := [], laidByText := true, laidKinds := [.data, .data, .data], laidTests := true, laidLooks := .later }
def MeasureCollocatesCardSaid : Prop := Claim7.holds Tryz.pinned (.plain (OpenSpec.ofChange measureCollocatesSpec)) measureCollocatesCard

/-- THE TIED CARD OF 'corporalaw38.MeasureWindows'. -/
def measureWindowsCard : Claim7 := { stood := { row := measureWindowsRow, standIns := [], harness := (true, "b43bb91e5211d98002139c0a1d99f8b91ef06c003a851ddabc66a3bd012c8375"), looks := true }, kinds := [], alts := [], laidByText := true, laidKinds := [.data, .data, .data], laidTests := true, laidLooks := .later }
def MeasureWindowsCardSaid : Prop := Claim7.holds Tryz.pinned (.plain (OpenSpec.ofChange measureWindowsSpec)) measureWindowsCard

/-- THE TIED CARD OF 'corporalaw38.MeasureErrors'. -/
def measureErrorsCard : Claim7 := { stood := { row := measureErrorsRow, standIns := [], harness := (true, "b43bb91e5211d98002139c0a1d99f8b91ef06c003a851ddabc66a3bd012c8375"), looks := true }, kinds := [], alts := [], laidByText := true, laidKinds := [.data, .data, .data], laidTests := true, laidLooks := .later }
def MeasureErrorsCardSaid : Prop := Claim7.holds Tryz.pinned (.plain (OpenSpec.ofChange measureErrorsSpec)) measureErrorsCard

/-- THE SECOND FORM's CARD OF 'corporalaw38.MeasureKeywords'. -/
def measureKeywordsUptoCard : Claim7 := { stood := { row := measureKeywordsUptoRow, standIns := [], harness := (true, "b43bb91e5211d98002139c0a1d99f8b91ef06c003a851ddabc66a3bd012c8375"), looks := true }, kinds := [], alts := [], laidByText := true, laidKinds := [.data, .data, .data], laidTests := true, laidLooks := .later }
def MeasureKeywordsUptoCardSaid : Prop := Claim7.holds Tryz.pinned (.plain (OpenSpec.upto measureKeywordsSpec)) measureKeywordsUptoCard

/-- THE SECOND FORM's CARD OF 'corporalaw38.MeasureCollocates'. -/
def measureCollocatesUptoCard : Claim7 := { stood := { row := measureCollocatesUptoRow, standIns := [], harness := (true, "b43bb91e5211d98002139c0a1d99f8b91ef06c003a851ddabc66a3bd012c8375"), looks := true }, kinds := [], alts := [], laidByText := true, laidKinds := [.data, .data, .data], laidTests := true, laidLooks := .later }
def MeasureCollocatesUptoCardSaid : Prop := Claim7.holds Tryz.pinned (.plain (OpenSpec.upto measureCollocatesSpec)) measureCollocatesUptoCard

/-- THE SECOND FORM's CARD OF 'corporalaw38.MeasureWindows'. -/
def measureWindowsUptoCard : Claim7 := { stood := { row := measureWindowsUptoRow, standIns := [], harness := (true, "b43bb91e5211d98002139c0a1d99f8b91ef06c003a851ddabc66a3bd012c8375"), looks := true }, kinds := [], alts := [], laidByText := true, laidKinds := [.data, .data, .data], laidTests := true, laidLooks := .later }
def MeasureWindowsUptoCardSaid : Prop := Claim7.holds Tryz.pinned (.plain (OpenSpec.upto measureWindowsSpec)) measureWindowsUptoCard

/-- THE SECOND FORM's CARD OF 'corporalaw38.MeasureErrors'. -/
def measureErrorsUptoCard : Claim7 := { stood := { row := measureErrorsUptoRow, standIns := [], harness := (true, "b43bb91e5211d98002139c0a1d99f8b91ef06c003a851ddabc66a3bd012c8375"), looks := true }, kinds := [], alts := [], laidByText := true, laidKinds := [.data, .data, .data], laidTests := true, laidLooks := .later }
def MeasureErrorsUptoCardSaid : Prop := Claim7.holds Tryz.pinned (.plain (OpenSpec.upto measureErrorsSpec)) measureErrorsUptoCard
end Rows
end Go.Proofs.YtjimfbmegmnocaaGreatDoor
