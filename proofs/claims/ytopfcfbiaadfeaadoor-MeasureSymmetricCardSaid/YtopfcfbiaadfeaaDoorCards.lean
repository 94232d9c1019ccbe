/-
  DERIVED. GIVEN WITH THE SEED: THE CARDS: each row of YtopfcfbiaadfeaaDoorRows.lean that lists a variable, with what it lists TIED to the program's text (the seventh form; the later family's looks); each row that meets fmt, with fmt's text TOLD by the authors' own Lean function (tested against real Go, not proved from fmt's source: count such statements apart). THE CARD IS WHAT COUNTS. Prove the row's statement (the work); the ties are given (YtopfcfbiaadfeaaDoorTie.lean); close each card by the builder's one call (the guide's Derived/Test/ToyasCard.lean, 'card_holds'). Laid BY PROGRAM, IN A SANDBOX (cutbox-door.mjs). By AI agents, Wed Nov 11 2026. No macro, syntax, notation, axiom, sorry.
-/
import Derived.Test.YtopfcfbiaadfeaaDoorRows
import GoSem.ClaimSeven
namespace Go.Proofs.YtopfcfbiaadfeaaDoor
namespace Rows

/-- THE TIED CARD OF 'corporalaw38.MeasureBounds'. -/
def measureBoundsCard : Claim7 := { stood := { row := measureBoundsRow, standIns := [], harness := (true, "f0a0f5b4f3206d16cc636b9183242157b11935af166a86f36ed6d07f43cb5506"), looks := true }, kinds := [], alts := [], laidByText := true, laidKinds := [.data, .data, .data], laidTests := true, laidLooks := .later }
def MeasureBoundsCardSaid : Prop := Claim7.holds Tryd.pinned (.plain (OpenSpec.ofChange measureBoundsSpec)) measureBoundsCard

/-- THE TIED CARD OF 'corporalaw38.MeasureSymmetric'. -/
def measureSymmetricCard : Claim7 := { stood := { row := measureSymmetricRow, standIns := [], harness := (true, "f0a0f5b4f3206d16cc636b9183242157b11935af166a86f36ed6d07f43cb5506"), looks := true }, kinds := [], alts := [], laidByText := true, laidKinds := [.data, .data, .data], laidTests := true, laidLooks := .later }
def MeasureSymmetricCardSaid : Prop := Claim7.holds Tryd.pinned (.plain (OpenSpec.ofChange measureSymmetricSpec)) measureSymmetricCard

/-- THE TIED CARD OF 'corporalaw38.MeasureIndependent'. -/
def measureIndependentCard : Claim7 := { stood := { row := measureIndependentRow, standIns := [], harness := (true, "f0a0f5b4f3206d16cc636b9183242157b11935af166a86f36ed6d07f43cb5506"), looks := true }, kinds := [], alts := [], laidByText := true, laidKinds := [.data, .data, .data], laidTests := true, laidLooks := .later }
def MeasureIndependentCardSaid : Prop := Claim7.holds Tryd.pinned (.plain (OpenSpec.ofChange measureIndependentSpec)) measureIndependentCard

/-- THE SECOND FORM's CARD OF 'corporalaw38.MeasureBounds'. -/
def measureBoundsUptoCard : Claim7 := { stood := { row := measureBoundsUptoRow, standIns := [], harness := (true, "f0a0f5b4f3206d16cc636b9183242157b11935af166a86f36ed6d07f43cb5506"), looks := true }, kinds := [], alts := [], laidByText := true, laidKinds := [.data, .data, .data], laidTests := true, laidLooks := .later }
def MeasureBoundsUptoCardSaid : Prop := Claim7.holds Tryd.pinned (.plain (OpenSpec.upto measureBoundsSpec)) measureBoundsUptoCard

/-- THE SECOND FORM's CARD OF 'corporalaw38.MeasureSymmetric'. -/
def measureSymmetricUptoCard : Claim7 := { stood := { row := measureSymmetricUptoRow, standIns := [], harness := (true, "f0a0f5b4f3206d16cc636b9183242157b11935af166a86f36ed6d07f43cb5506"), looks := true }, kinds := [], alts := [], laidByText := true, laidKinds := [.data, .data, .data], laidTests := true, laidLooks := .later }
def MeasureSymmetricUptoCardSaid : Prop := Claim7.holds Tryd.pinned (.plain (OpenSpec.upto measureSymmetricSpec)) measureSymmetricUptoCard

/-- THE SECOND FORM's CARD OF 'corporalaw38.MeasureIndependent'. -/
def measureIndependentUptoCard : Claim7 := { stood := { row := measureIndependentUptoRow, standIns := [], harness := (true, "f0a0f5b4f3206d16cc636b9183242157b11935af166a86f36ed6d07f43cb5506"), looks := true }, kinds := [], alts := [], laidByText := true, laidKinds := [.data, .data, .data], laidTests := true, laidLooks := .later }
def MeasureIndependentUptoCardSaid : Prop := Claim7.holds Tryd.pinned (.plain (OpenSpec.upto measureIndependentSpec)) measureIndependentUptoCard
end Rows
end Go.Proofs.YtopfcfbiaadfeaaDoor
