/-
  DERIVED. GIVEN WITH THE SEED: THE CARDS: each row of YtocknfhgjmaibaaGreatDoorRows.lean that lists a variable, with what it lists TIED to the program's text (the seventh form; the later family's looks); each row that meets fmt, with fmt's text TOLD by the authors' own Lean function (tested against real Go, not proved from fmt's source: count such statements apart). THE CARD IS WHAT COUNTS. Prove the row's statement (the work); the ties are given (YtocknfhgjmaibaaGreatDoorTie.lean); close each card by the builder's one call (the guide's Derived/Test/ToyasCard.lean, 'card_holds'). Laid BY PROGRAM, IN A SANDBOX (cutbox-door.mjs). By AI agents, Wed Nov 11 2026. No macro, syntax, notation, axiom, sorry.
-/
import Derived.Test.YtocknfhgjmaibaaGreatDoorRows
import GoSem.ClaimSeven
namespace Go.Proofs.YtocknfhgjmaibaaGreatDoor
namespace Rows

/-- THE TIED CARD OF 'corporalaw38.MeasureRaw'. -/
def measureRawCard : Claim7 := { stood := { row := measureRawRow, standIns := [], harness := (true, "b397525d70bc617f3af086ca02abe0d7dd4632d3e3003df329a64b57c463ffd1"), looks := true }, kinds := [], alts := [], laidByText := true, laidKinds := [.data, .data, .data], laidTests := true, laidLooks := .later }
def MeasureRawCardSaid : Prop := Claim7.holds Tryz.pinned (.plain (OpenSpec.ofChange measureRawSpec)) measureRawCard

/-- THE SECOND FORM's CARD OF 'corporalaw38.MeasureRaw'. -/
def measureRawUptoCard : Claim7 := { stood := { row := measureRawUptoRow, standIns := [], harness := (true, "b397525d70bc617f3af086ca02abe0d7dd4632d3e3003df329a64b57c463ffd1"), looks := true }, kinds := [], alts := [], laidByText := true, laidKinds := [.data, .data, .data], laidTests := true, laidLooks := .later }
def MeasureRawUptoCardSaid : Prop := Claim7.holds Tryz.pinned (.plain (OpenSpec.upto measureRawSpec)) measureRawUptoCard
end Rows
end Go.Proofs.YtocknfhgjmaibaaGreatDoor
