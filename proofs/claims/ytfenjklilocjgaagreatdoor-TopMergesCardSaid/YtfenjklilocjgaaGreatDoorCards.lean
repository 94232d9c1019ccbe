/-
  DERIVED. GIVEN WITH THE SEED: THE CARDS: each row of YtfenjklilocjgaaGreatDoorRows.lean that lists a variable, with what it lists TIED to the program's text (the seventh form; the later family's looks); each row that meets fmt, with fmt's text TOLD by the authors' own Lean function (tested against real Go, not proved from fmt's source: count such statements apart). THE CARD IS WHAT COUNTS. Prove the row's statement (the work); the ties are given (YtfenjklilocjgaaGreatDoorTie.lean); close each card by the builder's one call (the guide's Derived/Test/ToyasCard.lean, 'card_holds'). Laid BY PROGRAM, IN A SANDBOX (cutbox-door.mjs). By AI agents, Wed Nov 11 2026. No macro, syntax, notation, axiom, sorry.
-/
import Derived.Test.YtfenjklilocjgaaGreatDoorRows
import GoSem.ClaimSeven
namespace Go.Proofs.YtfenjklilocjgaaGreatDoor
namespace Rows

/-- THE TIED CARD OF 'corporatop.TopMerges'. -/
def topMergesCard : Claim7 := { stood := { row := topMergesRow, standIns := [], harness := (true, "5d4ec0eb04c794e29892e7c0b7963fe282da82468390dc04221f487b7339807a"), looks := true }, kinds := [], alts := [], laidByText := true, laidKinds := [.data, .pinned], laidTests := true, laidLooks := .later }
def TopMergesCardSaid : Prop := Claim7.holds Tryz.pinned (.plain (OpenSpec.ofChange topMergesSpec)) topMergesCard

/-- THE SECOND FORM's CARD OF 'corporatop.TopMerges'. -/
def topMergesUptoCard : Claim7 := { stood := { row := topMergesUptoRow, standIns := [], harness := (true, "5d4ec0eb04c794e29892e7c0b7963fe282da82468390dc04221f487b7339807a"), looks := true }, kinds := [], alts := [], laidByText := true, laidKinds := [.data, .pinned], laidTests := true, laidLooks := .later }
def TopMergesUptoCardSaid : Prop := Claim7.holds Tryz.pinned (.plain (OpenSpec.upto topMergesSpec)) topMergesUptoCard
end Rows
end Go.Proofs.YtfenjklilocjgaaGreatDoor
