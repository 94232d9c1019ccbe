/-
  DERIVED. GIVEN WITH THE SEED: THE CARDS: each row of YtffldjghdcfpiaaGreatDoorRows.lean that lists a variable, with what it lists TIED to the program's text (the seventh form; the later family's looks); each row that meets fmt, with fmt's text TOLD by the authors' own Lean function (tested against real Go, not proved from fmt's source: count such statements apart). THE CARD IS WHAT COUNTS. Prove the row's statement (the work); the ties are given (YtffldjghdcfpiaaGreatDoorTie.lean); close each card by the builder's one call (the guide's Derived/Test/ToyasCard.lean, 'card_holds'). Laid BY PROGRAM, IN A SANDBOX (cutbox-door.mjs). By AI agents, Wed Nov 11 2026. No macro, syntax, notation, axiom, sorry.
-/
import Derived.Test.YtffldjghdcfpiaaGreatDoorRows
import GoSem.ClaimSeven
namespace Go.Proofs.YtffldjghdcfpiaaGreatDoor
namespace Rows

/-- THE TIED CARD OF 'corporatop.TopMeasures'. -/
def topMeasuresCard : Claim7 := { stood := { row := topMeasuresRow, standIns := [], harness := (true, "755e73cb15bb06bfdb2c21af9cf63e3df644daa01a2c9d258320a884f87c5f27"), looks := true }, kinds := [], alts := [], laidByText := true, laidKinds := [.data, .data, .data, .data, .pinned], laidTests := true, laidLooks := .later }
def TopMeasuresCardSaid : Prop := Claim7.holds Tryz.pinned (.plain (OpenSpec.ofChange topMeasuresSpec)) topMeasuresCard

/-- THE SECOND FORM's CARD OF 'corporatop.TopMeasures'. -/
def topMeasuresUptoCard : Claim7 := { stood := { row := topMeasuresUptoRow, standIns := [], harness := (true, "755e73cb15bb06bfdb2c21af9cf63e3df644daa01a2c9d258320a884f87c5f27"), looks := true }, kinds := [], alts := [], laidByText := true, laidKinds := [.data, .data, .data, .data, .pinned], laidTests := true, laidLooks := .later }
def TopMeasuresUptoCardSaid : Prop := Claim7.holds Tryz.pinned (.plain (OpenSpec.upto topMeasuresSpec)) topMeasuresUptoCard
end Rows
end Go.Proofs.YtffldjghdcfpiaaGreatDoor
