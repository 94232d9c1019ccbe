/-
  DERIVED. GIVEN WITH THE SEED: THE CARDS: each row of YtofijnhkoadfjaaDoorRows.lean that lists a variable, with what it lists TIED to the program's text (the seventh form; the later family's looks); each row that meets fmt, with fmt's text TOLD by the authors' own Lean function (tested against real Go, not proved from fmt's source: count such statements apart). THE CARD IS WHAT COUNTS. Prove the row's statement (the work); the ties are given (YtofijnhkoadfjaaDoorTie.lean); close each card by the builder's one call (the guide's Derived/Test/ToyasCard.lean, 'card_holds'). Laid BY PROGRAM, IN A SANDBOX (cutbox-door.mjs). By AI agents, Wed Nov 11 2026. No macro, syntax, notation, axiom, sorry.
-/
import Derived.Test.YtofijnhkoadfjaaDoorRows
import GoSem.ClaimSeven
namespace Go.Proofs.YtofijnhkoadfjaaDoor
namespace Rows

/-- THE TIED CARD OF 'corporalaw36.RatioMakes'. -/
def ratioMakesCard : Claim7 := { stood := { row := ratioMakesRow, standIns := [], harness := (true, "26947632ec150a400e4b5215b283e681676699f9bb4000b4d7beb8d96a15a239"), looks := true }, kinds := [], alts := [], laidByText := true, laidKinds := [.data, .data, .data], laidTests := true, laidLooks := .later }
def RatioMakesCardSaid : Prop := Claim7.holds Tryd.pinned (.plain (OpenSpec.ofChange ratioMakesSpec)) ratioMakesCard

/-- THE TIED CARD OF 'corporalaw36.RatioPowers'. -/
def ratioPowersCard : Claim7 := { stood := { row := ratioPowersRow, standIns := [], harness := (true, "26947632ec150a400e4b5215b283e681676699f9bb4000b4d7beb8d96a15a239"), looks := true }, kinds := [], alts := [], laidByText := true, laidKinds := [.data, .data, .data, .sentinel, .sentinel], laidTests := true, laidLooks := .later }
def RatioPowersCardSaid : Prop := Claim7.holds Tryd.pinned (.plain (OpenSpec.ofChange ratioPowersSpec)) ratioPowersCard

/-- THE TIED CARD OF 'corporalaw36.RatioTexts'. -/
def ratioTextsCard : Claim7 := { stood := { row := ratioTextsRow, standIns := [], harness := (true, "26947632ec150a400e4b5215b283e681676699f9bb4000b4d7beb8d96a15a239"), looks := true }, kinds := [], alts := [], laidByText := true, laidKinds := [.data, .data, .data, .sentinel, .sentinel], laidTests := true, laidLooks := .later }
def RatioTextsCardSaid : Prop := Claim7.holds Tryd.pinned (.plain (OpenSpec.ofChange ratioTextsSpec)) ratioTextsCard

/-- THE SECOND FORM's CARD OF 'corporalaw36.RatioMakes'. -/
def ratioMakesUptoCard : Claim7 := { stood := { row := ratioMakesUptoRow, standIns := [], harness := (true, "26947632ec150a400e4b5215b283e681676699f9bb4000b4d7beb8d96a15a239"), looks := true }, kinds := [], alts := [], laidByText := true, laidKinds := [.data, .data, .data], laidTests := true, laidLooks := .later }
def RatioMakesUptoCardSaid : Prop := Claim7.holds Tryd.pinned (.plain (OpenSpec.upto ratioMakesSpec)) ratioMakesUptoCard

/-- THE SECOND FORM's CARD OF 'corporalaw36.RatioPowers'. -/
def ratioPowersUptoCard : Claim7 := { stood := { row := ratioPowersUptoRow, standIns := [], harness := (true, "26947632ec150a400e4b5215b283e681676699f9bb4000b4d7beb8d96a15a239"), looks := true }, kinds := [], alts := [], laidByText := true, laidKinds := [.data, .data, .data, .sentinel, .sentinel], laidTests := true, laidLooks := .later }
def RatioPowersUptoCardSaid : Prop := Claim7.holds Tryd.pinned (.plain (OpenSpec.upto ratioPowersSpec)) ratioPowersUptoCard

/-- THE SECOND FORM's CARD OF 'corporalaw36.RatioTexts'. -/
def ratioTextsUptoCard : Claim7 := { stood := { row := ratioTextsUptoRow, standIns := [], harness := (true, "26947632ec150a400e4b5215b283e681676699f9bb4000b4d7beb8d96a15a239"), looks := true }, kinds := [], alts := [], laidByText := true, laidKinds := [.data, .data, .data, .sentinel, .sentinel], laidTests := true, laidLooks := .later }
def RatioTextsUptoCardSaid : Prop := Claim7.holds Tryd.pinned (.plain (OpenSpec.upto ratioTextsSpec)) ratioTextsUptoCard
end Rows
end Go.Proofs.YtofijnhkoadfjaaDoor
