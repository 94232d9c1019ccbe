/-
  No cell of these rows narrows 'for every input' (looked for: loops, veiled, ifaces, maps, wideKeys, modest, calm, conditions, laid).
  DERIVED. THE GIVEN ROWS OF THIS SEAT. 6 by the template 'for every input the law returns true; each argument reads behind the call as it read before'; 0 by the template 'total and deterministic' (their statements: YtofijnhkoadfjaaTotals.lean).
  GIVEN WITH THE SEED: the statements are not yours to turn. If you find one false, say at which input.
  Laid BY PROGRAM, IN A SANDBOX (cutbox-rows.mjs): the forced cells as the released guide's own fill.sh prints them over the translation d211a3ea32642ad5… (all of the seat's roots in one cut). By AI agents, Wed Nov 11 2026. No macro, syntax, notation, axiom, sorry.
-/
import Derived.Test.YtofijnhkoadfjaaChecked
import GoSem.Claim
import GoSem.ClaimJoined
import GoSem.ClaimMapViews
import Derived.JoinedTies
import Derived.KernelRfl
namespace Go.Proofs.Ytofijnhkoadfjaa
/- THE CELL 'sum', in the pinned program and in every row, IS THE sha256 OF THE DUMP (.gsa) THAT YtofijnhkoadfjaaProg.lean LOADS. Nothing in Lean hashes anything: it is a label: what it is worth is what the hold of that sum in a sandbox is worth. -/
noncomputable def Try.pinned : Pinned := { name := "ytofijnhkoadfjaa", sum := "d211a3ea32642ad5d653c353f17b4fa5d9abf10cdc8ddcab27078b4b4625ac6c", checked := Try.checked }
namespace Rows
def none {H : Type} : Left H := { results := [], args := [] }

/-- 'corporalaw36.RatioDivides': WHATEVER THE INPUT: true; the input reads as it did. -/
def ratioDividesSpec : ChangeSpec := { name := "ratioDivides", fn := fun _ => fun
  | [d1, d2] => { results := [.lit (.bool true)], args := [d1, d2] }
  | _ => none }
def ratioDividesRow : OpenClaim := { program := "ytofijnhkoadfjaa", sum := "d211a3ea32642ad5d653c353f17b4fa5d9abf10cdc8ddcab27078b4b4625ac6c", func := "corpora/corporalaw36.RatioDivides", spec := "ratioDivides", inPlace := ["internal/bytealg.abigen_runtime_cmpstring"], unfollowed := true, recurses := true, apart := false }
def RatioDividesSaid : Prop := ratioDividesRow.holds Try.pinned (OpenSpec.ofChange ratioDividesSpec)

/-- ITS FALSE NEIGHBOUR: 'it returns false'. Refute it at one input. -/
def ratioDividesWrong : ChangeSpec := { name := "ratioDivides", fn := fun _ => fun
  | [d1, d2] => { results := [.lit (.bool false)], args := [d1, d2] }
  | _ => none }
def RatioDividesWrongFalsely : Prop := ratioDividesRow.holds Try.pinned (OpenSpec.ofChange ratioDividesWrong)

/-- 'corporalaw36.RatioNaturals': WHATEVER THE INPUT: true; the input reads as it did. -/
def ratioNaturalsSpec : ChangeSpec := { name := "ratioNaturals", fn := fun _ => fun
  | [d1, d2] => { results := [.lit (.bool true)], args := [d1, d2] }
  | _ => none }
def ratioNaturalsRow : OpenClaim := { program := "ytofijnhkoadfjaa", sum := "d211a3ea32642ad5d653c353f17b4fa5d9abf10cdc8ddcab27078b4b4625ac6c", func := "corpora/corporalaw36.RatioNaturals", spec := "ratioNaturals", inPlace := ["internal/bytealg.abigen_runtime_cmpstring"], unfollowed := true, recurses := true, apart := false }
def RatioNaturalsSaid : Prop := ratioNaturalsRow.holds Try.pinned (OpenSpec.ofChange ratioNaturalsSpec)

/-- ITS FALSE NEIGHBOUR: 'it returns false'. Refute it at one input. -/
def ratioNaturalsWrong : ChangeSpec := { name := "ratioNaturals", fn := fun _ => fun
  | [d1, d2] => { results := [.lit (.bool false)], args := [d1, d2] }
  | _ => none }
def RatioNaturalsWrongFalsely : Prop := ratioNaturalsRow.holds Try.pinned (OpenSpec.ofChange ratioNaturalsWrong)

/-- 'corporalaw36.RatioField': WHATEVER THE INPUT: true; the input reads as it did. -/
def ratioFieldSpec : ChangeSpec := { name := "ratioField", fn := fun _ => fun
  | [d1, d2, d3] => { results := [.lit (.bool true)], args := [d1, d2, d3] }
  | _ => none }
def ratioFieldRow : OpenClaim := { program := "ytofijnhkoadfjaa", sum := "d211a3ea32642ad5d653c353f17b4fa5d9abf10cdc8ddcab27078b4b4625ac6c", func := "corpora/corporalaw36.RatioField", spec := "ratioField", recurses := true, apart := false }
def RatioFieldSaid : Prop := ratioFieldRow.holds Try.pinned (OpenSpec.ofChange ratioFieldSpec)

/-- ITS FALSE NEIGHBOUR: 'it returns false'. Refute it at one input. -/
def ratioFieldWrong : ChangeSpec := { name := "ratioField", fn := fun _ => fun
  | [d1, d2, d3] => { results := [.lit (.bool false)], args := [d1, d2, d3] }
  | _ => none }
def RatioFieldWrongFalsely : Prop := ratioFieldRow.holds Try.pinned (OpenSpec.ofChange ratioFieldWrong)

/-- 'corporalaw36.RatioInverse': WHATEVER THE INPUT: true; the input reads as it did. -/
def ratioInverseSpec : ChangeSpec := { name := "ratioInverse", fn := fun _ => fun
  | [d1, d2] => { results := [.lit (.bool true)], args := [d1, d2] }
  | _ => none }
def ratioInverseRow : OpenClaim := { program := "ytofijnhkoadfjaa", sum := "d211a3ea32642ad5d653c353f17b4fa5d9abf10cdc8ddcab27078b4b4625ac6c", func := "corpora/corporalaw36.RatioInverse", spec := "ratioInverse", recurses := true, apart := false }
def RatioInverseSaid : Prop := ratioInverseRow.holds Try.pinned (OpenSpec.ofChange ratioInverseSpec)

/-- ITS FALSE NEIGHBOUR: 'it returns false'. Refute it at one input. -/
def ratioInverseWrong : ChangeSpec := { name := "ratioInverse", fn := fun _ => fun
  | [d1, d2] => { results := [.lit (.bool false)], args := [d1, d2] }
  | _ => none }
def RatioInverseWrongFalsely : Prop := ratioInverseRow.holds Try.pinned (OpenSpec.ofChange ratioInverseWrong)

/-- 'corporalaw36.RatioOrder': WHATEVER THE INPUT: true; the input reads as it did. -/
def ratioOrderSpec : ChangeSpec := { name := "ratioOrder", fn := fun _ => fun
  | [d1, d2] => { results := [.lit (.bool true)], args := [d1, d2] }
  | _ => none }
def ratioOrderRow : OpenClaim := { program := "ytofijnhkoadfjaa", sum := "d211a3ea32642ad5d653c353f17b4fa5d9abf10cdc8ddcab27078b4b4625ac6c", func := "corpora/corporalaw36.RatioOrder", spec := "ratioOrder", inPlace := ["internal/bytealg.IndexByteString", "internal/bytealg.IndexString"], recurses := true, named := ["internal/bytealg.MaxLen"], apart := false }
def RatioOrderSaid : Prop := ratioOrderRow.holds Try.pinned (OpenSpec.ofChange ratioOrderSpec)

/-- ITS FALSE NEIGHBOUR: 'it returns false'. Refute it at one input. -/
def ratioOrderWrong : ChangeSpec := { name := "ratioOrder", fn := fun _ => fun
  | [d1, d2] => { results := [.lit (.bool false)], args := [d1, d2] }
  | _ => none }
def RatioOrderWrongFalsely : Prop := ratioOrderRow.holds Try.pinned (OpenSpec.ofChange ratioOrderWrong)

/-- 'corporalaw36.RatioRaw': WHATEVER THE INPUT: true; the input reads as it did. -/
def ratioRawSpec : ChangeSpec := { name := "ratioRaw", fn := fun _ => fun
  | [d1, d2, d3] => { results := [.lit (.bool true)], args := [d1, d2, d3] }
  | _ => none }
def ratioRawRow : OpenClaim := { program := "ytofijnhkoadfjaa", sum := "d211a3ea32642ad5d653c353f17b4fa5d9abf10cdc8ddcab27078b4b4625ac6c", func := "corpora/corporalaw36.RatioRaw", spec := "ratioRaw", inPlace := ["internal/bytealg.IndexByteString", "internal/bytealg.IndexString"], recurses := true, named := ["internal/bytealg.MaxLen"], apart := false }
def RatioRawSaid : Prop := ratioRawRow.holds Try.pinned (OpenSpec.ofChange ratioRawSpec)

/-- ITS FALSE NEIGHBOUR: 'it returns false'. Refute it at one input. -/
def ratioRawWrong : ChangeSpec := { name := "ratioRaw", fn := fun _ => fun
  | [d1, d2, d3] => { results := [.lit (.bool false)], args := [d1, d2, d3] }
  | _ => none }
def RatioRawWrongFalsely : Prop := ratioRawRow.holds Try.pinned (OpenSpec.ofChange ratioRawWrong)

/- THE SECOND FORM. 'bulk': how many values and letters a reading holds, each counted each time it is reached (what is shared counts as often as it is met; a slice's spare places count too). A statement '..UptoSaid' is the law's where the arguments, and the package variables that the reading takes, are together of bulk at most 1048576: NARROWER than '..Said'. Prove '..Said' where nothing that the law and all that it calls make is longer than what came in: it says more and counts as full. Else prove '..UptoSaid'. A law counts once. -/
mutual
def uptoBulk {H : Type} : DataW H → Nat
  | .lit (.string bytes) => bytes.length + 1
  | .lit _ => 1
  | .nil => 1
  | .ptr d => uptoBulk d + 1
  | .slice elems spare => uptoBulkAll elems + uptoBulkAll spare + 1
  | .agg parts => uptoBulkAll parts + 1
  | .iface _ d => uptoBulk d + 1
  | .map entries => uptoBulkEntries entries + 1
  | .held _ => 1
def uptoBulkAll {H : Type} : List (DataW H) → Nat
  | [] => 0
  | d :: r => uptoBulk d + uptoBulkAll r
def uptoBulkEntries {H : Type} : List (Lit × DataW H) → Nat
  | [] => 0
  | x :: r => uptoBulkEntry x + uptoBulkEntries r
def uptoBulkEntry {H : Type} : Lit × DataW H → Nat
  | (.string bytes, d) => bytes.length + uptoBulk d + 1
  | (_, d) => uptoBulk d + 1
 end
def uptoSmall : (H : Type) → List (DataW H) → Bool := fun _ ds => decide (uptoBulkAll ds ≤ 1048576)
def OpenSpec.upto (s : _root_.Go.ChangeSpec) : _root_.Go.OpenSpec := { _root_.Go.OpenSpec.ofChange s with cond := some uptoSmall }

/-- 'corporalaw36.RatioDivides', WHERE WHAT IT READS IS OF BULK AT MOST 1048576: true; the input reads as it did. -/
def ratioDividesUptoRow : OpenClaim := { program := "ytofijnhkoadfjaa", sum := "d211a3ea32642ad5d653c353f17b4fa5d9abf10cdc8ddcab27078b4b4625ac6c", func := "corpora/corporalaw36.RatioDivides", spec := "ratioDivides", inPlace := ["internal/bytealg.abigen_runtime_cmpstring"], unfollowed := true, recurses := true, apart := false, narrowed := true }
def RatioDividesUptoSaid : Prop := ratioDividesUptoRow.holds Try.pinned (OpenSpec.upto ratioDividesSpec)

/-- 'corporalaw36.RatioNaturals', WHERE WHAT IT READS IS OF BULK AT MOST 1048576: true; the input reads as it did. -/
def ratioNaturalsUptoRow : OpenClaim := { program := "ytofijnhkoadfjaa", sum := "d211a3ea32642ad5d653c353f17b4fa5d9abf10cdc8ddcab27078b4b4625ac6c", func := "corpora/corporalaw36.RatioNaturals", spec := "ratioNaturals", inPlace := ["internal/bytealg.abigen_runtime_cmpstring"], unfollowed := true, recurses := true, apart := false, narrowed := true }
def RatioNaturalsUptoSaid : Prop := ratioNaturalsUptoRow.holds Try.pinned (OpenSpec.upto ratioNaturalsSpec)

/-- 'corporalaw36.RatioField', WHERE WHAT IT READS IS OF BULK AT MOST 1048576: true; the input reads as it did. -/
def ratioFieldUptoRow : OpenClaim := { program := "ytofijnhkoadfjaa", sum := "d211a3ea32642ad5d653c353f17b4fa5d9abf10cdc8ddcab27078b4b4625ac6c", func := "corpora/corporalaw36.RatioField", spec := "ratioField", recurses := true, apart := false, narrowed := true }
def RatioFieldUptoSaid : Prop := ratioFieldUptoRow.holds Try.pinned (OpenSpec.upto ratioFieldSpec)

/-- 'corporalaw36.RatioInverse', WHERE WHAT IT READS IS OF BULK AT MOST 1048576: true; the input reads as it did. -/
def ratioInverseUptoRow : OpenClaim := { program := "ytofijnhkoadfjaa", sum := "d211a3ea32642ad5d653c353f17b4fa5d9abf10cdc8ddcab27078b4b4625ac6c", func := "corpora/corporalaw36.RatioInverse", spec := "ratioInverse", recurses := true, apart := false, narrowed := true }
def RatioInverseUptoSaid : Prop := ratioInverseUptoRow.holds Try.pinned (OpenSpec.upto ratioInverseSpec)

/-- 'corporalaw36.RatioOrder', WHERE WHAT IT READS IS OF BULK AT MOST 1048576: true; the input reads as it did. -/
def ratioOrderUptoRow : OpenClaim := { program := "ytofijnhkoadfjaa", sum := "d211a3ea32642ad5d653c353f17b4fa5d9abf10cdc8ddcab27078b4b4625ac6c", func := "corpora/corporalaw36.RatioOrder", spec := "ratioOrder", inPlace := ["internal/bytealg.IndexByteString", "internal/bytealg.IndexString"], recurses := true, named := ["internal/bytealg.MaxLen"], apart := false, narrowed := true }
def RatioOrderUptoSaid : Prop := ratioOrderUptoRow.holds Try.pinned (OpenSpec.upto ratioOrderSpec)

/-- 'corporalaw36.RatioRaw', WHERE WHAT IT READS IS OF BULK AT MOST 1048576: true; the input reads as it did. -/
def ratioRawUptoRow : OpenClaim := { program := "ytofijnhkoadfjaa", sum := "d211a3ea32642ad5d653c353f17b4fa5d9abf10cdc8ddcab27078b4b4625ac6c", func := "corpora/corporalaw36.RatioRaw", spec := "ratioRaw", inPlace := ["internal/bytealg.IndexByteString", "internal/bytealg.IndexString"], recurses := true, named := ["internal/bytealg.MaxLen"], apart := false, narrowed := true }
def RatioRawUptoSaid : Prop := ratioRawUptoRow.holds Try.pinned (OpenSpec.upto ratioRawSpec)

end Rows
end Go.Proofs.Ytofijnhkoadfjaa
