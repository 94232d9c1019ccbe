/-
  No cell of these rows narrows 'for every input' (looked for: loops, veiled, ifaces, maps, wideKeys, modest, calm, conditions, laid).
  DERIVED. THE GIVEN ROWS OF THIS SEAT. 8 by the template 'for every input the law returns true; each argument reads behind the call as it read before'; 0 by the template 'total and deterministic' (their statements: YtdjkgjpehneejaaTotals.lean).
  GIVEN WITH THE SEED: the statements are not yours to turn. If you find one false, say at which input.
  Laid BY PROGRAM, IN A SANDBOX (cutbox-rows.mjs): the forced cells as the released guide's own fill.sh prints them over the translation 680ccd4fba831a1e… (all of the seat's roots in one cut). By AI agents, Wed Nov 11 2026. No macro, syntax, notation, axiom, sorry.
-/
import Derived.Test.YtdjkgjpehneejaaChecked
import GoSem.Claim
import GoSem.ClaimJoined
import GoSem.ClaimMapViews
import Derived.JoinedTies
import Derived.KernelRfl
namespace Go.Proofs.Ytdjkgjpehneejaa
/- THE CELL 'sum', in the pinned program and in every row, IS THE sha256 OF THE DUMP (.gsa) THAT YtdjkgjpehneejaaProg.lean LOADS. Nothing in Lean hashes anything: it is a label: what it is worth is what the hold of that sum in a sandbox is worth. -/
noncomputable def Try.pinned : Pinned := { name := "ytdjkgjpehneejaa", sum := "680ccd4fba831a1e80877b18838fa6b51b74e0e0970e4b3c65059c30679b8b7a", checked := Try.checked }
namespace Rows
def none {H : Type} : Left H := { results := [], args := [] }

/-- 'corporalaw37.EncloseProducts': WHATEVER THE INPUT: true; the input reads as it did. -/
def encloseProductsSpec : ChangeSpec := { name := "encloseProducts", fn := fun _ => fun
  | [d1, d2] => { results := [.lit (.bool true)], args := [d1, d2] }
  | _ => none }
def encloseProductsRow : OpenClaim := { program := "ytdjkgjpehneejaa", sum := "680ccd4fba831a1e80877b18838fa6b51b74e0e0970e4b3c65059c30679b8b7a", func := "corpora/corporalaw37.EncloseProducts", spec := "encloseProducts", unfollowed := true, recurses := true, apart := false }
def EncloseProductsSaid : Prop := encloseProductsRow.holds Try.pinned (OpenSpec.ofChange encloseProductsSpec)

/-- ITS FALSE NEIGHBOUR: 'it returns false'. Refute it at one input. -/
def encloseProductsWrong : ChangeSpec := { name := "encloseProducts", fn := fun _ => fun
  | [d1, d2] => { results := [.lit (.bool false)], args := [d1, d2] }
  | _ => none }
def EncloseProductsWrongFalsely : Prop := encloseProductsRow.holds Try.pinned (OpenSpec.ofChange encloseProductsWrong)

/-- 'corporalaw37.EncloseInverse': WHATEVER THE INPUT: true; the input reads as it did. -/
def encloseInverseSpec : ChangeSpec := { name := "encloseInverse", fn := fun _ => fun
  | [d1, d2] => { results := [.lit (.bool true)], args := [d1, d2] }
  | _ => none }
def encloseInverseRow : OpenClaim := { program := "ytdjkgjpehneejaa", sum := "680ccd4fba831a1e80877b18838fa6b51b74e0e0970e4b3c65059c30679b8b7a", func := "corpora/corporalaw37.EncloseInverse", spec := "encloseInverse", unfollowed := true, recurses := true, apart := false }
def EncloseInverseSaid : Prop := encloseInverseRow.holds Try.pinned (OpenSpec.ofChange encloseInverseSpec)

/-- ITS FALSE NEIGHBOUR: 'it returns false'. Refute it at one input. -/
def encloseInverseWrong : ChangeSpec := { name := "encloseInverse", fn := fun _ => fun
  | [d1, d2] => { results := [.lit (.bool false)], args := [d1, d2] }
  | _ => none }
def EncloseInverseWrongFalsely : Prop := encloseInverseRow.holds Try.pinned (OpenSpec.ofChange encloseInverseWrong)

/-- 'corporalaw37.EncloseLogs': WHATEVER THE INPUT: true; the input reads as it did. -/
def encloseLogsSpec : ChangeSpec := { name := "encloseLogs", fn := fun _ => fun
  | [d1, d2] => { results := [.lit (.bool true)], args := [d1, d2] }
  | _ => none }
def encloseLogsRow : OpenClaim := { program := "ytdjkgjpehneejaa", sum := "680ccd4fba831a1e80877b18838fa6b51b74e0e0970e4b3c65059c30679b8b7a", func := "corpora/corporalaw37.EncloseLogs", spec := "encloseLogs", unfollowed := true, recurses := true, apart := false }
def EncloseLogsSaid : Prop := encloseLogsRow.holds Try.pinned (OpenSpec.ofChange encloseLogsSpec)

/-- ITS FALSE NEIGHBOUR: 'it returns false'. Refute it at one input. -/
def encloseLogsWrong : ChangeSpec := { name := "encloseLogs", fn := fun _ => fun
  | [d1, d2] => { results := [.lit (.bool false)], args := [d1, d2] }
  | _ => none }
def EncloseLogsWrongFalsely : Prop := encloseLogsRow.holds Try.pinned (OpenSpec.ofChange encloseLogsWrong)

/-- 'corporalaw37.EncloseCompares': WHATEVER THE INPUT: true; the input reads as it did. -/
def encloseComparesSpec : ChangeSpec := { name := "encloseCompares", fn := fun _ => fun
  | [d] => { results := [.lit (.bool true)], args := [d] }
  | _ => none }
def encloseComparesRow : OpenClaim := { program := "ytdjkgjpehneejaa", sum := "680ccd4fba831a1e80877b18838fa6b51b74e0e0970e4b3c65059c30679b8b7a", func := "corpora/corporalaw37.EncloseCompares", spec := "encloseCompares", unfollowed := true, recurses := true, apart := false }
def EncloseComparesSaid : Prop := encloseComparesRow.holds Try.pinned (OpenSpec.ofChange encloseComparesSpec)

/-- ITS FALSE NEIGHBOUR: 'it returns false'. Refute it at one input. -/
def encloseComparesWrong : ChangeSpec := { name := "encloseCompares", fn := fun _ => fun
  | [d] => { results := [.lit (.bool false)], args := [d] }
  | _ => none }
def EncloseComparesWrongFalsely : Prop := encloseComparesRow.holds Try.pinned (OpenSpec.ofChange encloseComparesWrong)

/-- 'corporalaw37.EnclosePowers': WHATEVER THE INPUT: true; the input reads as it did. -/
def enclosePowersSpec : ChangeSpec := { name := "enclosePowers", fn := fun _ => fun
  | [d1, d2] => { results := [.lit (.bool true)], args := [d1, d2] }
  | _ => none }
def enclosePowersRow : OpenClaim := { program := "ytdjkgjpehneejaa", sum := "680ccd4fba831a1e80877b18838fa6b51b74e0e0970e4b3c65059c30679b8b7a", func := "corpora/corporalaw37.EnclosePowers", spec := "enclosePowers", unfollowed := true, recurses := true, apart := false }
def EnclosePowersSaid : Prop := enclosePowersRow.holds Try.pinned (OpenSpec.ofChange enclosePowersSpec)

/-- ITS FALSE NEIGHBOUR: 'it returns false'. Refute it at one input. -/
def enclosePowersWrong : ChangeSpec := { name := "enclosePowers", fn := fun _ => fun
  | [d1, d2] => { results := [.lit (.bool false)], args := [d1, d2] }
  | _ => none }
def EnclosePowersWrongFalsely : Prop := enclosePowersRow.holds Try.pinned (OpenSpec.ofChange enclosePowersWrong)

/-- 'corporalaw37.EncloseFiner': WHATEVER THE INPUT: true; the input reads as it did. -/
def encloseFinerSpec : ChangeSpec := { name := "encloseFiner", fn := fun _ => fun
  | [d1, d2, d3] => { results := [.lit (.bool true)], args := [d1, d2, d3] }
  | _ => none }
def encloseFinerRow : OpenClaim := { program := "ytdjkgjpehneejaa", sum := "680ccd4fba831a1e80877b18838fa6b51b74e0e0970e4b3c65059c30679b8b7a", func := "corpora/corporalaw37.EncloseFiner", spec := "encloseFiner", unfollowed := true, recurses := true, apart := false }
def EncloseFinerSaid : Prop := encloseFinerRow.holds Try.pinned (OpenSpec.ofChange encloseFinerSpec)

/-- ITS FALSE NEIGHBOUR: 'it returns false'. Refute it at one input. -/
def encloseFinerWrong : ChangeSpec := { name := "encloseFiner", fn := fun _ => fun
  | [d1, d2, d3] => { results := [.lit (.bool false)], args := [d1, d2, d3] }
  | _ => none }
def EncloseFinerWrongFalsely : Prop := encloseFinerRow.holds Try.pinned (OpenSpec.ofChange encloseFinerWrong)

/-- 'corporalaw37.EncloseSums': WHATEVER THE INPUT: true; the input reads as it did. -/
def encloseSumsSpec : ChangeSpec := { name := "encloseSums", fn := fun _ => fun
  | [d1, d2] => { results := [.lit (.bool true)], args := [d1, d2] }
  | _ => none }
def encloseSumsRow : OpenClaim := { program := "ytdjkgjpehneejaa", sum := "680ccd4fba831a1e80877b18838fa6b51b74e0e0970e4b3c65059c30679b8b7a", func := "corpora/corporalaw37.EncloseSums", spec := "encloseSums", unfollowed := true, recurses := true, apart := false }
def EncloseSumsSaid : Prop := encloseSumsRow.holds Try.pinned (OpenSpec.ofChange encloseSumsSpec)

/-- ITS FALSE NEIGHBOUR: 'it returns false'. Refute it at one input. -/
def encloseSumsWrong : ChangeSpec := { name := "encloseSums", fn := fun _ => fun
  | [d1, d2] => { results := [.lit (.bool false)], args := [d1, d2] }
  | _ => none }
def EncloseSumsWrongFalsely : Prop := encloseSumsRow.holds Try.pinned (OpenSpec.ofChange encloseSumsWrong)

/-- 'corporalaw37.EncloseRaw': WHATEVER THE INPUT: true; the input reads as it did. -/
def encloseRawSpec : ChangeSpec := { name := "encloseRaw", fn := fun _ => fun
  | [d1, d2, d3] => { results := [.lit (.bool true)], args := [d1, d2, d3] }
  | _ => none }
def encloseRawRow : OpenClaim := { program := "ytdjkgjpehneejaa", sum := "680ccd4fba831a1e80877b18838fa6b51b74e0e0970e4b3c65059c30679b8b7a", func := "corpora/corporalaw37.EncloseRaw", spec := "encloseRaw", unfollowed := true, recurses := true, apart := false }
def EncloseRawSaid : Prop := encloseRawRow.holds Try.pinned (OpenSpec.ofChange encloseRawSpec)

/-- ITS FALSE NEIGHBOUR: 'it returns false'. Refute it at one input. -/
def encloseRawWrong : ChangeSpec := { name := "encloseRaw", fn := fun _ => fun
  | [d1, d2, d3] => { results := [.lit (.bool false)], args := [d1, d2, d3] }
  | _ => none }
def EncloseRawWrongFalsely : Prop := encloseRawRow.holds Try.pinned (OpenSpec.ofChange encloseRawWrong)

/- THE SECOND FORM. 'bulk': how many values and letters a reading holds, each counted each time it is reached (what is shared counts as often as it is met; a slice's spare places count too). A statement '..UptoSaid' is the law's where the arguments, and the package variables that the reading takes, are together of bulk at most 1048576: NARROWER than '..Said'. Prove '..Said' where nothing that the law and all that it calls make is longer than what came in: it says more and counts as full. Else prove '..UptoSaid'. A law counts once. -/
mutual
def uptoBulk {H : Type} : DataW H → Nat
  | .lit (.string bytes) => bytes.length + 1
  | .lit _ => 1
  | .nil => 1
  | .ptr d => uptoBulk d + 1
  | .slice elems spare => uptoBulkAll elems + uptoBulkAll spare + 1
  | .agg parts => uptoBulkAll parts + 1
  | .iface _ d => uptoBulk d + 1
  | .map entries => uptoBulkEntries entries + 1
  | .held _ => 1
def uptoBulkAll {H : Type} : List (DataW H) → Nat
  | [] => 0
  | d :: r => uptoBulk d + uptoBulkAll r
def uptoBulkEntries {H : Type} : List (Lit × DataW H) → Nat
  | [] => 0
  | x :: r => uptoBulkEntry x + uptoBulkEntries r
def uptoBulkEntry {H : Type} : Lit × DataW H → Nat
  | (.string bytes, d) => bytes.length + uptoBulk d + 1
  | (_, d) => uptoBulk d + 1
 end
def uptoSmall : (H : Type) → List (DataW H) → Bool := fun _ ds => decide (uptoBulkAll ds ≤ 1048576)
def OpenSpec.upto (s : _root_.Go.ChangeSpec) : _root_.Go.OpenSpec := { _root_.Go.OpenSpec.ofChange s with cond := some uptoSmall }

/-- 'corporalaw37.EncloseProducts', WHERE WHAT IT READS IS OF BULK AT MOST 1048576: true; the input reads as it did. -/
def encloseProductsUptoRow : OpenClaim := { program := "ytdjkgjpehneejaa", sum := "680ccd4fba831a1e80877b18838fa6b51b74e0e0970e4b3c65059c30679b8b7a", func := "corpora/corporalaw37.EncloseProducts", spec := "encloseProducts", unfollowed := true, recurses := true, apart := false, narrowed := true }
def EncloseProductsUptoSaid : Prop := encloseProductsUptoRow.holds Try.pinned (OpenSpec.upto encloseProductsSpec)

/-- 'corporalaw37.EncloseInverse', WHERE WHAT IT READS IS OF BULK AT MOST 1048576: true; the input reads as it did. -/
def encloseInverseUptoRow : OpenClaim := { program := "ytdjkgjpehneejaa", sum := "680ccd4fba831a1e80877b18838fa6b51b74e0e0970e4b3c65059c30679b8b7a", func := "corpora/corporalaw37.EncloseInverse", spec := "encloseInverse", unfollowed := true, recurses := true, apart := false, narrowed := true }
def EncloseInverseUptoSaid : Prop := encloseInverseUptoRow.holds Try.pinned (OpenSpec.upto encloseInverseSpec)

/-- 'corporalaw37.EncloseLogs', WHERE WHAT IT READS IS OF BULK AT MOST 1048576: true; the input reads as it did. -/
def encloseLogsUptoRow : OpenClaim := { program := "ytdjkgjpehneejaa", sum := "680ccd4fba831a1e80877b18838fa6b51b74e0e0970e4b3c65059c30679b8b7a", func := "corpora/corporalaw37.EncloseLogs", spec := "encloseLogs", unfollowed := true, recurses := true, apart := false, narrowed := true }
def EncloseLogsUptoSaid : Prop := encloseLogsUptoRow.holds Try.pinned (OpenSpec.upto encloseLogsSpec)

/-- 'corporalaw37.EncloseCompares', WHERE WHAT IT READS IS OF BULK AT MOST 1048576: true; the input reads as it did. -/
def encloseComparesUptoRow : OpenClaim := { program := "ytdjkgjpehneejaa", sum := "680ccd4fba831a1e80877b18838fa6b51b74e0e0970e4b3c65059c30679b8b7a", func := "corpora/corporalaw37.EncloseCompares", spec := "encloseCompares", unfollowed := true, recurses := true, apart := false, narrowed := true }
def EncloseComparesUptoSaid : Prop := encloseComparesUptoRow.holds Try.pinned (OpenSpec.upto encloseComparesSpec)

/-- 'corporalaw37.EnclosePowers', WHERE WHAT IT READS IS OF BULK AT MOST 1048576: true; the input reads as it did. -/
def enclosePowersUptoRow : OpenClaim := { program := "ytdjkgjpehneejaa", sum := "680ccd4fba831a1e80877b18838fa6b51b74e0e0970e4b3c65059c30679b8b7a", func := "corpora/corporalaw37.EnclosePowers", spec := "enclosePowers", unfollowed := true, recurses := true, apart := false, narrowed := true }
def EnclosePowersUptoSaid : Prop := enclosePowersUptoRow.holds Try.pinned (OpenSpec.upto enclosePowersSpec)

/-- 'corporalaw37.EncloseFiner', WHERE WHAT IT READS IS OF BULK AT MOST 1048576: true; the input reads as it did. -/
def encloseFinerUptoRow : OpenClaim := { program := "ytdjkgjpehneejaa", sum := "680ccd4fba831a1e80877b18838fa6b51b74e0e0970e4b3c65059c30679b8b7a", func := "corpora/corporalaw37.EncloseFiner", spec := "encloseFiner", unfollowed := true, recurses := true, apart := false, narrowed := true }
def EncloseFinerUptoSaid : Prop := encloseFinerUptoRow.holds Try.pinned (OpenSpec.upto encloseFinerSpec)

/-- 'corporalaw37.EncloseSums', WHERE WHAT IT READS IS OF BULK AT MOST 1048576: true; the input reads as it did. -/
def encloseSumsUptoRow : OpenClaim := { program := "ytdjkgjpehneejaa", sum := "680ccd4fba831a1e80877b18838fa6b51b74e0e0970e4b3c65059c30679b8b7a", func := "corpora/corporalaw37.EncloseSums", spec := "encloseSums", unfollowed := true, recurses := true, apart := false, narrowed := true }
def EncloseSumsUptoSaid : Prop := encloseSumsUptoRow.holds Try.pinned (OpenSpec.upto encloseSumsSpec)

/-- 'corporalaw37.EncloseRaw', WHERE WHAT IT READS IS OF BULK AT MOST 1048576: true; the input reads as it did. -/
def encloseRawUptoRow : OpenClaim := { program := "ytdjkgjpehneejaa", sum := "680ccd4fba831a1e80877b18838fa6b51b74e0e0970e4b3c65059c30679b8b7a", func := "corpora/corporalaw37.EncloseRaw", spec := "encloseRaw", unfollowed := true, recurses := true, apart := false, narrowed := true }
def EncloseRawUptoSaid : Prop := encloseRawUptoRow.holds Try.pinned (OpenSpec.upto encloseRawSpec)

end Rows
end Go.Proofs.Ytdjkgjpehneejaa
