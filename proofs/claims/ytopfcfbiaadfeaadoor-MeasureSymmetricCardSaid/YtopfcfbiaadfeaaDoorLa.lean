/- The law that a is the quotient times b plus the remainder: it returns true and leaves all memory as it was. -/
import Derived.Test.YtopfcfbiaadfeaaDoorNm
namespace Go.Proofs.YtopfcfbiaadfeaaDoor
set_option linter.unusedSimpArgs false
set_option linter.unusedVariables false
set_option linter.unusedSectionVars false
open Go.RowKit Dg

def Holds (w : World) (e : Ending) (w' : World) : Prop := e = .returned (.bool true) ∧ Below w.heap.size w w'
theorem OkN.mono {m n : Nat} (h : OkN n) (hmn : m ≤ n) : OkN m := by
  unfold OkN at *
  rcases Nat.lt_or_ge (dec n).length (dec m).length with h1 | h1
  · have := dec_lt_of_len h1; omega
  · omega
theorem okn60 {n : Nat} (h : (dec n).length ≤ 60) : OkN n := by unfold OkN; omega
theorem below6 {w w1 w2 : World} (h1 : Below w.heap.size w w1) (h2 : Below w1.heap.size w1 w2) : Below w.heap.size w w2 := h1.trans (h2.mono h1.size)
theorem okS_0 : S 0 = ⟨#[48]⟩ := rfl
theorem str_ne {s : ByteArray} (h : s ≠ ⟨#[48]⟩) : (s.toList == [48]) = false := by
  rw [beq_eq_false_iff_ne]
  intro e
  apply h
  apply ba_ext
  rw [← ByteArray.toList_eq, e]
/-- Ints of the kind's width. -/
def Wide (l : List Int) : Prop := ∀ x ∈ l, -9223372036854775808 ≤ x ∧ x ≤ 9223372036854775807

end Go.Proofs.YtopfcfbiaadfeaaDoor
