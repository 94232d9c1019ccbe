/- The law package's some: a ratio out of numbers. -/
import Derived.Test.YtopfcfbiaadfeaaDoorRk
import Derived.Test.YtopfcfbiaadfeaaDoorRt
import Derived.Test.YtopfcfbiaadfeaaDoorMem
namespace Go.Proofs.YtopfcfbiaadfeaaDoor
set_option linter.unusedSimpArgs false
set_option linter.unusedVariables false
set_option linter.unusedSectionVars false
open Go.RowKit Dg

/-- A ratio of few digits. -/
def Few (k : Nat) (x : Rat) : Prop := (dec x.num.natAbs).length ≤ k ∧ (dec x.den).length ≤ k
theorem dec_mono {m n k : Nat} (h : m ≤ n) (hn : (dec n).length ≤ k) : (dec m).length ≤ k := by
  rcases Nat.lt_or_ge (dec n).length (dec m).length with h1 | h1
  · have := dec_lt_of_len h1; omega
  · omega
theorem few_rat {neg : Bool} {m n k : Nat} (hn : 0 < n) (h1 : (dec m).length ≤ k) (h2 : (dec n).length ≤ k) : Few k (rat neg m n) := by
  refine ⟨?_, ?_⟩
  · rw [rat_abs neg hn]; exact dec_mono (Nat.div_le_self _ _) h1
  · rw [rat_den neg hn]; exact dec_mono (Nat.div_le_self _ _) h2
theorem Few.ok {k : Nat} {x : Rat} (h : Few k x) (hk : k ≤ 20000) : OkR x := ⟨Nat.le_trans h.1 hk, Nat.le_trans h.2 hk⟩
theorem RV_zero : RV 0 = .agg #[.bool false, .string ⟨#[48]⟩, .string ⟨#[49]⟩] := rfl

end Go.Proofs.YtopfcfbiaadfeaaDoor
