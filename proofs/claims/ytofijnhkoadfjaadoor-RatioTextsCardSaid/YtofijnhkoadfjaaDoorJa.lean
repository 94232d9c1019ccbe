/- The reference's IsRatio. -/
import Derived.Test.YtofijnhkoadfjaaDoorRk
import Derived.Test.YtofijnhkoadfjaaDoorIa
import Derived.Test.YtofijnhkoadfjaaDoorMem
import Derived.Test.YtofijnhkoadfjaaDoorReg
namespace Go.Proofs.YtofijnhkoadfjaaDoor
set_option linter.unusedSimpArgs false
set_option linter.unusedVariables false
set_option linter.unusedSectionVars false
open Go.RowKit Dg

theorem str_ne1 {s : ByteArray} (h : s ≠ ⟨#[49]⟩) : (s.toList == [49]) = false := by
  rw [beq_eq_false_iff_ne]
  intro e
  apply h
  apply ba_ext
  rw [← ByteArray.toList_eq, e]
theorem sg_of (g : Nat) : ∃ sg, S g = sg ∧ (sg.toList == [49]) = decide (g = 1) := by
  refine ⟨_, rfl, ?_⟩
  by_cases h1 : g = 1
  · subst h1; rw [okS_1, ByteArray.toList_eq]; rfl
  · rw [str_ne1 (fun e => h1 (by rw [← okS_1] at e; exact S_inj e))]; simp [h1]
theorem dk_gcd {m n : Nat} (hm : (dk m).length ≤ 20000) (hn : (dk n).length ≤ 20000) : (dk (Nat.gcd m n)).length ≤ 20000 := by
  rcases Nat.eq_zero_or_pos m with rfl | h0
  · rw [Nat.gcd_zero_left]; exact hn
  · exact Nat.le_trans (Dg.dg_mono b10k (Nat.gcd_le_left n h0)) hm

end Go.Proofs.YtofijnhkoadfjaaDoor
