/- The program's Compare. -/
import Derived.Test.YtofijnhkoadfjaaDoorId
namespace Go.Proofs.YtofijnhkoadfjaaDoor
set_option linter.unusedSimpArgs false
set_option linter.unusedVariables false
set_option linter.unusedSectionVars false
open Go.RowKit Dg

/-- -1, 0 or 1, of rational numbers. -/
def cmpR (x y : Rat) : Int := if x < y then -1 else if x = y then 0 else 1
/-- The sign of a number. -/
def sgnR (z : Rat) : Int := if z < 0 then -1 else if z = 0 then 0 else 1
theorem sgn_sub (x y : Rat) : sgnR (x - y) = cmpR x y := by
  unfold sgnR cmpR
  have h1 : x - y < 0 ↔ x < y := by rw [Rat.sub_lt_iff, Rat.zero_add]
  have h2 : x - y = 0 ↔ x = y := by
    constructor
    · intro h
      have := Rat.sub_add_cancel (a := x) (b := y)
      rw [h, Rat.zero_add] at this
      exact this.symm
    · rintro rfl; exact Rat.sub_self
  simp only [h1, h2]
theorem rat_lt0 {neg : Bool} {a b : Nat} (hb : 0 < b) : rat neg a b < 0 ↔ neg = true ∧ 0 < a := by
  have h := rat_neg neg (a := a) hb
  have h2 : rat neg a b < 0 ↔ (rat neg a b).num < 0 := by
    rw [← Rat.not_le, ← Rat.num_nonneg]; omega
  rw [h2]
  have h3 : (decide ((rat neg a b).num < 0) = true) ↔ (neg && decide (0 < a)) = true := by rw [h]
  simpa using h3
theorem rat_eq0 {neg : Bool} {a b : Nat} (hb : 0 < b) : rat neg a b = 0 ↔ a = 0 := by
  unfold rat
  rw [Rat.mkRat_eq_zero (by omega)]
  cases neg <;> simp
theorem sgn_zero {z : Rat} {neg : Bool} {b : Nat} (hb : 0 < b) (h : z = rat neg 0 b) : sgnR z = 0 := by
  unfold sgnR
  rw [if_neg (by rw [h, rat_lt0 hb]; omega), if_pos (by rw [h, rat_eq0 hb])]
theorem sgn_neg {z : Rat} {a b : Nat} (hb : 0 < b) (ha : 0 < a) (h : z = rat true a b) : sgnR z = -1 := by
  unfold sgnR
  rw [if_pos (by rw [h, rat_lt0 hb]; exact ⟨rfl, ha⟩)]
theorem sgn_pos {z : Rat} {a b : Nat} (hb : 0 < b) (ha : 0 < a) (h : z = rat false a b) : sgnR z = 1 := by
  unfold sgnR
  rw [if_neg (by rw [h, rat_lt0 hb]; simp), if_neg (by rw [h, rat_eq0 hb]; omega)]
end Go.Proofs.YtofijnhkoadfjaaDoor
