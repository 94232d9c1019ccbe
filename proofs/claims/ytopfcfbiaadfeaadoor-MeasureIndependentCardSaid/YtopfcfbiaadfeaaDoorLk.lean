/- Compare of intervals: what both texts return. -/
import Derived.Test.YtopfcfbiaadfeaaDoorLi
namespace Go.Proofs.YtopfcfbiaadfeaaDoor
set_option linter.unusedSimpArgs false
set_option linter.unusedVariables false
set_option linter.unusedSectionVars false
open Go.RowKit Dg

theorem cmpR_lt {x y : Rat} : cmpR x y < 0 ↔ x < y := by
  have h := cmpR_gt (x := y) (y := x)
  rw [cmpR_swap y x] at h
  rw [← h]; omega
theorem rvalid_yes {x y : Rat} (hx : OkR x) (hy : OkR y) : RetV 22 #[IV x y] (.bool (decide (x ≤ y))) := by
  have h := rvalid_core _ _ _ _ _ _ true true (cmpR x y) (fun w => isratior_yes w hx) (fun w => isratior_yes w hy) (fun _ _ => rcmpr_yes hx hy)
  have e : (true && (true && decide (cmpR x y ≤ 0))) = decide (x ≤ y) := by
    simp [cmpR_le]
  rw [e] at h
  exact h
/-- How intervals lie. -/
def icmp (x1 y1 x2 y2 : Rat) : Int := if y1 < x2 then -1 else if y2 < x1 then 1 else 0
theorem icmp_core (x1 y1 x2 y2 : Rat) : (if (true && true) = true then (if cmpR y1 x2 < 0 then (-1 : Int) else if cmpR y2 x1 < 0 then 1 else 0) else 0) = icmp x1 y1 x2 y2 := by
  simp only [Bool.and_self, if_true, cmpR_lt]
  rfl
theorem econtains_yes {x y z : Rat} (h1 : OkR x) (h2 : OkR y) (h3 : OkR z) (h5 : x ≤ y) (h6 : x ≤ z) (h7 : z ≤ y) : RetV 21 #[IV x y, RV z] (.bool true) := by
  have v1 := evalid_yes h1 h2
  rw [decide_eq_true h5] at v1
  have h := econtains_core _ _ _ _ _ _ _ _ _ true true (cmpR x z) (cmpR z y) v1 (fun w => isratio_yes w h3) (fun _ _ w => rcmp_yes h1 h3 w) (fun _ _ w => rcmp_yes h3 h2 w)
  have e : (true && (true && (decide (cmpR x z ≤ 0) && decide (cmpR z y ≤ 0)))) = true := by
    simp [cmpR_le, h6, h7]
  rw [e] at h
  exact h

end Go.Proofs.YtopfcfbiaadfeaaDoor
