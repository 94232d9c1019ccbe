/- Domination and precedence: what they return. -/
import Derived.Test.YtgimddboflhpaaaRefAssign
import Derived.Test.YtgimddboflhpaaaPar
import Derived.WalkSmall
import Derived.Deep.CutBlock
namespace Go.Proofs.Ytgimddboflhpaaa
set_option linter.unusedSimpArgs false
set_option linter.unusedVariables false
set_option linter.unusedSectionVars false
open Go.RowKit Tr

theorem bool_and_false_l {a b : Bool} (h : a = false) : (a && b) = false := by simp [h]
set_option maxHeartbeats 400000 in
theorem dominates_any (x y : Lab) (w : World) :
    Calls Try.prog 20 #[aggOf x, aggOf y] w fun e w' => e = .returned (.bool (Dom x y)) ∧ Below w.heap.size w w' := by
  have hd : Hid (Dom x y = (decide (x.1 < y.1) && decide (y.2.1 < x.2.1))) := rfl
  have hb : ∀ o o', Below w.heap.size w ((w.alloc o).alloc o') := fun o o' => ((Below.refl _ _).alloc (Nat.le_refl _) _).alloc (by rw [size1]; omega) _
  have HB := Lib.hid hb; clear hb
  by_cases h : x.1 < y.1
  · go_enter Try.func20, Try.ntmps20
    go_wp2
    go_ret
    exact ⟨ret_bool (by rw [hd.out, decide_eq_true h, Bool.true_and]), HB.out _ _⟩
  · go_enter Try.func20, Try.ntmps20
    go_wp2
    go_ret
    exact ⟨ret_bool (by rw [hd.out, decide_eq_false (by omega), Bool.false_and]), HB.out _ _⟩
set_option maxHeartbeats 400000 in
theorem precedes_any (x y : Lab) (w : World) :
    Calls Try.prog 21 #[aggOf x, aggOf y] w fun e w' => e = .returned (.bool (Prec x y)) ∧ Below w.heap.size w w' := by
  have hd : Hid (Prec x y = (decide (x.1 < y.1) && decide (x.2.1 < y.2.1))) := rfl
  have hb : ∀ o o', Below w.heap.size w ((w.alloc o).alloc o') := fun o o' => ((Below.refl _ _).alloc (Nat.le_refl _) _).alloc (by rw [size1]; omega) _
  have HB := Lib.hid hb; clear hb
  by_cases h : x.1 < y.1
  · go_enter Try.func21, Try.ntmps21
    go_wp2
    go_ret
    exact ⟨ret_bool (by rw [hd.out, decide_eq_true h, Bool.true_and]), HB.out _ _⟩
  · go_enter Try.func21, Try.ntmps21
    go_wp2
    go_ret
    exact ⟨ret_bool (by rw [hd.out, decide_eq_false (by omega), Bool.false_and]), HB.out _ _⟩
set_option maxHeartbeats 400000 in
theorem rdominates_any (x y : Lab) (w : World) :
    Calls Try.prog 22 #[aggOf x, aggOf y] w fun e w' => e = .returned (.bool (Dom x y)) ∧ Below w.heap.size w w' := by
  have hd : Hid (Dom x y = (decide (x.1 < y.1) && decide (y.2.1 < x.2.1))) := rfl
  have hb : ∀ o o', Below w.heap.size w ((w.alloc o).alloc o') := fun o o' => ((Below.refl _ _).alloc (Nat.le_refl _) _).alloc (by rw [size1]; omega) _
  have HB := Lib.hid hb; clear hb
  by_cases h : x.1 < y.1
  · go_enter Try.func22, Try.ntmps22
    go_wp2
    go_ret
    exact ⟨ret_bool (by rw [hd.out, decide_eq_true h, Bool.true_and]), HB.out _ _⟩
  · go_enter Try.func22, Try.ntmps22
    go_wp2
    go_ret
    exact ⟨ret_bool (by rw [hd.out, decide_eq_false (by omega), Bool.false_and]), HB.out _ _⟩
set_option maxHeartbeats 400000 in
theorem rprecedes_any (x y : Lab) (w : World) :
    Calls Try.prog 23 #[aggOf x, aggOf y] w fun e w' => e = .returned (.bool (Prec x y)) ∧ Below w.heap.size w w' := by
  have hd : Hid (Prec x y = (decide (x.1 < y.1) && decide (x.2.1 < y.2.1))) := rfl
  have hb : ∀ o o', Below w.heap.size w ((w.alloc o).alloc o') := fun o o' => ((Below.refl _ _).alloc (Nat.le_refl _) _).alloc (by rw [size1]; omega) _
  have HB := Lib.hid hb; clear hb
  by_cases h : x.1 < y.1
  · go_enter Try.func23, Try.ntmps23
    go_wp2
    go_ret
    exact ⟨ret_bool (by rw [hd.out, decide_eq_true h, Bool.true_and]), HB.out _ _⟩
  · go_enter Try.func23, Try.ntmps23
    go_wp2
    go_ret
    exact ⟨ret_bool (by rw [hd.out, decide_eq_false (by omega), Bool.false_and]), HB.out _ _⟩
end Go.Proofs.Ytgimddboflhpaaa
