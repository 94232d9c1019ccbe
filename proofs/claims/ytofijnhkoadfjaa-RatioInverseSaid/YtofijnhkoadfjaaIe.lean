/- Add, Sub, Mul, Quo of the program in rational numbers. -/
import Derived.Test.YtofijnhkoadfjaaId
namespace Go.Proofs.Ytofijnhkoadfjaa
set_option linter.unusedSimpArgs false
set_option linter.unusedVariables false
set_option linter.unusedSectionVars false
open Go.RowKit Dg

theorem OkN.size {n : Nat} (h : OkN n) : (S n).size ≤ maxLen := by rw [S_size]; unfold OkN at h; unfold maxLen; omega
theorem den_pos (x : Rat) : 0 < x.den := Nat.pos_of_ne_zero x.den_nz
theorem rat_inv {neg : Bool} {c d : Nat} : rat neg d c = (rat neg c d)⁻¹ := by
  unfold rat
  rw [← Rat.divInt_ofNat, ← Rat.divInt_ofNat, Rat.inv_divInt]
  cases neg with
  | false => simp
  | true => simp [Rat.divInt_neg']
theorem radd_yes {x y : Rat} (hx : OkR x) (hy : OkR y) (w : World) : Calls Try.prog 24 #[RV x, RV y] w fun e w' => RatRes (x + y) e ∧ Below w.heap.size w w' :=
  add_core _ _ _ _ _ _ _ _ _ _ (x + y) (fun g w ho => read2_yes hx hy g w ho) (by rw [rat_self, rat_self]) (den_pos x) (den_pos y) hx.1.dw hx.2.dw hy.1.dw hy.2.dw w
theorem rsub_yes {x y : Rat} (hx : OkR x) (hy : OkR y) (w : World) : Calls Try.prog 26 #[RV x, RV y] w fun e w' => RatRes (x - y) e ∧ Below w.heap.size w w' :=
  sub_core _ _ _ _ _ _ _ _ _ _ (x - y) (fun g w ho => read2_yes hx hy g w ho) (by rw [rat_flip, rat_self, rat_self, Rat.sub_eq_add_neg]) (den_pos x) (den_pos y) hx.1.dw hx.2.dw hy.1.dw hy.2.dw w
theorem rmul_yes {x y : Rat} (hx : OkR x) (hy : OkR y) (w : World) : Calls Try.prog 25 #[RV x, RV y] w fun e w' => RatRes (x * y) e ∧ Below w.heap.size w w' :=
  mul_core _ _ _ _ _ _ _ _ _ _ (x * y) (fun g w ho => read2_yes hx hy g w ho) (by rw [rat_mul, rat_self, rat_self]) (den_pos x) (den_pos y) hx.1.dw hx.2.dw hy.1.dw hy.2.dw w
theorem num_pos {y : Rat} (h : y ≠ 0) : 0 < y.num.natAbs := by
  rcases Nat.eq_zero_or_pos y.num.natAbs with e | e
  · exact absurd (Rat.num_eq_zero.1 (by omega)) h
  · exact e
theorem rquo_yes {x y : Rat} (hx : OkR x) (hy : OkR y) (h0 : y ≠ 0) (w : World) : Calls Try.prog 27 #[RV x, RV y] w fun e w' => RatRes (x / y) e ∧ Below w.heap.size w w' :=
  quo_core _ _ _ _ _ _ _ _ _ _ (x / y) (fun g w ho => read2_yes hx hy g w ho) (by rw [rat_mul, rat_inv (c := y.num.natAbs), rat_self, rat_self, Rat.div_def]) (num_pos h0) (den_pos x) (den_pos y) hx.1.dw hx.2.dw hy.1.dw hy.2.dw w
theorem rquo_zero {x : Rat} (hx : OkR x) (w : World) : Calls Try.prog 27 #[RV x, RV 0] w fun e w' => e = .returned (.tuple #[Rat0, .int .i64 25]) ∧ Below w.heap.size w w' :=
  quo_zero _ _ _ _ _ _ _ _ _ (fun g w ho => read2_yes hx (y := 0) ⟨by unfold OkN; decide, by unfold OkN; decide⟩ g w ho) w
section
variable {n1 n2 : Bool} {s1 t1 s2 t2 : ByteArray} (hs1 : s1.size ≤ maxLen) (ht1 : t1.size ≤ maxLen) (hs2 : s2.size ≤ maxLen) (ht2 : t2.size ≤ maxLen) (h : ¬ (IsR n1 s1 t1 ∧ IsR n2 s2 t2)) (w : World)
include hs1 ht1 hs2 ht2 h
theorem radd_no : Calls Try.prog 24 #[.agg #[.bool n1, .string s1, .string t1], .agg #[.bool n2, .string s2, .string t2]] w fun e w' => e = .returned (.tuple #[Rat0, .int .i64 1]) ∧ Below w.heap.size w w' :=
  add_bad _ _ _ _ _ _ (fun g w ho => read2_no _ _ _ _ _ _ hs1 ht1 hs2 ht2 h g w ho) w
theorem rsub_no : Calls Try.prog 26 #[.agg #[.bool n1, .string s1, .string t1], .agg #[.bool n2, .string s2, .string t2]] w fun e w' => e = .returned (.tuple #[Rat0, .int .i64 1]) ∧ Below w.heap.size w w' :=
  sub_bad _ _ _ _ _ _ (fun g w ho => read2_no _ _ _ _ _ _ hs1 ht1 hs2 ht2 h g w ho) w
theorem rmul_no : Calls Try.prog 25 #[.agg #[.bool n1, .string s1, .string t1], .agg #[.bool n2, .string s2, .string t2]] w fun e w' => e = .returned (.tuple #[Rat0, .int .i64 1]) ∧ Below w.heap.size w w' :=
  mul_bad _ _ _ _ _ _ (fun g w ho => read2_no _ _ _ _ _ _ hs1 ht1 hs2 ht2 h g w ho) w
theorem rquo_no : Calls Try.prog 27 #[.agg #[.bool n1, .string s1, .string t1], .agg #[.bool n2, .string s2, .string t2]] w fun e w' => e = .returned (.tuple #[Rat0, .int .i64 1]) ∧ Below w.heap.size w w' :=
  quo_bad _ _ _ _ _ _ (fun g w ho => read2_no _ _ _ _ _ _ hs1 ht1 hs2 ht2 h g w ho) w
end
end Go.Proofs.Ytofijnhkoadfjaa
