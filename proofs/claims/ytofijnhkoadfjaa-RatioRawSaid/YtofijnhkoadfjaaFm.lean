/- Format, of the program and of the reference. -/
import Derived.Test.YtofijnhkoadfjaaJb
namespace Go.Proofs.Ytofijnhkoadfjaa
set_option linter.unusedSimpArgs false
set_option linter.unusedVariables false
set_option linter.unusedSectionVars false
open Go.RowKit Dg

/-- The text of a ratio by its parts. -/
def FmtS (neg : Bool) (s t : ByteArray) : ByteArray := (if neg then ⟨#[45]⟩ ++ s else s) ++ (if t = ⟨#[49]⟩ then ⟨#[]⟩ else ⟨#[47]⟩ ++ t)
theorem app_nil (s : ByteArray) : s ++ ⟨#[]⟩ = s := by
  apply ba_ext
  simp
theorem sz45 : (⟨#[45]⟩ : ByteArray).size = 1 := rfl
theorem sz47 : (⟨#[47]⟩ : ByteArray).size = 1 := rfl
set_option maxRecDepth 100000 in
set_option maxHeartbeats 2000000 in
theorem fmt_core (neg : Bool) (s t : ByteArray) (hs : s.size ≤ 20000) (ht : t.size ≤ 20000) (hy : ∀ w, Calls Try.prog 28 #[.agg #[.bool neg, .string s, .string t]] w fun e w' => e = .returned (.bool true) ∧ Below w.heap.size w w') (w : World) :
    Calls Try.prog 31 #[.agg #[.bool neg, .string s, .string t]] w fun e w' => e = .returned (.string (FmtS neg s t)) ∧ Below w.heap.size w w' := by
  have HY := Lib.hid hy
  clear hy
  cases neg with
  | false =>
    by_cases h1 : t = ⟨#[49]⟩
    · subst h1
      have HR : Hid (FmtS false s ⟨#[49]⟩ = s) := by show _ = _; simp only [FmtS, if_true, if_false, Bool.false_eq_true, app_nil]
      obtain ⟨o1, hbw⟩ := new1 w [.bool false, .string s, .string ⟨#[49]⟩] 33
      go_enter Try.func31, Try.ntmps31
      go_upto_region 1 with (fail)
      generalize (w.alloc (.cells #[.bool false, .string s, .string ⟨#[49]⟩] 33)) = wb at o1 hbw ⊢
      have c0 : wb.cell? ⟨w.heap.size, 0, none⟩ = some (.bool false) := o1.cell 0
      have c1 : wb.cell? ⟨w.heap.size, 1, none⟩ = some (.string s) := o1.cell 1
      have c2 : wb.cell? ⟨w.heap.size, 2, none⟩ = some (.string ⟨#[49]⟩) := o1.cell 2
      go_wp2_with fail
      refine (HY.out _).mono ?_
      rintro e wc ⟨rfl, hb⟩
      replace o1 := o1.below hb o1.lt
      replace hbw := below6 hbw hb
      clear hb c0 c1 c2
      have c0 : wc.cell? ⟨w.heap.size, 0, none⟩ = some (.bool false) := o1.cell 0
      have c1 : wc.cell? ⟨w.heap.size, 1, none⟩ = some (.string s) := o1.cell 1
      have c2 : wc.cell? ⟨w.heap.size, 2, none⟩ = some (.string ⟨#[49]⟩) := o1.cell 2
      go_wp2
      go_ret
      exact ⟨ret_str (HR.out).symm, hbw⟩
    · have HR : Hid (FmtS false s t = (s) ++ (⟨#[47]⟩ ++ t)) := by show _ = _; simp only [FmtS, if_true, if_false, Bool.false_eq_true, h1]
      have hb1 := str_ne1 h1
      clear h1
      obtain ⟨o1, hbw⟩ := new1 w [.bool false, .string s, .string t] 33
      go_enter Try.func31, Try.ntmps31
      go_upto_region 1 with (fail)
      generalize (w.alloc (.cells #[.bool false, .string s, .string t] 33)) = wb at o1 hbw ⊢
      have c0 : wb.cell? ⟨w.heap.size, 0, none⟩ = some (.bool false) := o1.cell 0
      have c1 : wb.cell? ⟨w.heap.size, 1, none⟩ = some (.string s) := o1.cell 1
      have c2 : wb.cell? ⟨w.heap.size, 2, none⟩ = some (.string t) := o1.cell 2
      go_wp2_with fail
      refine (HY.out _).mono ?_
      rintro e wc ⟨rfl, hb⟩
      replace o1 := o1.below hb o1.lt
      replace hbw := below6 hbw hb
      clear hb c0 c1 c2
      have c0 : wc.cell? ⟨w.heap.size, 0, none⟩ = some (.bool false) := o1.cell 0
      have c1 : wc.cell? ⟨w.heap.size, 1, none⟩ = some (.string s) := o1.cell 1
      have c2 : wc.cell? ⟨w.heap.size, 2, none⟩ = some (.string t) := o1.cell 2
      go_wp2
      go_ret
      exact ⟨ret_str (HR.out).symm, hbw⟩
  | true =>
    by_cases h1 : t = ⟨#[49]⟩
    · subst h1
      have HR : Hid (FmtS true s ⟨#[49]⟩ = ⟨#[45]⟩ ++ s) := by show _ = _; simp only [FmtS, if_true, if_false, Bool.false_eq_true, app_nil]
      obtain ⟨o1, hbw⟩ := new1 w [.bool true, .string s, .string ⟨#[49]⟩] 33
      go_enter Try.func31, Try.ntmps31
      go_upto_region 1 with (fail)
      generalize (w.alloc (.cells #[.bool true, .string s, .string ⟨#[49]⟩] 33)) = wb at o1 hbw ⊢
      have c0 : wb.cell? ⟨w.heap.size, 0, none⟩ = some (.bool true) := o1.cell 0
      have c1 : wb.cell? ⟨w.heap.size, 1, none⟩ = some (.string s) := o1.cell 1
      have c2 : wb.cell? ⟨w.heap.size, 2, none⟩ = some (.string ⟨#[49]⟩) := o1.cell 2
      go_wp2_with fail
      refine (HY.out _).mono ?_
      rintro e wc ⟨rfl, hb⟩
      replace o1 := o1.below hb o1.lt
      replace hbw := below6 hbw hb
      clear hb c0 c1 c2
      have c0 : wc.cell? ⟨w.heap.size, 0, none⟩ = some (.bool true) := o1.cell 0
      have c1 : wc.cell? ⟨w.heap.size, 1, none⟩ = some (.string s) := o1.cell 1
      have c2 : wc.cell? ⟨w.heap.size, 2, none⟩ = some (.string ⟨#[49]⟩) := o1.cell 2
      go_wp2
      go_ret
      exact ⟨ret_str (HR.out).symm, hbw⟩
    · have HR : Hid (FmtS true s t = (⟨#[45]⟩ ++ s) ++ (⟨#[47]⟩ ++ t)) := by show _ = _; simp only [FmtS, if_true, if_false, Bool.false_eq_true, h1]
      have hb1 := str_ne1 h1
      clear h1
      obtain ⟨o1, hbw⟩ := new1 w [.bool true, .string s, .string t] 33
      go_enter Try.func31, Try.ntmps31
      go_upto_region 1 with (fail)
      generalize (w.alloc (.cells #[.bool true, .string s, .string t] 33)) = wb at o1 hbw ⊢
      have c0 : wb.cell? ⟨w.heap.size, 0, none⟩ = some (.bool true) := o1.cell 0
      have c1 : wb.cell? ⟨w.heap.size, 1, none⟩ = some (.string s) := o1.cell 1
      have c2 : wb.cell? ⟨w.heap.size, 2, none⟩ = some (.string t) := o1.cell 2
      go_wp2_with fail
      refine (HY.out _).mono ?_
      rintro e wc ⟨rfl, hb⟩
      replace o1 := o1.below hb o1.lt
      replace hbw := below6 hbw hb
      clear hb c0 c1 c2
      have c0 : wc.cell? ⟨w.heap.size, 0, none⟩ = some (.bool true) := o1.cell 0
      have c1 : wc.cell? ⟨w.heap.size, 1, none⟩ = some (.string s) := o1.cell 1
      have c2 : wc.cell? ⟨w.heap.size, 2, none⟩ = some (.string t) := o1.cell 2
      go_wp2
      go_ret
      exact ⟨ret_str (HR.out).symm, hbw⟩
set_option maxRecDepth 100000 in
theorem fmt_bad (neg : Bool) (s t : ByteArray) (hy : ∀ w, Calls Try.prog 28 #[.agg #[.bool neg, .string s, .string t]] w fun e w' => e = .returned (.bool false) ∧ Below w.heap.size w w') (w : World) :
    Calls Try.prog 31 #[.agg #[.bool neg, .string s, .string t]] w fun e w' => e = .returned (.string ⟨#[]⟩) ∧ Below w.heap.size w w' := by
  have HY := Lib.hid hy
  clear hy
  obtain ⟨o1, hbw⟩ := new1 w [.bool neg, .string s, .string t] 33
  go_enter Try.func31, Try.ntmps31
  go_upto_region 1 with (fail)
  generalize (w.alloc (.cells #[.bool neg, .string s, .string t] 33)) = wb at o1 hbw ⊢
  have c0 : wb.cell? ⟨w.heap.size, 0, none⟩ = some (.bool neg) := o1.cell 0
  have c1 : wb.cell? ⟨w.heap.size, 1, none⟩ = some (.string s) := o1.cell 1
  have c2 : wb.cell? ⟨w.heap.size, 2, none⟩ = some (.string t) := o1.cell 2
  go_wp2_with fail
  refine (HY.out _).mono ?_
  rintro e wc ⟨rfl, hb⟩
  replace hbw := below6 hbw hb
  clear hb c0 c1 c2
  go_wp2
  go_ret
  exact ⟨rfl, hbw⟩
set_option maxRecDepth 100000 in
set_option maxHeartbeats 2000000 in
theorem fmtr_core (neg : Bool) (s t : ByteArray) (hs : s.size ≤ 20000) (ht : t.size ≤ 20000) (hy : ∀ w, Calls Try.prog 39 #[.agg #[.bool neg, .string s, .string t]] w fun e w' => e = .returned (.bool true) ∧ Below w.heap.size w w') (w : World) :
    Calls Try.prog 41 #[.agg #[.bool neg, .string s, .string t]] w fun e w' => e = .returned (.string (FmtS neg s t)) ∧ Below w.heap.size w w' := by
  have HY := Lib.hid hy
  clear hy
  cases neg with
  | false =>
    by_cases h1 : t = ⟨#[49]⟩
    · subst h1
      have HR : Hid (FmtS false s ⟨#[49]⟩ = s) := by show _ = _; simp only [FmtS, if_true, if_false, Bool.false_eq_true, app_nil]
      obtain ⟨o1, hbw⟩ := new1 w [.bool false, .string s, .string ⟨#[49]⟩] 33
      go_enter Try.func41, Try.ntmps41
      go_upto_region 1 with (fail)
      generalize (w.alloc (.cells #[.bool false, .string s, .string ⟨#[49]⟩] 33)) = wb at o1 hbw ⊢
      have c0 : wb.cell? ⟨w.heap.size, 0, none⟩ = some (.bool false) := o1.cell 0
      have c1 : wb.cell? ⟨w.heap.size, 1, none⟩ = some (.string s) := o1.cell 1
      have c2 : wb.cell? ⟨w.heap.size, 2, none⟩ = some (.string ⟨#[49]⟩) := o1.cell 2
      go_wp2_with fail
      refine (HY.out _).mono ?_
      rintro e wc ⟨rfl, hb⟩
      replace o1 := o1.below hb o1.lt
      replace hbw := below6 hbw hb
      clear hb c0 c1 c2
      have c0 : wc.cell? ⟨w.heap.size, 0, none⟩ = some (.bool false) := o1.cell 0
      have c1 : wc.cell? ⟨w.heap.size, 1, none⟩ = some (.string s) := o1.cell 1
      have c2 : wc.cell? ⟨w.heap.size, 2, none⟩ = some (.string ⟨#[49]⟩) := o1.cell 2
      go_wp2
      go_ret
      exact ⟨ret_str (HR.out).symm, hbw⟩
    · have HR : Hid (FmtS false s t = (s) ++ (⟨#[47]⟩ ++ t)) := by show _ = _; simp only [FmtS, if_true, if_false, Bool.false_eq_true, h1]
      have hb1 := str_ne1 h1
      clear h1
      obtain ⟨o1, hbw⟩ := new1 w [.bool false, .string s, .string t] 33
      go_enter Try.func41, Try.ntmps41
      go_upto_region 1 with (fail)
      generalize (w.alloc (.cells #[.bool false, .string s, .string t] 33)) = wb at o1 hbw ⊢
      have c0 : wb.cell? ⟨w.heap.size, 0, none⟩ = some (.bool false) := o1.cell 0
      have c1 : wb.cell? ⟨w.heap.size, 1, none⟩ = some (.string s) := o1.cell 1
      have c2 : wb.cell? ⟨w.heap.size, 2, none⟩ = some (.string t) := o1.cell 2
      go_wp2_with fail
      refine (HY.out _).mono ?_
      rintro e wc ⟨rfl, hb⟩
      replace o1 := o1.below hb o1.lt
      replace hbw := below6 hbw hb
      clear hb c0 c1 c2
      have c0 : wc.cell? ⟨w.heap.size, 0, none⟩ = some (.bool false) := o1.cell 0
      have c1 : wc.cell? ⟨w.heap.size, 1, none⟩ = some (.string s) := o1.cell 1
      have c2 : wc.cell? ⟨w.heap.size, 2, none⟩ = some (.string t) := o1.cell 2
      go_wp2
      go_ret
      exact ⟨ret_str (HR.out).symm, hbw⟩
  | true =>
    by_cases h1 : t = ⟨#[49]⟩
    · subst h1
      have HR : Hid (FmtS true s ⟨#[49]⟩ = ⟨#[45]⟩ ++ s) := by show _ = _; simp only [FmtS, if_true, if_false, Bool.false_eq_true, app_nil]
      obtain ⟨o1, hbw⟩ := new1 w [.bool true, .string s, .string ⟨#[49]⟩] 33
      go_enter Try.func41, Try.ntmps41
      go_upto_region 1 with (fail)
      generalize (w.alloc (.cells #[.bool true, .string s, .string ⟨#[49]⟩] 33)) = wb at o1 hbw ⊢
      have c0 : wb.cell? ⟨w.heap.size, 0, none⟩ = some (.bool true) := o1.cell 0
      have c1 : wb.cell? ⟨w.heap.size, 1, none⟩ = some (.string s) := o1.cell 1
      have c2 : wb.cell? ⟨w.heap.size, 2, none⟩ = some (.string ⟨#[49]⟩) := o1.cell 2
      go_wp2_with fail
      refine (HY.out _).mono ?_
      rintro e wc ⟨rfl, hb⟩
      replace o1 := o1.below hb o1.lt
      replace hbw := below6 hbw hb
      clear hb c0 c1 c2
      have c0 : wc.cell? ⟨w.heap.size, 0, none⟩ = some (.bool true) := o1.cell 0
      have c1 : wc.cell? ⟨w.heap.size, 1, none⟩ = some (.string s) := o1.cell 1
      have c2 : wc.cell? ⟨w.heap.size, 2, none⟩ = some (.string ⟨#[49]⟩) := o1.cell 2
      go_wp2
      go_ret
      exact ⟨ret_str (HR.out).symm, hbw⟩
    · have HR : Hid (FmtS true s t = (⟨#[45]⟩ ++ s) ++ (⟨#[47]⟩ ++ t)) := by show _ = _; simp only [FmtS, if_true, if_false, Bool.false_eq_true, h1]
      have hb1 := str_ne1 h1
      clear h1
      obtain ⟨o1, hbw⟩ := new1 w [.bool true, .string s, .string t] 33
      go_enter Try.func41, Try.ntmps41
      go_upto_region 1 with (fail)
      generalize (w.alloc (.cells #[.bool true, .string s, .string t] 33)) = wb at o1 hbw ⊢
      have c0 : wb.cell? ⟨w.heap.size, 0, none⟩ = some (.bool true) := o1.cell 0
      have c1 : wb.cell? ⟨w.heap.size, 1, none⟩ = some (.string s) := o1.cell 1
      have c2 : wb.cell? ⟨w.heap.size, 2, none⟩ = some (.string t) := o1.cell 2
      go_wp2_with fail
      refine (HY.out _).mono ?_
      rintro e wc ⟨rfl, hb⟩
      replace o1 := o1.below hb o1.lt
      replace hbw := below6 hbw hb
      clear hb c0 c1 c2
      have c0 : wc.cell? ⟨w.heap.size, 0, none⟩ = some (.bool true) := o1.cell 0
      have c1 : wc.cell? ⟨w.heap.size, 1, none⟩ = some (.string s) := o1.cell 1
      have c2 : wc.cell? ⟨w.heap.size, 2, none⟩ = some (.string t) := o1.cell 2
      go_wp2
      go_ret
      exact ⟨ret_str (HR.out).symm, hbw⟩
set_option maxRecDepth 100000 in
theorem fmtr_bad (neg : Bool) (s t : ByteArray) (hy : ∀ w, Calls Try.prog 39 #[.agg #[.bool neg, .string s, .string t]] w fun e w' => e = .returned (.bool false) ∧ Below w.heap.size w w') (w : World) :
    Calls Try.prog 41 #[.agg #[.bool neg, .string s, .string t]] w fun e w' => e = .returned (.string ⟨#[]⟩) ∧ Below w.heap.size w w' := by
  have HY := Lib.hid hy
  clear hy
  obtain ⟨o1, hbw⟩ := new1 w [.bool neg, .string s, .string t] 33
  go_enter Try.func41, Try.ntmps41
  go_upto_region 1 with (fail)
  generalize (w.alloc (.cells #[.bool neg, .string s, .string t] 33)) = wb at o1 hbw ⊢
  have c0 : wb.cell? ⟨w.heap.size, 0, none⟩ = some (.bool neg) := o1.cell 0
  have c1 : wb.cell? ⟨w.heap.size, 1, none⟩ = some (.string s) := o1.cell 1
  have c2 : wb.cell? ⟨w.heap.size, 2, none⟩ = some (.string t) := o1.cell 2
  go_wp2_with fail
  refine (HY.out _).mono ?_
  rintro e wc ⟨rfl, hb⟩
  replace hbw := below6 hbw hb
  clear hb c0 c1 c2
  go_wp2
  go_ret
  exact ⟨rfl, hbw⟩
theorem fmt_yes {x : Rat} (hx : OkR x) (w : World) : Calls Try.prog 31 #[RV x] w fun e w' => e = .returned (.string (FmtS (decide (x.num < 0)) (S x.num.natAbs) (S x.den))) ∧ Below w.heap.size w w' :=
  fmt_core _ _ _ (by rw [S_size]; exact hx.1) (by rw [S_size]; exact hx.2) (fun w => isratio_yes w hx) w
theorem fmtr_yes {x : Rat} (hx : OkR x) (w : World) : Calls Try.prog 41 #[RV x] w fun e w' => e = .returned (.string (FmtS (decide (x.num < 0)) (S x.num.natAbs) (S x.den))) ∧ Below w.heap.size w w' :=
  fmtr_core _ _ _ (by rw [S_size]; exact hx.1) (by rw [S_size]; exact hx.2) (fun w => isratior_yes w hx) w
end Go.Proofs.Ytofijnhkoadfjaa
