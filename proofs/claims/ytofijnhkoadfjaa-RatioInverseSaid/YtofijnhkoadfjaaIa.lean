/- The program's IsRatio. -/
import Derived.Test.YtofijnhkoadfjaaRt
import Derived.Test.YtofijnhkoadfjaaReg4
import Derived.Test.YtofijnhkoadfjaaLa
namespace Go.Proofs.Ytofijnhkoadfjaa
set_option linter.unusedSimpArgs false
set_option linter.unusedVariables false
set_option linter.unusedSectionVars false
open Go.RowKit Dg

theorem beqI_false {a b : Int} (h : a ≠ b) : (a == b) = false := beq_eq_false_iff_ne.2 h
theorem beqI_true {a b : Int} (h : a = b) : (a == b) = true := beq_iff_eq.2 h
theorem cmp1 {g : Nat} : (cmpI g 1 == 0) = decide (g = 1) := by
  unfold cmpI
  by_cases h1 : g < 1
  · rw [if_pos h1]
    have : g ≠ 1 := by omega
    simp [this]
  · rw [if_neg h1]
    by_cases h2 : g = 1
    · rw [if_pos h2]; simp [h2]
    · rw [if_neg h2]; simp [h2]
def isRB (neg : Bool) (m n : Nat) : Bool := decide (0 < n ∧ ¬ (neg = true ∧ m = 0) ∧ Nat.gcd m n = 1)
theorem isRB_gcd {neg : Bool} {m n : Nat} (hn : 0 < n) (h : ¬ (neg = true ∧ m = 0)) : isRB neg m n = decide (Nat.gcd m n = 1) := by
  unfold isRB
  rw [decide_eq_decide]
  exact ⟨fun h' => h'.2.2, fun h' => ⟨hn, h, h'⟩⟩

set_option maxRecDepth 100000 in
set_option maxHeartbeats 1000000 in
theorem isratio_nat (neg : Bool) (m n : Nat) (w : World) (hm : OkN m) (hn : OkN n) :
    Calls Try.prog 28 #[RatV neg m n] w fun e w' => e = .returned (.bool (isRB neg m n)) ∧ Below w.heap.size w w' := by
  have hbb : Below w.heap.size w (w.alloc (.cells #[.bool neg, .string (S m), .string (S n)] 33)) := (Below.refl _ _).alloc (Nat.le_refl _) _
  have hob : Own (w.alloc (.cells #[.bool neg, .string (S m), .string (S n)] 33)) w.heap.size 33 [.bool neg, .string (S m), .string (S n)] := Own.new w _ _
  have HB := Lib.hid (fun w => both_yes m n w hm hn)
  have hmd := hm.dw
  have hnd := hn.dw
  clear hm hn
  go_enter Try.func28, Try.ntmps28
  go_wp2_with fail
  generalize (w.alloc (.cells #[.bool neg, .string (S m), .string (S n)] 33)) = wb at hbb hob ⊢
  have c1 : wb.cell? ⟨w.heap.size, 1, none⟩ = some (.string (S m)) := hob.cell 1
  have c2 : wb.cell? ⟨w.heap.size, 2, none⟩ = some (.string (S n)) := hob.cell 2
  generalize S m = sm at *
  generalize S n = sn at *
  go_wp2_with fail
  refine (HB.out _).mono ?_
  rintro e w1 ⟨v1, v2, rfl, hv1, hv2, hb1⟩
  have HV1 := Lib.hid hv1
  have HV2 := Lib.hid hv2
  obtain ⟨A1, k1, rfl, hk1, hk1', -⟩ := hv1
  obtain ⟨A2, k2, rfl, hk2, hk2', -⟩ := hv2
  unfold maxLen at hk1' hk2'
  replace hob := hob.below hb1 hob.lt
  replace hbb := below6 hbb hb1
  have c0 : w1.cell? ⟨w.heap.size, 0, none⟩ = some (.bool neg) := hob.cell 0
  clear c1 c2 hb1 HB
  by_cases hn0 : n = 0
  · subst hn0
    have hz : (dw 0).length = 0 := rfl
    rw [hz]
    clear hk2 hnd hz
    go_wp2
    go_ret
    exact ⟨ret_bool rfl, hbb⟩
  have hn0' : 0 < n := by omega
  have hnl := dw_len_pos hn0'
  have b0 : (((dw n).length : Int) == 0) = false := beqI_false (by omega)
  by_cases hng : neg = true ∧ m = 0
  · obtain ⟨rfl, rfl⟩ := hng
    have hz : (dw 0).length = 0 := rfl
    have HR : Hid (isRB true 0 n = false) := by show _ = _; unfold isRB; simp
    rw [hz]
    clear hk1 hmd hz hn0 hn0'
    go_wp2
    go_ret
    exact ⟨ret_bool HR.out.symm, hbb⟩
  have HR := Lib.hid (isRB_gcd hn0' hng)
  have HG := fun w h1 h2 => Lib.hid (gcd_any (v1 := .slice A1 (dw m).length k1) (v2 := .slice A2 (dw n).length k2) (m := m) (n := n) w h1 h2 (by omega) (by omega))
  cases neg with
  | false =>
    clear hng hn0 hn0'
    go_wp2_with fail
    refine (HG _ HV1.out HV2.out).out.mono ?_
    rintro e w2 ⟨v3, rfl, hv3, hb2⟩
    replace hbb := below6 hbb hb2
    go_wp2_with fail
    refine (of_any 1 _ (by decide)).mono ?_
    rintro e w3 ⟨v4, rfl, hv4, hb3⟩
    replace hv3 := hv3.below hb3
    replace hbb := below6 hbb hb3
    go_wp2_with fail
    refine (cmp_any _ hv3 hv4).mono ?_
    rintro e w4 ⟨rfl, hb4⟩
    replace hbb := below6 hbb hb4
    clear c0 hob hb2 hb3 hb4 hv3 hv4
    go_wp2
    go_ret
    exact ⟨ret_bool (by rw [HR.out]; exact cmp1), hbb⟩
  | true =>
    have hm0 : 0 < m := by
      rcases Nat.eq_zero_or_pos m with e | e
      · exact absurd ⟨rfl, e⟩ hng
      · exact e
    have hml := dw_len_pos hm0
    have b1 : (((dw m).length : Int) == 0) = false := beqI_false (by omega)
    clear hng hn0 hn0' hm0
    go_wp2_with fail
    refine (HG _ HV1.out HV2.out).out.mono ?_
    rintro e w2 ⟨v3, rfl, hv3, hb2⟩
    replace hbb := below6 hbb hb2
    go_wp2_with fail
    refine (of_any 1 _ (by decide)).mono ?_
    rintro e w3 ⟨v4, rfl, hv4, hb3⟩
    replace hv3 := hv3.below hb3
    replace hbb := below6 hbb hb3
    go_wp2_with fail
    refine (cmp_any _ hv3 hv4).mono ?_
    rintro e w4 ⟨rfl, hb4⟩
    replace hbb := below6 hbb hb4
    clear c0 hob hb2 hb3 hb4 hv3 hv4
    go_wp2
    go_ret
    exact ⟨ret_bool (by rw [HR.out]; exact cmp1), hbb⟩

set_option maxRecDepth 100000 in
theorem isratio_bad (neg : Bool) (s t : ByteArray) (w : World) (hs : s.size ≤ maxLen) (ht : t.size ≤ maxLen) (h : ¬ (VLD s ∧ VLD t)) :
    Calls Try.prog 28 #[.agg #[.bool neg, .string s, .string t]] w fun e w' => e = .returned (.bool false) ∧ Below w.heap.size w w' := by
  have hbb : Below w.heap.size w (w.alloc (.cells #[.bool neg, .string s, .string t] 33)) := (Below.refl _ _).alloc (Nat.le_refl _) _
  have hob : Own (w.alloc (.cells #[.bool neg, .string s, .string t] 33)) w.heap.size 33 [.bool neg, .string s, .string t] := Own.new w _ _
  have HB := Lib.hid (fun w => both_no s t w hs ht h)
  clear hs ht h
  go_enter Try.func28, Try.ntmps28
  go_wp2_with fail
  generalize (w.alloc (.cells #[.bool neg, .string s, .string t] 33)) = wb at hbb hob ⊢
  have c1 : wb.cell? ⟨w.heap.size, 1, none⟩ = some (.string s) := hob.cell 1
  have c2 : wb.cell? ⟨w.heap.size, 2, none⟩ = some (.string t) := hob.cell 2
  go_wp2_with fail
  refine (HB.out _).mono ?_
  rintro e w1 ⟨rfl, rfl⟩
  go_wp2
  go_ret
  exact ⟨rfl, hbb⟩
theorem isratio_yes {x : Rat} (w : World) (h : OkR x) : Calls Try.prog 28 #[RV x] w fun e w' => e = .returned (.bool true) ∧ Below w.heap.size w w' := by
  refine (isratio_nat _ _ _ w h.1 h.2).mono ?_
  rintro e w' ⟨rfl, hb⟩
  refine ⟨ret_bool (decide_eq_true ?_), hb⟩
  exact (isR_iff h.1 h.2).1 (isR_RV h)
theorem isratio_no {neg : Bool} {s t : ByteArray} (w : World) (hs : s.size ≤ maxLen) (ht : t.size ≤ maxLen) (h : ¬ IsR neg s t) : Calls Try.prog 28 #[.agg #[.bool neg, .string s, .string t]] w fun e w' => e = .returned (.bool false) ∧ Below w.heap.size w w' := by
  by_cases hv : VLD s ∧ VLD t
  · obtain ⟨m, rfl, hm⟩ := vld_is hv.1
    obtain ⟨n, rfl, hn⟩ := vld_is hv.2
    refine (isratio_nat _ _ _ w hm hn).mono ?_
    rintro e w' ⟨rfl, hb⟩
    exact ⟨ret_bool (decide_eq_false fun h' => h ((isR_iff hm hn).2 h')), hb⟩
  · exact isratio_bad neg s t w hs ht hv
end Go.Proofs.Ytofijnhkoadfjaa
