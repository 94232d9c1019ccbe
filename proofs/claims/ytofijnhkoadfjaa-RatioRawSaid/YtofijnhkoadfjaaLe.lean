/- The law RatioInverse as a walk. -/
import Derived.Test.YtofijnhkoadfjaaLd
namespace Go.Proofs.Ytofijnhkoadfjaa
set_option linter.unusedSimpArgs false
set_option linter.unusedVariables false
set_option linter.unusedSectionVars false
open Go.RowKit Dg

theorem few_neg {k : Nat} {x : Rat} (h : Few k x) : Few k (-x) := by
  unfold Few at *
  rw [Rat.neg_num, Rat.neg_den, Int.natAbs_neg]; exact h
theorem few_sub {j k : Nat} {x y : Rat} (hx : Few j x) (hy : Few k y) : Few (j + k + 1) (x - y) := by
  rw [Rat.sub_eq_add_neg]; exact few_add hx (few_neg hy)
theorem few_inv {k : Nat} {x : Rat} (h0 : x ≠ 0) (h : Few k x) : Few k x⁻¹ := by
  have e : x⁻¹ = rat (decide (x.num < 0)) x.den x.num.natAbs := by rw [rat_inv (c := x.num.natAbs), rat_self]
  rw [e]
  exact few_rat (num_pos h0) h.2 h.1
theorem few_div2 {j k : Nat} (h : 0 < j + k) {x y : Rat} (h0 : y ≠ 0) (hx : Few j x) (hy : Few k y) : Few (j + k) (x / y) := by
  rw [Rat.div_def]; exact few_mul h hx (few_inv h0 hy)
theorem op_sub {j k : Nat} {x y : Rat} (hx : Few j x) (hy : Few k y) (h : j + k + 1 ≤ 20000) : Op2 26 (RV x) (RV y) (RV (x - y)) := fun w =>
  (rsub_yes (hx.ok (by omega)) (hy.ok (by omega)) w).mono fun e w' ⟨h1, h2⟩ => ⟨h1.ok ((few_sub hx hy).ok h), h2⟩
theorem op_quo {j k : Nat} {x y : Rat} (hy0 : y ≠ 0) (hx : Few j x) (hy : Few k y) (h0 : 0 < j + k) (h : j + k ≤ 20000) : Op2 27 (RV x) (RV y) (RV (x / y)) := fun w =>
  (rquo_yes (hx.ok (by omega)) (hy.ok (by omega)) hy0 w).mono fun e w' ⟨h1, h2⟩ => ⟨h1.ok ((few_div2 h0 hy0 hx hy).ok h), h2⟩
/-- A function of one value that returns true. -/
def Yes1 (f : FuncId) (a : Value) : Prop := ∀ w, Calls Try.prog f #[a] w fun e w' => e = .returned (.bool true) ∧ Below w.heap.size w w'
theorem yes_is {k : Nat} {x : Rat} (hx : Few k x) (h : k ≤ 20000) : Yes1 28 (RV x) := fun w => isratio_yes w (hx.ok h)
theorem rat0_no : ¬ IsR false ⟨#[]⟩ ⟨#[]⟩ := fun h => by
  have h := (isR_vld h).1
  obtain ⟨_, L, h2, h3⟩ := h
  have := h2.2.1
  rw [← bsize h3] at this
  exact absurd this (by decide)
theorem num0_ne {x : Rat} (h : x ≠ 0) : S x.num.natAbs ≠ ⟨#[48]⟩ := by
  rw [← okS_0]; exact S_ne_0 (num_pos h)

set_option maxRecDepth 100000 in
set_option maxHeartbeats 8000000 in
theorem law_inverse (A1 : Option Addr) (l1 : List Int) (c1 : Nat) (A2 : Option Addr) (l2 : List Int) (c2 : Nat) (w : World) (hA1 : Ints w A1 l1) (hl1 : l1.length ≤ c1) (hc1 : c1 ≤ maxLen) (hw1 : Wide l1)
    (hA2 : Ints w A2 l2) (hl2 : l2.length ≤ c2) (hc2 : c2 ≤ maxLen) (hw2 : Wide l2) :
    Calls Try.prog 6 #[.slice A1 l1.length c1, .slice A2 l2.length c2] w (Holds w) := by
  have HS1 : Hid (∀ w1, Below w.heap.size w w1 → Calls Try.prog 23 #[.slice A1 l1.length c1] w1 fun e w' => (∃ x, e = .returned (RV x) ∧ Few 20 x) ∧ Below w1.heap.size w1 w') := fun w1 hb => some_any A1 l1 c1 w1 (Ints.below hA1 hb) hl1 hc1 hw1
  have HS2 : Hid (∀ w1, Below w.heap.size w w1 → Calls Try.prog 23 #[.slice A2 l2.length c2] w1 fun e w' => (∃ x, e = .returned (RV x) ∧ Few 20 x) ∧ Below w1.heap.size w1 w') := fun w1 hb => some_any A2 l2 c2 w1 (Ints.below hA2 hb) hl2 hc2 hw2
  clear hA1 hA2 hw1 hw2
  have hbw := Below.refl w.heap.size w
  go_enter Try.func6, Try.ntmps6
  go_wp2_with fail
  refine (HS1.out _ hbw).mono ?_
  rintro e w1 ⟨⟨a, rfl, fa⟩, hb1⟩
  replace hbw := below6 hbw hb1
  clear hb1
  go_wp2_with fail
  refine (HS2.out _ hbw).mono ?_
  rintro e w2 ⟨⟨b, rfl, fb⟩, hb2⟩
  replace hbw := below6 hbw hb2
  clear hb2
  clear HS1 HS2
  by_cases hz : b = 0
  · subst hz
    have fd := few_sub fa fb
    have K_d := Lib.hid (op_sub fa fb (by decide))
    have K_s : Hid (Op2 24 (RV (a - 0)) (RV 0) (RV a)) := by
      have := op_add fd fb (by decide)
      rwa [Rat.sub_add_cancel] at this
    have K_q : Hid (∀ w, Calls Try.prog 27 #[RV a, RV 0] w fun e w' => e = .returned (.tuple #[.agg #[.bool false, .string ⟨#[]⟩, .string ⟨#[]⟩], .int .i64 25]) ∧ Below w.heap.size w w') := fun w => rquo_zero (fa.ok (by decide)) w
    have K_p : Hid (∀ w, Calls Try.prog 25 #[.agg #[.bool false, .string ⟨#[]⟩, .string ⟨#[]⟩], RV 0] w fun e w' => e = .returned (.tuple #[.agg #[.bool false, .string ⟨#[]⟩, .string ⟨#[]⟩], .int .i64 1]) ∧ Below w.heap.size w w') := fun w => rmul_no (by decide) (by decide) (by decide) (by decide) (fun h => rat0_no h.1) w
    have K_i := Lib.hid (yes_is fd (by decide))
    clear fa fb fd
    have hvb := RV_zero
    obtain ⟨na, sa, ta, hva⟩ := rv_open (a)
    obtain ⟨nd, sd, td, hvd⟩ := rv_open (a - 0)
    rw [hva, hvb]
    rw [hva, hvb, hvd] at K_d
    rw [hvd, hvb, hva] at K_s
    rw [hvd] at K_i
    rw [hva, hvb] at K_q
    rw [hvb] at K_p
    clear hvb hva hvd
    obtain ⟨o_a, o_b, hz3⟩ := new2 w2 [.bool na, .string sa, .string ta] [.bool false, .string ⟨#[48]⟩, .string ⟨#[49]⟩] 33 33
    replace hbw := below6 hbw hz3
    clear hz3
    have qa_0 : ((w2.alloc (.cells #[.bool na, .string sa, .string ta] 33)).alloc (.cells #[.bool false, .string ⟨#[48]⟩, .string ⟨#[49]⟩] 33)).cell? ⟨w2.heap.size, 0, none⟩ = some (.bool na) := o_a.cell 0
    have qa_1 : ((w2.alloc (.cells #[.bool na, .string sa, .string ta] 33)).alloc (.cells #[.bool false, .string ⟨#[48]⟩, .string ⟨#[49]⟩] 33)).cell? ⟨w2.heap.size, 1, none⟩ = some (.string sa) := o_a.cell 1
    have qa_2 : ((w2.alloc (.cells #[.bool na, .string sa, .string ta] 33)).alloc (.cells #[.bool false, .string ⟨#[48]⟩, .string ⟨#[49]⟩] 33)).cell? ⟨w2.heap.size, 2, none⟩ = some (.string ta) := o_a.cell 2
    have qb_0 : ((w2.alloc (.cells #[.bool na, .string sa, .string ta] 33)).alloc (.cells #[.bool false, .string ⟨#[48]⟩, .string ⟨#[49]⟩] 33)).cell? ⟨w2.heap.size + 1, 0, none⟩ = some (.bool false) := o_b.cell 0
    have qb_1 : ((w2.alloc (.cells #[.bool na, .string sa, .string ta] 33)).alloc (.cells #[.bool false, .string ⟨#[48]⟩, .string ⟨#[49]⟩] 33)).cell? ⟨w2.heap.size + 1, 1, none⟩ = some (.string ⟨#[48]⟩) := o_b.cell 1
    have qb_2 : ((w2.alloc (.cells #[.bool na, .string sa, .string ta] 33)).alloc (.cells #[.bool false, .string ⟨#[48]⟩, .string ⟨#[49]⟩] 33)).cell? ⟨w2.heap.size + 1, 2, none⟩ = some (.string ⟨#[49]⟩) := o_b.cell 2
    go_wp2_with fail
    generalize ((w2.alloc (.cells #[.bool na, .string sa, .string ta] 33)).alloc (.cells #[.bool false, .string ⟨#[48]⟩, .string ⟨#[49]⟩] 33)) = wa4 at o_a o_b hbw ⊢
    generalize w2.heap.size = g4 at o_a o_b ⊢
    clear qa_0 qa_1 qa_2 qb_0 qb_1 qb_2
    refine (K_d.out _).mono ?_
    rintro e w5 ⟨rfl, hb5⟩
    replace o_a := o_a.below hb5 o_a.lt
    replace o_b := o_b.below hb5 o_b.lt
    replace hbw := below6 hbw hb5
    clear hb5
    obtain ⟨o_d, hz6⟩ := new1 w5 [.bool nd, .string sd, .string td] 33
    replace o_a := o_a.alloc (.cells #[.bool nd, .string sd, .string td] 33)
    replace o_b := o_b.alloc (.cells #[.bool nd, .string sd, .string td] 33)
    replace hbw := below6 hbw hz6
    clear hz6
    clear K_d
    have qd_0 : (w5.alloc (.cells #[.bool nd, .string sd, .string td] 33)).cell? ⟨w5.heap.size, 0, none⟩ = some (.bool nd) := o_d.cell 0
    have qd_1 : (w5.alloc (.cells #[.bool nd, .string sd, .string td] 33)).cell? ⟨w5.heap.size, 1, none⟩ = some (.string sd) := o_d.cell 1
    have qd_2 : (w5.alloc (.cells #[.bool nd, .string sd, .string td] 33)).cell? ⟨w5.heap.size, 2, none⟩ = some (.string td) := o_d.cell 2
    have qb_0 : (w5.alloc (.cells #[.bool nd, .string sd, .string td] 33)).cell? ⟨g4 + 1, 0, none⟩ = some (.bool false) := o_b.cell 0
    have qb_1 : (w5.alloc (.cells #[.bool nd, .string sd, .string td] 33)).cell? ⟨g4 + 1, 1, none⟩ = some (.string ⟨#[48]⟩) := o_b.cell 1
    have qb_2 : (w5.alloc (.cells #[.bool nd, .string sd, .string td] 33)).cell? ⟨g4 + 1, 2, none⟩ = some (.string ⟨#[49]⟩) := o_b.cell 2
    go_wp2_with fail
    generalize (w5.alloc (.cells #[.bool nd, .string sd, .string td] 33)) = wa7 at o_a o_b o_d hbw ⊢
    generalize w5.heap.size = g7 at o_d ⊢
    clear qd_0 qd_1 qd_2 qb_0 qb_1 qb_2
    refine (K_s.out _).mono ?_
    rintro e w8 ⟨rfl, hb8⟩
    replace o_a := o_a.below hb8 o_a.lt
    replace o_b := o_b.below hb8 o_b.lt
    replace o_d := o_d.below hb8 o_d.lt
    replace hbw := below6 hbw hb8
    clear hb8
    obtain ⟨o_s, hz9⟩ := new1 w8 [.bool na, .string sa, .string ta] 33
    replace o_a := o_a.alloc (.cells #[.bool na, .string sa, .string ta] 33)
    replace o_b := o_b.alloc (.cells #[.bool na, .string sa, .string ta] 33)
    replace o_d := o_d.alloc (.cells #[.bool na, .string sa, .string ta] 33)
    replace hbw := below6 hbw hz9
    clear hz9
    clear K_s
    have qa_0 : (w8.alloc (.cells #[.bool na, .string sa, .string ta] 33)).cell? ⟨g4, 0, none⟩ = some (.bool na) := o_a.cell 0
    have qa_1 : (w8.alloc (.cells #[.bool na, .string sa, .string ta] 33)).cell? ⟨g4, 1, none⟩ = some (.string sa) := o_a.cell 1
    have qa_2 : (w8.alloc (.cells #[.bool na, .string sa, .string ta] 33)).cell? ⟨g4, 2, none⟩ = some (.string ta) := o_a.cell 2
    have qb_0 : (w8.alloc (.cells #[.bool na, .string sa, .string ta] 33)).cell? ⟨g4 + 1, 0, none⟩ = some (.bool false) := o_b.cell 0
    have qb_1 : (w8.alloc (.cells #[.bool na, .string sa, .string ta] 33)).cell? ⟨g4 + 1, 1, none⟩ = some (.string ⟨#[48]⟩) := o_b.cell 1
    have qb_2 : (w8.alloc (.cells #[.bool na, .string sa, .string ta] 33)).cell? ⟨g4 + 1, 2, none⟩ = some (.string ⟨#[49]⟩) := o_b.cell 2
    go_wp2_with fail
    generalize (w8.alloc (.cells #[.bool na, .string sa, .string ta] 33)) = wa10 at o_a o_b o_d o_s hbw ⊢
    generalize w8.heap.size = g10 at o_s ⊢
    clear qa_0 qa_1 qa_2 qb_0 qb_1 qb_2
    refine (K_q.out _).mono ?_
    rintro e w11 ⟨rfl, hb11⟩
    replace o_a := o_a.below hb11 o_a.lt
    replace o_b := o_b.below hb11 o_b.lt
    replace o_d := o_d.below hb11 o_d.lt
    replace o_s := o_s.below hb11 o_s.lt
    replace hbw := below6 hbw hb11
    clear hb11
    obtain ⟨o_q, hz12⟩ := new1 w11 [.bool false, .string ⟨#[]⟩, .string ⟨#[]⟩] 33
    replace o_a := o_a.alloc (.cells #[.bool false, .string ⟨#[]⟩, .string ⟨#[]⟩] 33)
    replace o_b := o_b.alloc (.cells #[.bool false, .string ⟨#[]⟩, .string ⟨#[]⟩] 33)
    replace o_d := o_d.alloc (.cells #[.bool false, .string ⟨#[]⟩, .string ⟨#[]⟩] 33)
    replace o_s := o_s.alloc (.cells #[.bool false, .string ⟨#[]⟩, .string ⟨#[]⟩] 33)
    replace hbw := below6 hbw hz12
    clear hz12
    clear K_q
    have qq_0 : (w11.alloc (.cells #[.bool false, .string ⟨#[]⟩, .string ⟨#[]⟩] 33)).cell? ⟨w11.heap.size, 0, none⟩ = some (.bool false) := o_q.cell 0
    have qq_1 : (w11.alloc (.cells #[.bool false, .string ⟨#[]⟩, .string ⟨#[]⟩] 33)).cell? ⟨w11.heap.size, 1, none⟩ = some (.string ⟨#[]⟩) := o_q.cell 1
    have qq_2 : (w11.alloc (.cells #[.bool false, .string ⟨#[]⟩, .string ⟨#[]⟩] 33)).cell? ⟨w11.heap.size, 2, none⟩ = some (.string ⟨#[]⟩) := o_q.cell 2
    have qb_0 : (w11.alloc (.cells #[.bool false, .string ⟨#[]⟩, .string ⟨#[]⟩] 33)).cell? ⟨g4 + 1, 0, none⟩ = some (.bool false) := o_b.cell 0
    have qb_1 : (w11.alloc (.cells #[.bool false, .string ⟨#[]⟩, .string ⟨#[]⟩] 33)).cell? ⟨g4 + 1, 1, none⟩ = some (.string ⟨#[48]⟩) := o_b.cell 1
    have qb_2 : (w11.alloc (.cells #[.bool false, .string ⟨#[]⟩, .string ⟨#[]⟩] 33)).cell? ⟨g4 + 1, 2, none⟩ = some (.string ⟨#[49]⟩) := o_b.cell 2
    go_wp2_with fail
    generalize (w11.alloc (.cells #[.bool false, .string ⟨#[]⟩, .string ⟨#[]⟩] 33)) = wa13 at o_a o_b o_d o_s o_q hbw ⊢
    generalize w11.heap.size = g13 at o_q ⊢
    clear qq_0 qq_1 qq_2 qb_0 qb_1 qb_2
    refine (K_p.out _).mono ?_
    rintro e w14 ⟨rfl, hb14⟩
    replace o_a := o_a.below hb14 o_a.lt
    replace o_b := o_b.below hb14 o_b.lt
    replace o_d := o_d.below hb14 o_d.lt
    replace o_s := o_s.below hb14 o_s.lt
    replace o_q := o_q.below hb14 o_q.lt
    replace hbw := below6 hbw hb14
    clear hb14
    obtain ⟨o_p, hz15⟩ := new1 w14 [.bool false, .string ⟨#[]⟩, .string ⟨#[]⟩] 33
    replace o_a := o_a.alloc (.cells #[.bool false, .string ⟨#[]⟩, .string ⟨#[]⟩] 33)
    replace o_b := o_b.alloc (.cells #[.bool false, .string ⟨#[]⟩, .string ⟨#[]⟩] 33)
    replace o_d := o_d.alloc (.cells #[.bool false, .string ⟨#[]⟩, .string ⟨#[]⟩] 33)
    replace o_s := o_s.alloc (.cells #[.bool false, .string ⟨#[]⟩, .string ⟨#[]⟩] 33)
    replace o_q := o_q.alloc (.cells #[.bool false, .string ⟨#[]⟩, .string ⟨#[]⟩] 33)
    replace hbw := below6 hbw hz15
    clear hz15
    clear K_p
    have qs_0 : (w14.alloc (.cells #[.bool false, .string ⟨#[]⟩, .string ⟨#[]⟩] 33)).cell? ⟨g10, 0, none⟩ = some (.bool na) := o_s.cell 0
    have qs_1 : (w14.alloc (.cells #[.bool false, .string ⟨#[]⟩, .string ⟨#[]⟩] 33)).cell? ⟨g10, 1, none⟩ = some (.string sa) := o_s.cell 1
    have qs_2 : (w14.alloc (.cells #[.bool false, .string ⟨#[]⟩, .string ⟨#[]⟩] 33)).cell? ⟨g10, 2, none⟩ = some (.string ta) := o_s.cell 2
    have qa_0 : (w14.alloc (.cells #[.bool false, .string ⟨#[]⟩, .string ⟨#[]⟩] 33)).cell? ⟨g4, 0, none⟩ = some (.bool na) := o_a.cell 0
    have qa_1 : (w14.alloc (.cells #[.bool false, .string ⟨#[]⟩, .string ⟨#[]⟩] 33)).cell? ⟨g4, 1, none⟩ = some (.string sa) := o_a.cell 1
    have qa_2 : (w14.alloc (.cells #[.bool false, .string ⟨#[]⟩, .string ⟨#[]⟩] 33)).cell? ⟨g4, 2, none⟩ = some (.string ta) := o_a.cell 2
    have qd_0 : (w14.alloc (.cells #[.bool false, .string ⟨#[]⟩, .string ⟨#[]⟩] 33)).cell? ⟨g7, 0, none⟩ = some (.bool nd) := o_d.cell 0
    have qd_1 : (w14.alloc (.cells #[.bool false, .string ⟨#[]⟩, .string ⟨#[]⟩] 33)).cell? ⟨g7, 1, none⟩ = some (.string sd) := o_d.cell 1
    have qd_2 : (w14.alloc (.cells #[.bool false, .string ⟨#[]⟩, .string ⟨#[]⟩] 33)).cell? ⟨g7, 2, none⟩ = some (.string td) := o_d.cell 2
    go_wp2_with fail
    generalize (w14.alloc (.cells #[.bool false, .string ⟨#[]⟩, .string ⟨#[]⟩] 33)) = wa16 at o_a o_b o_d o_s o_q o_p hbw ⊢
    generalize w14.heap.size = g16 at o_p ⊢
    clear qs_0 qs_1 qs_2 qa_0 qa_1 qa_2 qd_0 qd_1 qd_2
    refine (K_i.out _).mono ?_
    rintro e w17 ⟨rfl, hb17⟩
    replace o_a := o_a.below hb17 o_a.lt
    replace o_b := o_b.below hb17 o_b.lt
    replace o_d := o_d.below hb17 o_d.lt
    replace o_s := o_s.below hb17 o_s.lt
    replace o_q := o_q.below hb17 o_q.lt
    replace o_p := o_p.below hb17 o_p.lt
    replace hbw := below6 hbw hb17
    clear hb17
    have qb_0 : w17.cell? ⟨g4 + 1, 0, none⟩ = some (.bool false) := o_b.cell 0
    have qb_1 : w17.cell? ⟨g4 + 1, 1, none⟩ = some (.string ⟨#[48]⟩) := o_b.cell 1
    have qb_2 : w17.cell? ⟨g4 + 1, 2, none⟩ = some (.string ⟨#[49]⟩) := o_b.cell 2
    go_wp2_with fail
    clear qb_0 qb_1 qb_2
    refine (known_any _).mono ?_
    rintro e w9 ⟨rfl, hb9⟩
    go_wp2
    go_ret
    exact ⟨rfl, below6 hbw hb9⟩
  · have fd := few_sub fa fb
    have fq := few_div2 (by decide) hz fa fb
    have K_d := Lib.hid (op_sub fa fb (by decide))
    have K_s : Hid (Op2 24 (RV (a - b)) (RV b) (RV a)) := by
      have := op_add fd fb (by decide)
      rwa [Rat.sub_add_cancel] at this
    have K_q := Lib.hid (op_quo hz fa fb (by decide) (by decide))
    have K_p : Hid (Op2 25 (RV (a / b)) (RV b) (RV a)) := by
      have := op_mul fq fb (by decide) (by decide)
      rwa [Rat.div_mul_cancel hz] at this
    have K_i := Lib.hid (yes_is fd (by decide))
    have K_j := Lib.hid (yes_is fq (by decide))
    have hne := str_ne (num0_ne hz)
    clear fa fb fd fq hz
    obtain ⟨nb, sb, tb, hvb, hsb⟩ : ∃ n s t, RV b = .agg #[.bool n, .string s, .string t] ∧ S b.num.natAbs = s := ⟨_, _, _, rfl, rfl⟩
    rw [hsb] at hne
    clear hsb
    obtain ⟨na, sa, ta, hva⟩ := rv_open (a)
    obtain ⟨nd, sd, td, hvd⟩ := rv_open (a - b)
    obtain ⟨nq, sq, tq, hvq⟩ := rv_open (a / b)
    rw [hva, hvb]
    rw [hva, hvb, hvd] at K_d
    rw [hvd, hvb, hva] at K_s
    rw [hvd] at K_i
    rw [hva, hvb, hvq] at K_q
    rw [hvq, hvb, hva] at K_p
    rw [hvq] at K_j
    clear hvb hva hvd hvq
    obtain ⟨o_a, o_b, hz3⟩ := new2 w2 [.bool na, .string sa, .string ta] [.bool nb, .string sb, .string tb] 33 33
    replace hbw := below6 hbw hz3
    clear hz3
    have qa_0 : ((w2.alloc (.cells #[.bool na, .string sa, .string ta] 33)).alloc (.cells #[.bool nb, .string sb, .string tb] 33)).cell? ⟨w2.heap.size, 0, none⟩ = some (.bool na) := o_a.cell 0
    have qa_1 : ((w2.alloc (.cells #[.bool na, .string sa, .string ta] 33)).alloc (.cells #[.bool nb, .string sb, .string tb] 33)).cell? ⟨w2.heap.size, 1, none⟩ = some (.string sa) := o_a.cell 1
    have qa_2 : ((w2.alloc (.cells #[.bool na, .string sa, .string ta] 33)).alloc (.cells #[.bool nb, .string sb, .string tb] 33)).cell? ⟨w2.heap.size, 2, none⟩ = some (.string ta) := o_a.cell 2
    have qb_0 : ((w2.alloc (.cells #[.bool na, .string sa, .string ta] 33)).alloc (.cells #[.bool nb, .string sb, .string tb] 33)).cell? ⟨w2.heap.size + 1, 0, none⟩ = some (.bool nb) := o_b.cell 0
    have qb_1 : ((w2.alloc (.cells #[.bool na, .string sa, .string ta] 33)).alloc (.cells #[.bool nb, .string sb, .string tb] 33)).cell? ⟨w2.heap.size + 1, 1, none⟩ = some (.string sb) := o_b.cell 1
    have qb_2 : ((w2.alloc (.cells #[.bool na, .string sa, .string ta] 33)).alloc (.cells #[.bool nb, .string sb, .string tb] 33)).cell? ⟨w2.heap.size + 1, 2, none⟩ = some (.string tb) := o_b.cell 2
    go_wp2_with fail
    generalize ((w2.alloc (.cells #[.bool na, .string sa, .string ta] 33)).alloc (.cells #[.bool nb, .string sb, .string tb] 33)) = wa4 at o_a o_b hbw ⊢
    generalize w2.heap.size = g4 at o_a o_b ⊢
    clear qa_0 qa_1 qa_2 qb_0 qb_1 qb_2
    refine (K_d.out _).mono ?_
    rintro e w5 ⟨rfl, hb5⟩
    replace o_a := o_a.below hb5 o_a.lt
    replace o_b := o_b.below hb5 o_b.lt
    replace hbw := below6 hbw hb5
    clear hb5
    obtain ⟨o_d, hz6⟩ := new1 w5 [.bool nd, .string sd, .string td] 33
    replace o_a := o_a.alloc (.cells #[.bool nd, .string sd, .string td] 33)
    replace o_b := o_b.alloc (.cells #[.bool nd, .string sd, .string td] 33)
    replace hbw := below6 hbw hz6
    clear hz6
    clear K_d
    have qd_0 : (w5.alloc (.cells #[.bool nd, .string sd, .string td] 33)).cell? ⟨w5.heap.size, 0, none⟩ = some (.bool nd) := o_d.cell 0
    have qd_1 : (w5.alloc (.cells #[.bool nd, .string sd, .string td] 33)).cell? ⟨w5.heap.size, 1, none⟩ = some (.string sd) := o_d.cell 1
    have qd_2 : (w5.alloc (.cells #[.bool nd, .string sd, .string td] 33)).cell? ⟨w5.heap.size, 2, none⟩ = some (.string td) := o_d.cell 2
    have qb_0 : (w5.alloc (.cells #[.bool nd, .string sd, .string td] 33)).cell? ⟨g4 + 1, 0, none⟩ = some (.bool nb) := o_b.cell 0
    have qb_1 : (w5.alloc (.cells #[.bool nd, .string sd, .string td] 33)).cell? ⟨g4 + 1, 1, none⟩ = some (.string sb) := o_b.cell 1
    have qb_2 : (w5.alloc (.cells #[.bool nd, .string sd, .string td] 33)).cell? ⟨g4 + 1, 2, none⟩ = some (.string tb) := o_b.cell 2
    go_wp2_with fail
    generalize (w5.alloc (.cells #[.bool nd, .string sd, .string td] 33)) = wa7 at o_a o_b o_d hbw ⊢
    generalize w5.heap.size = g7 at o_d ⊢
    clear qd_0 qd_1 qd_2 qb_0 qb_1 qb_2
    refine (K_s.out _).mono ?_
    rintro e w8 ⟨rfl, hb8⟩
    replace o_a := o_a.below hb8 o_a.lt
    replace o_b := o_b.below hb8 o_b.lt
    replace o_d := o_d.below hb8 o_d.lt
    replace hbw := below6 hbw hb8
    clear hb8
    obtain ⟨o_s, hz9⟩ := new1 w8 [.bool na, .string sa, .string ta] 33
    replace o_a := o_a.alloc (.cells #[.bool na, .string sa, .string ta] 33)
    replace o_b := o_b.alloc (.cells #[.bool na, .string sa, .string ta] 33)
    replace o_d := o_d.alloc (.cells #[.bool na, .string sa, .string ta] 33)
    replace hbw := below6 hbw hz9
    clear hz9
    clear K_s
    have qa_0 : (w8.alloc (.cells #[.bool na, .string sa, .string ta] 33)).cell? ⟨g4, 0, none⟩ = some (.bool na) := o_a.cell 0
    have qa_1 : (w8.alloc (.cells #[.bool na, .string sa, .string ta] 33)).cell? ⟨g4, 1, none⟩ = some (.string sa) := o_a.cell 1
    have qa_2 : (w8.alloc (.cells #[.bool na, .string sa, .string ta] 33)).cell? ⟨g4, 2, none⟩ = some (.string ta) := o_a.cell 2
    have qb_0 : (w8.alloc (.cells #[.bool na, .string sa, .string ta] 33)).cell? ⟨g4 + 1, 0, none⟩ = some (.bool nb) := o_b.cell 0
    have qb_1 : (w8.alloc (.cells #[.bool na, .string sa, .string ta] 33)).cell? ⟨g4 + 1, 1, none⟩ = some (.string sb) := o_b.cell 1
    have qb_2 : (w8.alloc (.cells #[.bool na, .string sa, .string ta] 33)).cell? ⟨g4 + 1, 2, none⟩ = some (.string tb) := o_b.cell 2
    go_wp2_with fail
    generalize (w8.alloc (.cells #[.bool na, .string sa, .string ta] 33)) = wa10 at o_a o_b o_d o_s hbw ⊢
    generalize w8.heap.size = g10 at o_s ⊢
    clear qa_0 qa_1 qa_2 qb_0 qb_1 qb_2
    refine (K_q.out _).mono ?_
    rintro e w11 ⟨rfl, hb11⟩
    replace o_a := o_a.below hb11 o_a.lt
    replace o_b := o_b.below hb11 o_b.lt
    replace o_d := o_d.below hb11 o_d.lt
    replace o_s := o_s.below hb11 o_s.lt
    replace hbw := below6 hbw hb11
    clear hb11
    obtain ⟨o_q, hz12⟩ := new1 w11 [.bool nq, .string sq, .string tq] 33
    replace o_a := o_a.alloc (.cells #[.bool nq, .string sq, .string tq] 33)
    replace o_b := o_b.alloc (.cells #[.bool nq, .string sq, .string tq] 33)
    replace o_d := o_d.alloc (.cells #[.bool nq, .string sq, .string tq] 33)
    replace o_s := o_s.alloc (.cells #[.bool nq, .string sq, .string tq] 33)
    replace hbw := below6 hbw hz12
    clear hz12
    clear K_q
    have qq_0 : (w11.alloc (.cells #[.bool nq, .string sq, .string tq] 33)).cell? ⟨w11.heap.size, 0, none⟩ = some (.bool nq) := o_q.cell 0
    have qq_1 : (w11.alloc (.cells #[.bool nq, .string sq, .string tq] 33)).cell? ⟨w11.heap.size, 1, none⟩ = some (.string sq) := o_q.cell 1
    have qq_2 : (w11.alloc (.cells #[.bool nq, .string sq, .string tq] 33)).cell? ⟨w11.heap.size, 2, none⟩ = some (.string tq) := o_q.cell 2
    have qb_0 : (w11.alloc (.cells #[.bool nq, .string sq, .string tq] 33)).cell? ⟨g4 + 1, 0, none⟩ = some (.bool nb) := o_b.cell 0
    have qb_1 : (w11.alloc (.cells #[.bool nq, .string sq, .string tq] 33)).cell? ⟨g4 + 1, 1, none⟩ = some (.string sb) := o_b.cell 1
    have qb_2 : (w11.alloc (.cells #[.bool nq, .string sq, .string tq] 33)).cell? ⟨g4 + 1, 2, none⟩ = some (.string tb) := o_b.cell 2
    go_wp2_with fail
    generalize (w11.alloc (.cells #[.bool nq, .string sq, .string tq] 33)) = wa13 at o_a o_b o_d o_s o_q hbw ⊢
    generalize w11.heap.size = g13 at o_q ⊢
    clear qq_0 qq_1 qq_2 qb_0 qb_1 qb_2
    refine (K_p.out _).mono ?_
    rintro e w14 ⟨rfl, hb14⟩
    replace o_a := o_a.below hb14 o_a.lt
    replace o_b := o_b.below hb14 o_b.lt
    replace o_d := o_d.below hb14 o_d.lt
    replace o_s := o_s.below hb14 o_s.lt
    replace o_q := o_q.below hb14 o_q.lt
    replace hbw := below6 hbw hb14
    clear hb14
    obtain ⟨o_p, hz15⟩ := new1 w14 [.bool na, .string sa, .string ta] 33
    replace o_a := o_a.alloc (.cells #[.bool na, .string sa, .string ta] 33)
    replace o_b := o_b.alloc (.cells #[.bool na, .string sa, .string ta] 33)
    replace o_d := o_d.alloc (.cells #[.bool na, .string sa, .string ta] 33)
    replace o_s := o_s.alloc (.cells #[.bool na, .string sa, .string ta] 33)
    replace o_q := o_q.alloc (.cells #[.bool na, .string sa, .string ta] 33)
    replace hbw := below6 hbw hz15
    clear hz15
    clear K_p
    have qs_0 : (w14.alloc (.cells #[.bool na, .string sa, .string ta] 33)).cell? ⟨g10, 0, none⟩ = some (.bool na) := o_s.cell 0
    have qs_1 : (w14.alloc (.cells #[.bool na, .string sa, .string ta] 33)).cell? ⟨g10, 1, none⟩ = some (.string sa) := o_s.cell 1
    have qs_2 : (w14.alloc (.cells #[.bool na, .string sa, .string ta] 33)).cell? ⟨g10, 2, none⟩ = some (.string ta) := o_s.cell 2
    have qa_0 : (w14.alloc (.cells #[.bool na, .string sa, .string ta] 33)).cell? ⟨g4, 0, none⟩ = some (.bool na) := o_a.cell 0
    have qa_1 : (w14.alloc (.cells #[.bool na, .string sa, .string ta] 33)).cell? ⟨g4, 1, none⟩ = some (.string sa) := o_a.cell 1
    have qa_2 : (w14.alloc (.cells #[.bool na, .string sa, .string ta] 33)).cell? ⟨g4, 2, none⟩ = some (.string ta) := o_a.cell 2
    have qd_0 : (w14.alloc (.cells #[.bool na, .string sa, .string ta] 33)).cell? ⟨g7, 0, none⟩ = some (.bool nd) := o_d.cell 0
    have qd_1 : (w14.alloc (.cells #[.bool na, .string sa, .string ta] 33)).cell? ⟨g7, 1, none⟩ = some (.string sd) := o_d.cell 1
    have qd_2 : (w14.alloc (.cells #[.bool na, .string sa, .string ta] 33)).cell? ⟨g7, 2, none⟩ = some (.string td) := o_d.cell 2
    go_wp2_with fail
    generalize (w14.alloc (.cells #[.bool na, .string sa, .string ta] 33)) = wa16 at o_a o_b o_d o_s o_q o_p hbw ⊢
    generalize w14.heap.size = g16 at o_p ⊢
    clear qs_0 qs_1 qs_2 qa_0 qa_1 qa_2 qd_0 qd_1 qd_2
    refine (K_i.out _).mono ?_
    rintro e w17 ⟨rfl, hb17⟩
    replace o_a := o_a.below hb17 o_a.lt
    replace o_b := o_b.below hb17 o_b.lt
    replace o_d := o_d.below hb17 o_d.lt
    replace o_s := o_s.below hb17 o_s.lt
    replace o_q := o_q.below hb17 o_q.lt
    replace o_p := o_p.below hb17 o_p.lt
    replace hbw := below6 hbw hb17
    clear hb17
    have qb_0 : w17.cell? ⟨g4 + 1, 0, none⟩ = some (.bool nb) := o_b.cell 0
    have qb_1 : w17.cell? ⟨g4 + 1, 1, none⟩ = some (.string sb) := o_b.cell 1
    have qb_2 : w17.cell? ⟨g4 + 1, 2, none⟩ = some (.string tb) := o_b.cell 2
    have qp_0 : w17.cell? ⟨g16, 0, none⟩ = some (.bool na) := o_p.cell 0
    have qp_1 : w17.cell? ⟨g16, 1, none⟩ = some (.string sa) := o_p.cell 1
    have qp_2 : w17.cell? ⟨g16, 2, none⟩ = some (.string ta) := o_p.cell 2
    have qa_0 : w17.cell? ⟨g4, 0, none⟩ = some (.bool na) := o_a.cell 0
    have qa_1 : w17.cell? ⟨g4, 1, none⟩ = some (.string sa) := o_a.cell 1
    have qa_2 : w17.cell? ⟨g4, 2, none⟩ = some (.string ta) := o_a.cell 2
    have qq_0 : w17.cell? ⟨g13, 0, none⟩ = some (.bool nq) := o_q.cell 0
    have qq_1 : w17.cell? ⟨g13, 1, none⟩ = some (.string sq) := o_q.cell 1
    have qq_2 : w17.cell? ⟨g13, 2, none⟩ = some (.string tq) := o_q.cell 2
    go_wp2_with fail
    clear qb_0 qb_1 qb_2 qp_0 qp_1 qp_2 qa_0 qa_1 qa_2 qq_0 qq_1 qq_2
    refine (K_j.out _).mono ?_
    rintro e w18 ⟨rfl, hb18⟩
    replace o_a := o_a.below hb18 o_a.lt
    replace o_b := o_b.below hb18 o_b.lt
    replace o_d := o_d.below hb18 o_d.lt
    replace o_s := o_s.below hb18 o_s.lt
    replace o_q := o_q.below hb18 o_q.lt
    replace o_p := o_p.below hb18 o_p.lt
    replace hbw := below6 hbw hb18
    clear hb18
    go_wp2_with fail
    refine (known_any _).mono ?_
    rintro e w9 ⟨rfl, hb9⟩
    go_wp2
    go_ret
    exact ⟨rfl, below6 hbw hb9⟩
end Go.Proofs.Ytofijnhkoadfjaa
