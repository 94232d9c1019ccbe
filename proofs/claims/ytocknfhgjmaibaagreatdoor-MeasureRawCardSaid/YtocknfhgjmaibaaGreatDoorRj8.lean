/- Parts of the proof: Rj8. No condition of its own. -/
import Derived.Test.YtocknfhgjmaibaaGreatDoorLy8
set_option linter.unusedSimpArgs false
set_option linter.unusedVariables false
set_option linter.unusedSectionVars false
set_option maxRecDepth 100000
set_option maxHeartbeats 4000000
namespace Go.Proofs.YtocknfhgjmaibaaGreatDoor
open Go.RowKit Dg

def VI (a p q n : Int) : Prop := 1 ≤ n ∧ n ≤ 2147483648 ∧ 0 ≤ p ∧ p ≤ n ∧ 0 ≤ q ∧ q ≤ n ∧ 0 ≤ a ∧ a ≤ p ∧ a ≤ q ∧ p + q - n ≤ a
theorem VI.nat {a p q n : Int} (h : VI a p q n) : ∃ a' p' q' n' : Nat, a = (a' : Int) ∧ p = (p' : Int) ∧ q = (q' : Int) ∧ n = (n' : Int) ∧ VC a' p' q' n' := by
  obtain ⟨h1, h2, h3, h4, h5, h6, h7, h8, h9, h10⟩ := h; refine ⟨a.toNat, p.toNat, q.toNat, n.toNat, by omega, by omega, by omega, by omega, ?_⟩
  constructor <;> omega
theorem rmv_no {a p q n : Int} (h : ¬ VI a p q n) : RetV 9 #[.agg #[.int .i64 a, .int .i64 p, .int .i64 q, .int .i64 n]] (.bool false) := by
  intro w; obtain ⟨o_c, hbw⟩ := new1 w [.int .i64 a, .int .i64 p, .int .i64 q, .int .i64 n] 23
  go_enter Tryz.func9, Tryz.ntmps9
  go_upto_region 1 with (fail)
  generalize (w.alloc (.cells #[.int .i64 a, .int .i64 p, .int .i64 q, .int .i64 n] 23)) = wb at o_c hbw ⊢; obtain ⟨qc_0, qc_1, qc_2, qc_3⟩ := o_c.cells4
  rcases Decidable.em (1 ≤ n) with c0 | c0
  rotate_left
  · have t0 : decide (1 ≤ n) = false := decide_eq_false c0
    go_wp2
    go_ret
    exact ⟨ret_bool (by first | rfl | (simp <;> omega)), hbw⟩
  have t0 : decide (1 ≤ n) = true := decide_eq_true c0
  rcases Decidable.em (n ≤ 2147483648) with c1 | c1
  rotate_left
  · have t1 : decide (n ≤ 2147483648) = false := decide_eq_false c1
    go_wp2
    go_ret
    exact ⟨ret_bool (by first | rfl | (simp <;> omega)), hbw⟩
  have t1 : decide (n ≤ 2147483648) = true := decide_eq_true c1
  rcases Decidable.em (0 ≤ p) with c2 | c2
  rotate_left
  · have t2 : decide (0 ≤ p) = false := decide_eq_false c2
    go_wp2
    go_ret
    exact ⟨ret_bool (by first | rfl | (simp <;> omega)), hbw⟩
  have t2 : decide (0 ≤ p) = true := decide_eq_true c2
  rcases Decidable.em (p ≤ n) with c3 | c3
  rotate_left
  · have t3 : decide (p ≤ n) = false := decide_eq_false c3
    go_wp2
    go_ret
    exact ⟨ret_bool (by first | rfl | (simp <;> omega)), hbw⟩
  have t3 : decide (p ≤ n) = true := decide_eq_true c3
  rcases Decidable.em (0 ≤ q) with c4 | c4
  rotate_left
  · have t4 : decide (0 ≤ q) = false := decide_eq_false c4
    go_wp2
    go_ret
    exact ⟨ret_bool (by first | rfl | (simp <;> omega)), hbw⟩
  have t4 : decide (0 ≤ q) = true := decide_eq_true c4
  rcases Decidable.em (q ≤ n) with c5 | c5
  rotate_left
  · have t5 : decide (q ≤ n) = false := decide_eq_false c5
    go_wp2
    go_ret
    exact ⟨ret_bool (by first | rfl | (simp <;> omega)), hbw⟩
  have t5 : decide (q ≤ n) = true := decide_eq_true c5
  rcases Decidable.em (0 ≤ a) with c6 | c6
  rotate_left
  · have t6 : decide (0 ≤ a) = false := decide_eq_false c6
    go_wp2
    go_ret
    exact ⟨ret_bool (by first | rfl | (simp <;> omega)), hbw⟩
  have t6 : decide (0 ≤ a) = true := decide_eq_true c6
  rcases Decidable.em (a ≤ p) with c7 | c7
  rotate_left
  · have t7 : decide (a ≤ p) = false := decide_eq_false c7
    go_wp2
    go_ret
    exact ⟨ret_bool (by first | rfl | (simp <;> omega)), hbw⟩
  have t7 : decide (a ≤ p) = true := decide_eq_true c7
  rcases Decidable.em (a ≤ q) with c8 | c8
  rotate_left
  · have t8 : decide (a ≤ q) = false := decide_eq_false c8
    go_wp2
    go_ret
    exact ⟨ret_bool (by first | rfl | (simp <;> omega)), hbw⟩
  have t8 : decide (a ≤ q) = true := decide_eq_true c8; have z1 : IntKind.i64.wrap (p + q) = p + q := IntWalk.i64_in _ (by omega); have z2 : IntKind.i64.wrap (p + q - n) = p + q - n := IntWalk.i64_in _ (by omega)
  rcases Decidable.em (p + q - n ≤ a) with c9 | c9
  rotate_left
  · have t9 : decide (p + q - n ≤ a) = false := decide_eq_false c9
    go_wp2
    go_ret
    exact ⟨ret_bool (by first | rfl | (simp <;> omega)), hbw⟩
  have t9 : decide (p + q - n ≤ a) = true := decide_eq_true c9; exact absurd (by unfold VI; omega) h
theorem mvalid_no {a p q n : Int} (h : ¬ VI a p q n) : RetV 8 #[.agg #[.int .i64 a, .int .i64 p, .int .i64 q, .int .i64 n]] (.bool false) := by
  intro w; obtain ⟨o_c, hbw⟩ := new1 w [.int .i64 a, .int .i64 p, .int .i64 q, .int .i64 n] 23
  go_enter Tryz.func8, Tryz.ntmps8
  go_upto_region 1 with (fail)
  generalize (w.alloc (.cells #[.int .i64 a, .int .i64 p, .int .i64 q, .int .i64 n] 23)) = wb at o_c hbw ⊢; obtain ⟨qc_0, qc_1, qc_2, qc_3⟩ := o_c.cells4
  rcases Decidable.em (1 ≤ n) with c0 | c0
  rotate_left
  · have t0 : decide (1 ≤ n) = false := decide_eq_false c0
    go_wp2
    go_ret
    exact ⟨ret_bool (by first | rfl | (simp <;> omega)), hbw⟩
  have t0 : decide (1 ≤ n) = true := decide_eq_true c0
  rcases Decidable.em (n ≤ 2147483648) with c1 | c1
  rotate_left
  · have t1 : decide (n ≤ 2147483648) = false := decide_eq_false c1
    go_wp2
    go_ret
    exact ⟨ret_bool (by first | rfl | (simp <;> omega)), hbw⟩
  have t1 : decide (n ≤ 2147483648) = true := decide_eq_true c1
  rcases Decidable.em (0 ≤ p) with c2 | c2
  rotate_left
  · have t2 : decide (0 ≤ p) = false := decide_eq_false c2
    go_wp2
    go_ret
    exact ⟨ret_bool (by first | rfl | (simp <;> omega)), hbw⟩
  have t2 : decide (0 ≤ p) = true := decide_eq_true c2
  rcases Decidable.em (p ≤ n) with c3 | c3
  rotate_left
  · have t3 : decide (p ≤ n) = false := decide_eq_false c3
    go_wp2
    go_ret
    exact ⟨ret_bool (by first | rfl | (simp <;> omega)), hbw⟩
  have t3 : decide (p ≤ n) = true := decide_eq_true c3
  rcases Decidable.em (0 ≤ q) with c4 | c4
  rotate_left
  · have t4 : decide (0 ≤ q) = false := decide_eq_false c4
    go_wp2
    go_ret
    exact ⟨ret_bool (by first | rfl | (simp <;> omega)), hbw⟩
  have t4 : decide (0 ≤ q) = true := decide_eq_true c4
  rcases Decidable.em (q ≤ n) with c5 | c5
  rotate_left
  · have t5 : decide (q ≤ n) = false := decide_eq_false c5
    go_wp2
    go_ret
    exact ⟨ret_bool (by first | rfl | (simp <;> omega)), hbw⟩
  have t5 : decide (q ≤ n) = true := decide_eq_true c5
  rcases Decidable.em (0 ≤ a) with c6 | c6
  rotate_left
  · have t6 : decide (0 ≤ a) = false := decide_eq_false c6
    go_wp2
    go_ret
    exact ⟨ret_bool (by first | rfl | (simp <;> omega)), hbw⟩
  have t6 : decide (0 ≤ a) = true := decide_eq_true c6
  rcases Decidable.em (a ≤ min p q) with c7 | c7
  rotate_left
  · have t7 : decide (a ≤ min p q) = false := decide_eq_false c7
    go_wp2
    go_ret
    exact ⟨ret_bool (by first | rfl | (simp <;> omega)), hbw⟩
  have t7 : decide (a ≤ min p q) = true := decide_eq_true c7; have z1 : IntKind.i64.wrap (p + q) = p + q := IntWalk.i64_in _ (by omega); have z2 : IntKind.i64.wrap (p + q - n) = p + q - n := IntWalk.i64_in _ (by omega)
  rcases Decidable.em (p + q - n ≤ a) with c8 | c8
  rotate_left
  · have t8 : decide (p + q - n ≤ a) = false := decide_eq_false c8
    go_wp2
    go_ret
    exact ⟨ret_bool (by first | rfl | (simp <;> omega)), hbw⟩
  have t8 : decide (p + q - n ≤ a) = true := decide_eq_true c8; exact absurd (by unfold VI; omega) h
theorem no_ChiSquared {a p q n : Int} (h : ¬ VI a p q n) : RetV 16 #[.agg #[.int .i64 a, .int .i64 p, .int .i64 q, .int .i64 n]] (.tuple #[.agg #[.bool false, .string ⟨#[]⟩, .string ⟨#[]⟩], .int .i64 1]) := by
  intro w; obtain ⟨o_c, o_r, hbw⟩ := new2 w [.int .i64 a, .int .i64 p, .int .i64 q, .int .i64 n] [.bool false, .string ⟨#[]⟩, .string ⟨#[]⟩] 23 27
  go_enter Tryz.func16, Tryz.ntmps16
  go_upto_region 1 with (fail)
  generalize ((w.alloc (.cells #[.int .i64 a, .int .i64 p, .int .i64 q, .int .i64 n] 23)).alloc (.cells #[.bool false, .string ⟨#[]⟩, .string ⟨#[]⟩] 27)) = wb at o_c o_r hbw ⊢; obtain ⟨qc_0, qc_1, qc_2, qc_3⟩ := o_c.cells4
  go_wp2_with fail
  clear qc_0 qc_1 qc_2 qc_3; refine (mvalid_no h _).mono ?_; rintro e w1 ⟨rfl, hb1⟩; replace o_c := o_c.below hb1 o_c.lt; replace o_r := o_r.below hb1 o_r.lt; replace hbw := below6 hbw hb1; clear hb1; obtain ⟨qr_0, qr_1, qr_2⟩ := o_r.cells3; obtain ⟨fr_0, fr_1, fr_2⟩ := o_r.frozens3; have oz := o_r.set3 (.bool false) (.string ⟨#[]⟩) (.string ⟨#[]⟩); have sz9 := Below.set3 hbw (g := w.heap.size + 1) (by omega) (.bool false) (.string ⟨#[]⟩) (.string ⟨#[]⟩)
  go_wp2_with fail
  generalize (((w1.setCell ⟨w.heap.size + 1, 0, none⟩ (.bool false)).setCell ⟨w.heap.size + 1, 1, none⟩ (.string ⟨#[]⟩)).setCell ⟨w.heap.size + 1, 2, none⟩ (.string ⟨#[]⟩)) = wz at oz sz9 ⊢; obtain ⟨z0, z1, z2⟩ := oz.cells3; exact bodyPost_ret (v := .tuple #[.agg #[.bool false, .string ⟨#[]⟩, .string ⟨#[]⟩], .int .i64 1]) (by simp [results, Tryz.results16, go_sem, z0, z1, z2]) rfl ⟨rfl, sz9⟩
theorem no_TSquared {a p q n : Int} (h : ¬ VI a p q n) : RetV 18 #[.agg #[.int .i64 a, .int .i64 p, .int .i64 q, .int .i64 n]] (.tuple #[.agg #[.bool false, .string ⟨#[]⟩, .string ⟨#[]⟩], .int .i64 1]) := by
  intro w; obtain ⟨o_c, o_r, hbw⟩ := new2 w [.int .i64 a, .int .i64 p, .int .i64 q, .int .i64 n] [.bool false, .string ⟨#[]⟩, .string ⟨#[]⟩] 23 27
  go_enter Tryz.func18, Tryz.ntmps18
  go_upto_region 1 with (fail)
  generalize ((w.alloc (.cells #[.int .i64 a, .int .i64 p, .int .i64 q, .int .i64 n] 23)).alloc (.cells #[.bool false, .string ⟨#[]⟩, .string ⟨#[]⟩] 27)) = wb at o_c o_r hbw ⊢; obtain ⟨qc_0, qc_1, qc_2, qc_3⟩ := o_c.cells4
  go_wp2_with fail
  clear qc_0 qc_1 qc_2 qc_3; refine (mvalid_no h _).mono ?_; rintro e w1 ⟨rfl, hb1⟩; replace o_c := o_c.below hb1 o_c.lt; replace o_r := o_r.below hb1 o_r.lt; replace hbw := below6 hbw hb1; clear hb1; obtain ⟨qr_0, qr_1, qr_2⟩ := o_r.cells3; obtain ⟨fr_0, fr_1, fr_2⟩ := o_r.frozens3; have oz := o_r.set3 (.bool false) (.string ⟨#[]⟩) (.string ⟨#[]⟩); have sz9 := Below.set3 hbw (g := w.heap.size + 1) (by omega) (.bool false) (.string ⟨#[]⟩) (.string ⟨#[]⟩)
  go_wp2_with fail
  generalize (((w1.setCell ⟨w.heap.size + 1, 0, none⟩ (.bool false)).setCell ⟨w.heap.size + 1, 1, none⟩ (.string ⟨#[]⟩)).setCell ⟨w.heap.size + 1, 2, none⟩ (.string ⟨#[]⟩)) = wz at oz sz9 ⊢; obtain ⟨z0, z1, z2⟩ := oz.cells3; exact bodyPost_ret (v := .tuple #[.agg #[.bool false, .string ⟨#[]⟩, .string ⟨#[]⟩], .int .i64 1]) (by simp [results, Tryz.results18, go_sem, z0, z1, z2]) rfl ⟨rfl, sz9⟩
theorem no_Odds {a p q n : Int} (h : ¬ VI a p q n) : RetV 20 #[.agg #[.int .i64 a, .int .i64 p, .int .i64 q, .int .i64 n]] (.tuple #[.agg #[.bool false, .string ⟨#[]⟩, .string ⟨#[]⟩], .int .i64 1]) := by
  intro w; obtain ⟨o_c, o_r, hbw⟩ := new2 w [.int .i64 a, .int .i64 p, .int .i64 q, .int .i64 n] [.bool false, .string ⟨#[]⟩, .string ⟨#[]⟩] 23 27
  go_enter Tryz.func20, Tryz.ntmps20
  go_upto_region 1 with (fail)
  generalize ((w.alloc (.cells #[.int .i64 a, .int .i64 p, .int .i64 q, .int .i64 n] 23)).alloc (.cells #[.bool false, .string ⟨#[]⟩, .string ⟨#[]⟩] 27)) = wb at o_c o_r hbw ⊢; obtain ⟨qc_0, qc_1, qc_2, qc_3⟩ := o_c.cells4
  go_wp2_with fail
  clear qc_0 qc_1 qc_2 qc_3; refine (mvalid_no h _).mono ?_; rintro e w1 ⟨rfl, hb1⟩; replace o_c := o_c.below hb1 o_c.lt; replace o_r := o_r.below hb1 o_r.lt; replace hbw := below6 hbw hb1; clear hb1; obtain ⟨qr_0, qr_1, qr_2⟩ := o_r.cells3; obtain ⟨fr_0, fr_1, fr_2⟩ := o_r.frozens3; have oz := o_r.set3 (.bool false) (.string ⟨#[]⟩) (.string ⟨#[]⟩); have sz9 := Below.set3 hbw (g := w.heap.size + 1) (by omega) (.bool false) (.string ⟨#[]⟩) (.string ⟨#[]⟩)
  go_wp2_with fail
  generalize (((w1.setCell ⟨w.heap.size + 1, 0, none⟩ (.bool false)).setCell ⟨w.heap.size + 1, 1, none⟩ (.string ⟨#[]⟩)).setCell ⟨w.heap.size + 1, 2, none⟩ (.string ⟨#[]⟩)) = wz at oz sz9 ⊢; obtain ⟨z0, z1, z2⟩ := oz.cells3; exact bodyPost_ret (v := .tuple #[.agg #[.bool false, .string ⟨#[]⟩, .string ⟨#[]⟩], .int .i64 1]) (by simp [results, Tryz.results20, go_sem, z0, z1, z2]) rfl ⟨rfl, sz9⟩
theorem nor_Expected {a p q n : Int} (h : ¬ VI a p q n) : RetV 7 #[.agg #[.int .i64 a, .int .i64 p, .int .i64 q, .int .i64 n]] (.tuple #[.agg #[.bool false, .string ⟨#[]⟩, .string ⟨#[]⟩], .int .i64 1]) := by
  intro w; obtain ⟨o_c, o_r, hbw⟩ := new2 w [.int .i64 a, .int .i64 p, .int .i64 q, .int .i64 n] [.bool false, .string ⟨#[]⟩, .string ⟨#[]⟩] 23 27
  go_enter Tryz.func7, Tryz.ntmps7
  go_upto_region 1 with (fail)
  generalize ((w.alloc (.cells #[.int .i64 a, .int .i64 p, .int .i64 q, .int .i64 n] 23)).alloc (.cells #[.bool false, .string ⟨#[]⟩, .string ⟨#[]⟩] 27)) = wb at o_c o_r hbw ⊢; obtain ⟨qc_0, qc_1, qc_2, qc_3⟩ := o_c.cells4
  go_wp2_with fail
  clear qc_0 qc_1 qc_2 qc_3; refine (rmv_no h _).mono ?_; rintro e w1 ⟨rfl, hb1⟩; replace o_c := o_c.below hb1 o_c.lt; replace o_r := o_r.below hb1 o_r.lt; replace hbw := below6 hbw hb1; clear hb1; obtain ⟨qr_0, qr_1, qr_2⟩ := o_r.cells3; obtain ⟨fr_0, fr_1, fr_2⟩ := o_r.frozens3; have oz := o_r.set3 (.bool false) (.string ⟨#[]⟩) (.string ⟨#[]⟩); have sz9 := Below.set3 hbw (g := w.heap.size + 1) (by omega) (.bool false) (.string ⟨#[]⟩) (.string ⟨#[]⟩)
  go_wp2_with fail
  generalize (((w1.setCell ⟨w.heap.size + 1, 0, none⟩ (.bool false)).setCell ⟨w.heap.size + 1, 1, none⟩ (.string ⟨#[]⟩)).setCell ⟨w.heap.size + 1, 2, none⟩ (.string ⟨#[]⟩)) = wz at oz sz9 ⊢; obtain ⟨z0, z1, z2⟩ := oz.cells3; exact bodyPost_ret (v := .tuple #[.agg #[.bool false, .string ⟨#[]⟩, .string ⟨#[]⟩], .int .i64 1]) (by simp [results, Tryz.results7, go_sem, z0, z1, z2]) rfl ⟨rfl, sz9⟩
theorem nor_Dice {a p q n : Int} (h : ¬ VI a p q n) : RetV 11 #[.agg #[.int .i64 a, .int .i64 p, .int .i64 q, .int .i64 n]] (.tuple #[.agg #[.bool false, .string ⟨#[]⟩, .string ⟨#[]⟩], .int .i64 1]) := by
  intro w; obtain ⟨o_c, o_r, hbw⟩ := new2 w [.int .i64 a, .int .i64 p, .int .i64 q, .int .i64 n] [.bool false, .string ⟨#[]⟩, .string ⟨#[]⟩] 23 27
  go_enter Tryz.func11, Tryz.ntmps11
  go_upto_region 1 with (fail)
  generalize ((w.alloc (.cells #[.int .i64 a, .int .i64 p, .int .i64 q, .int .i64 n] 23)).alloc (.cells #[.bool false, .string ⟨#[]⟩, .string ⟨#[]⟩] 27)) = wb at o_c o_r hbw ⊢; obtain ⟨qc_0, qc_1, qc_2, qc_3⟩ := o_c.cells4
  go_wp2_with fail
  clear qc_0 qc_1 qc_2 qc_3; refine (rmv_no h _).mono ?_; rintro e w1 ⟨rfl, hb1⟩; replace o_c := o_c.below hb1 o_c.lt; replace o_r := o_r.below hb1 o_r.lt; replace hbw := below6 hbw hb1; clear hb1; obtain ⟨qr_0, qr_1, qr_2⟩ := o_r.cells3; obtain ⟨fr_0, fr_1, fr_2⟩ := o_r.frozens3; have oz := o_r.set3 (.bool false) (.string ⟨#[]⟩) (.string ⟨#[]⟩); have sz9 := Below.set3 hbw (g := w.heap.size + 1) (by omega) (.bool false) (.string ⟨#[]⟩) (.string ⟨#[]⟩)
  go_wp2_with fail
  generalize (((w1.setCell ⟨w.heap.size + 1, 0, none⟩ (.bool false)).setCell ⟨w.heap.size + 1, 1, none⟩ (.string ⟨#[]⟩)).setCell ⟨w.heap.size + 1, 2, none⟩ (.string ⟨#[]⟩)) = wz at oz sz9 ⊢; obtain ⟨z0, z1, z2⟩ := oz.cells3; exact bodyPost_ret (v := .tuple #[.agg #[.bool false, .string ⟨#[]⟩, .string ⟨#[]⟩], .int .i64 1]) (by simp [results, Tryz.results11, go_sem, z0, z1, z2]) rfl ⟨rfl, sz9⟩
theorem nor_Jaccard {a p q n : Int} (h : ¬ VI a p q n) : RetV 13 #[.agg #[.int .i64 a, .int .i64 p, .int .i64 q, .int .i64 n]] (.tuple #[.agg #[.bool false, .string ⟨#[]⟩, .string ⟨#[]⟩], .int .i64 1]) := by
  intro w; obtain ⟨o_c, o_r, hbw⟩ := new2 w [.int .i64 a, .int .i64 p, .int .i64 q, .int .i64 n] [.bool false, .string ⟨#[]⟩, .string ⟨#[]⟩] 23 27
  go_enter Tryz.func13, Tryz.ntmps13
  go_upto_region 1 with (fail)
  generalize ((w.alloc (.cells #[.int .i64 a, .int .i64 p, .int .i64 q, .int .i64 n] 23)).alloc (.cells #[.bool false, .string ⟨#[]⟩, .string ⟨#[]⟩] 27)) = wb at o_c o_r hbw ⊢; obtain ⟨qc_0, qc_1, qc_2, qc_3⟩ := o_c.cells4
  go_wp2_with fail
  clear qc_0 qc_1 qc_2 qc_3; refine (rmv_no h _).mono ?_; rintro e w1 ⟨rfl, hb1⟩; replace o_c := o_c.below hb1 o_c.lt; replace o_r := o_r.below hb1 o_r.lt; replace hbw := below6 hbw hb1; clear hb1; obtain ⟨qr_0, qr_1, qr_2⟩ := o_r.cells3; obtain ⟨fr_0, fr_1, fr_2⟩ := o_r.frozens3; have oz := o_r.set3 (.bool false) (.string ⟨#[]⟩) (.string ⟨#[]⟩); have sz9 := Below.set3 hbw (g := w.heap.size + 1) (by omega) (.bool false) (.string ⟨#[]⟩) (.string ⟨#[]⟩)
  go_wp2_with fail
  generalize (((w1.setCell ⟨w.heap.size + 1, 0, none⟩ (.bool false)).setCell ⟨w.heap.size + 1, 1, none⟩ (.string ⟨#[]⟩)).setCell ⟨w.heap.size + 1, 2, none⟩ (.string ⟨#[]⟩)) = wz at oz sz9 ⊢; obtain ⟨z0, z1, z2⟩ := oz.cells3; exact bodyPost_ret (v := .tuple #[.agg #[.bool false, .string ⟨#[]⟩, .string ⟨#[]⟩], .int .i64 1]) (by simp [results, Tryz.results13, go_sem, z0, z1, z2]) rfl ⟨rfl, sz9⟩
theorem nor_MinSensitivity {a p q n : Int} (h : ¬ VI a p q n) : RetV 15 #[.agg #[.int .i64 a, .int .i64 p, .int .i64 q, .int .i64 n]] (.tuple #[.agg #[.bool false, .string ⟨#[]⟩, .string ⟨#[]⟩], .int .i64 1]) := by
  intro w; obtain ⟨o_c, o_r, hbw⟩ := new2 w [.int .i64 a, .int .i64 p, .int .i64 q, .int .i64 n] [.bool false, .string ⟨#[]⟩, .string ⟨#[]⟩] 23 27
  go_enter Tryz.func15, Tryz.ntmps15
  go_upto_region 1 with (fail)
  generalize ((w.alloc (.cells #[.int .i64 a, .int .i64 p, .int .i64 q, .int .i64 n] 23)).alloc (.cells #[.bool false, .string ⟨#[]⟩, .string ⟨#[]⟩] 27)) = wb at o_c o_r hbw ⊢; obtain ⟨qc_0, qc_1, qc_2, qc_3⟩ := o_c.cells4
  go_wp2_with fail
  clear qc_0 qc_1 qc_2 qc_3; refine (rmv_no h _).mono ?_; rintro e w1 ⟨rfl, hb1⟩; replace o_c := o_c.below hb1 o_c.lt; replace o_r := o_r.below hb1 o_r.lt; replace hbw := below6 hbw hb1; clear hb1; obtain ⟨qr_0, qr_1, qr_2⟩ := o_r.cells3; obtain ⟨fr_0, fr_1, fr_2⟩ := o_r.frozens3; have oz := o_r.set3 (.bool false) (.string ⟨#[]⟩) (.string ⟨#[]⟩); have sz9 := Below.set3 hbw (g := w.heap.size + 1) (by omega) (.bool false) (.string ⟨#[]⟩) (.string ⟨#[]⟩)
  go_wp2_with fail
  generalize (((w1.setCell ⟨w.heap.size + 1, 0, none⟩ (.bool false)).setCell ⟨w.heap.size + 1, 1, none⟩ (.string ⟨#[]⟩)).setCell ⟨w.heap.size + 1, 2, none⟩ (.string ⟨#[]⟩)) = wz at oz sz9 ⊢; obtain ⟨z0, z1, z2⟩ := oz.cells3; exact bodyPost_ret (v := .tuple #[.agg #[.bool false, .string ⟨#[]⟩, .string ⟨#[]⟩], .int .i64 1]) (by simp [results, Tryz.results15, go_sem, z0, z1, z2]) rfl ⟨rfl, sz9⟩
theorem nor_ChiSquared {a p q n : Int} (h : ¬ VI a p q n) : RetV 17 #[.agg #[.int .i64 a, .int .i64 p, .int .i64 q, .int .i64 n]] (.tuple #[.agg #[.bool false, .string ⟨#[]⟩, .string ⟨#[]⟩], .int .i64 1]) := by
  intro w; obtain ⟨o_c, o_r, hbw⟩ := new2 w [.int .i64 a, .int .i64 p, .int .i64 q, .int .i64 n] [.bool false, .string ⟨#[]⟩, .string ⟨#[]⟩] 23 27
  go_enter Tryz.func17, Tryz.ntmps17
  go_upto_region 1 with (fail)
  generalize ((w.alloc (.cells #[.int .i64 a, .int .i64 p, .int .i64 q, .int .i64 n] 23)).alloc (.cells #[.bool false, .string ⟨#[]⟩, .string ⟨#[]⟩] 27)) = wb at o_c o_r hbw ⊢; obtain ⟨qc_0, qc_1, qc_2, qc_3⟩ := o_c.cells4
  go_wp2_with fail
  clear qc_0 qc_1 qc_2 qc_3; refine (rmv_no h _).mono ?_; rintro e w1 ⟨rfl, hb1⟩; replace o_c := o_c.below hb1 o_c.lt; replace o_r := o_r.below hb1 o_r.lt; replace hbw := below6 hbw hb1; clear hb1; obtain ⟨qr_0, qr_1, qr_2⟩ := o_r.cells3; obtain ⟨fr_0, fr_1, fr_2⟩ := o_r.frozens3; have oz := o_r.set3 (.bool false) (.string ⟨#[]⟩) (.string ⟨#[]⟩); have sz9 := Below.set3 hbw (g := w.heap.size + 1) (by omega) (.bool false) (.string ⟨#[]⟩) (.string ⟨#[]⟩)
  go_wp2_with fail
  generalize (((w1.setCell ⟨w.heap.size + 1, 0, none⟩ (.bool false)).setCell ⟨w.heap.size + 1, 1, none⟩ (.string ⟨#[]⟩)).setCell ⟨w.heap.size + 1, 2, none⟩ (.string ⟨#[]⟩)) = wz at oz sz9 ⊢; obtain ⟨z0, z1, z2⟩ := oz.cells3; exact bodyPost_ret (v := .tuple #[.agg #[.bool false, .string ⟨#[]⟩, .string ⟨#[]⟩], .int .i64 1]) (by simp [results, Tryz.results17, go_sem, z0, z1, z2]) rfl ⟨rfl, sz9⟩
theorem nor_TSquared {a p q n : Int} (h : ¬ VI a p q n) : RetV 19 #[.agg #[.int .i64 a, .int .i64 p, .int .i64 q, .int .i64 n]] (.tuple #[.agg #[.bool false, .string ⟨#[]⟩, .string ⟨#[]⟩], .int .i64 1]) := by
  intro w; obtain ⟨o_c, o_r, hbw⟩ := new2 w [.int .i64 a, .int .i64 p, .int .i64 q, .int .i64 n] [.bool false, .string ⟨#[]⟩, .string ⟨#[]⟩] 23 27
  go_enter Tryz.func19, Tryz.ntmps19
  go_upto_region 1 with (fail)
  generalize ((w.alloc (.cells #[.int .i64 a, .int .i64 p, .int .i64 q, .int .i64 n] 23)).alloc (.cells #[.bool false, .string ⟨#[]⟩, .string ⟨#[]⟩] 27)) = wb at o_c o_r hbw ⊢; obtain ⟨qc_0, qc_1, qc_2, qc_3⟩ := o_c.cells4
  go_wp2_with fail
  clear qc_0 qc_1 qc_2 qc_3; refine (rmv_no h _).mono ?_; rintro e w1 ⟨rfl, hb1⟩; replace o_c := o_c.below hb1 o_c.lt; replace o_r := o_r.below hb1 o_r.lt; replace hbw := below6 hbw hb1; clear hb1; obtain ⟨qr_0, qr_1, qr_2⟩ := o_r.cells3; obtain ⟨fr_0, fr_1, fr_2⟩ := o_r.frozens3; have oz := o_r.set3 (.bool false) (.string ⟨#[]⟩) (.string ⟨#[]⟩); have sz9 := Below.set3 hbw (g := w.heap.size + 1) (by omega) (.bool false) (.string ⟨#[]⟩) (.string ⟨#[]⟩)
  go_wp2_with fail
  generalize (((w1.setCell ⟨w.heap.size + 1, 0, none⟩ (.bool false)).setCell ⟨w.heap.size + 1, 1, none⟩ (.string ⟨#[]⟩)).setCell ⟨w.heap.size + 1, 2, none⟩ (.string ⟨#[]⟩)) = wz at oz sz9 ⊢; obtain ⟨z0, z1, z2⟩ := oz.cells3; exact bodyPost_ret (v := .tuple #[.agg #[.bool false, .string ⟨#[]⟩, .string ⟨#[]⟩], .int .i64 1]) (by simp [results, Tryz.results19, go_sem, z0, z1, z2]) rfl ⟨rfl, sz9⟩
theorem nor_Odds {a p q n : Int} (h : ¬ VI a p q n) : RetV 21 #[.agg #[.int .i64 a, .int .i64 p, .int .i64 q, .int .i64 n]] (.tuple #[.agg #[.bool false, .string ⟨#[]⟩, .string ⟨#[]⟩], .int .i64 1]) := by
  intro w; obtain ⟨o_c, o_r, hbw⟩ := new2 w [.int .i64 a, .int .i64 p, .int .i64 q, .int .i64 n] [.bool false, .string ⟨#[]⟩, .string ⟨#[]⟩] 23 27
  go_enter Tryz.func21, Tryz.ntmps21
  go_upto_region 1 with (fail)
  generalize ((w.alloc (.cells #[.int .i64 a, .int .i64 p, .int .i64 q, .int .i64 n] 23)).alloc (.cells #[.bool false, .string ⟨#[]⟩, .string ⟨#[]⟩] 27)) = wb at o_c o_r hbw ⊢; obtain ⟨qc_0, qc_1, qc_2, qc_3⟩ := o_c.cells4
  go_wp2_with fail
  clear qc_0 qc_1 qc_2 qc_3; refine (rmv_no h _).mono ?_; rintro e w1 ⟨rfl, hb1⟩; replace o_c := o_c.below hb1 o_c.lt; replace o_r := o_r.below hb1 o_r.lt; replace hbw := below6 hbw hb1; clear hb1; obtain ⟨qr_0, qr_1, qr_2⟩ := o_r.cells3; obtain ⟨fr_0, fr_1, fr_2⟩ := o_r.frozens3; have oz := o_r.set3 (.bool false) (.string ⟨#[]⟩) (.string ⟨#[]⟩); have sz9 := Below.set3 hbw (g := w.heap.size + 1) (by omega) (.bool false) (.string ⟨#[]⟩) (.string ⟨#[]⟩)
  go_wp2_with fail
  generalize (((w1.setCell ⟨w.heap.size + 1, 0, none⟩ (.bool false)).setCell ⟨w.heap.size + 1, 1, none⟩ (.string ⟨#[]⟩)).setCell ⟨w.heap.size + 1, 2, none⟩ (.string ⟨#[]⟩)) = wz at oz sz9 ⊢; obtain ⟨z0, z1, z2⟩ := oz.cells3; exact bodyPost_ret (v := .tuple #[.agg #[.bool false, .string ⟨#[]⟩, .string ⟨#[]⟩], .int .i64 1]) (by simp [results, Tryz.results21, go_sem, z0, z1, z2]) rfl ⟨rfl, sz9⟩
theorem no_quotient {a p q n : Int} (h : ¬ VI a p q n) (A1 : Option Addr) (l1 c1 : Nat) (A2 : Option Addr) (l2 c2 : Nat) : RetV 28 #[.agg #[.int .i64 a, .int .i64 p, .int .i64 q, .int .i64 n], .slice A1 l1 c1, .slice A2 l2 c2] (.tuple #[.agg #[.bool false, .string ⟨#[]⟩, .string ⟨#[]⟩], .int .i64 1]) := by
  intro w; obtain ⟨o_c, o_r, hbw⟩ := new2 w [.int .i64 a, .int .i64 p, .int .i64 q, .int .i64 n] [.bool false, .string ⟨#[]⟩, .string ⟨#[]⟩] 23 27
  go_enter Tryz.func28, Tryz.ntmps28
  go_upto_region 1 with (fail)
  generalize ((w.alloc (.cells #[.int .i64 a, .int .i64 p, .int .i64 q, .int .i64 n] 23)).alloc (.cells #[.bool false, .string ⟨#[]⟩, .string ⟨#[]⟩] 27)) = wb at o_c o_r hbw ⊢; obtain ⟨qc_0, qc_1, qc_2, qc_3⟩ := o_c.cells4
  go_wp2_with fail
  clear qc_0 qc_1 qc_2 qc_3; refine (mvalid_no h _).mono ?_; rintro e w1 ⟨rfl, hb1⟩; replace o_c := o_c.below hb1 o_c.lt; replace o_r := o_r.below hb1 o_r.lt; replace hbw := below6 hbw hb1; clear hb1; obtain ⟨qr_0, qr_1, qr_2⟩ := o_r.cells3; obtain ⟨fr_0, fr_1, fr_2⟩ := o_r.frozens3; have oz := o_r.set3 (.bool false) (.string ⟨#[]⟩) (.string ⟨#[]⟩); have sz9 := Below.set3 hbw (g := w.heap.size + 1) (by omega) (.bool false) (.string ⟨#[]⟩) (.string ⟨#[]⟩)
  go_wp2_with fail
  generalize (((w1.setCell ⟨w.heap.size + 1, 0, none⟩ (.bool false)).setCell ⟨w.heap.size + 1, 1, none⟩ (.string ⟨#[]⟩)).setCell ⟨w.heap.size + 1, 2, none⟩ (.string ⟨#[]⟩)) = wz at oz sz9 ⊢; obtain ⟨z0, z1, z2⟩ := oz.cells3; exact bodyPost_ret (v := .tuple #[.agg #[.bool false, .string ⟨#[]⟩, .string ⟨#[]⟩], .int .i64 1]) (by simp [results, Tryz.results28, go_sem, z0, z1, z2]) rfl ⟨rfl, sz9⟩
theorem no_Expected {a p q n : Int} (h : ¬ VI a p q n) : RetV 6 #[.agg #[.int .i64 a, .int .i64 p, .int .i64 q, .int .i64 n]] (.tuple #[.agg #[.bool false, .string ⟨#[]⟩, .string ⟨#[]⟩], .int .i64 1]) := by
  intro w; obtain ⟨o_c, o_r, hbw⟩ := new2 w [.int .i64 a, .int .i64 p, .int .i64 q, .int .i64 n] [.bool false, .string ⟨#[]⟩, .string ⟨#[]⟩] 23 27
  go_enter Tryz.func6, Tryz.ntmps6
  go_upto_region 1 with (fail)
  generalize ((w.alloc (.cells #[.int .i64 a, .int .i64 p, .int .i64 q, .int .i64 n] 23)).alloc (.cells #[.bool false, .string ⟨#[]⟩, .string ⟨#[]⟩] 27)) = wb at o_c o_r hbw ⊢; obtain ⟨qc_0, qc_1, qc_2, qc_3⟩ := o_c.cells4; obtain ⟨qm0_0, qm0_1, qm0_2, qm0_3⟩ := (o_c.alloc (.cells #[.int .i64 p, .int .i64 q] 3)).cells4; obtain ⟨o_s0, o_s1, hz1⟩ := new2 wb [.int .i64 p, .int .i64 q] [.int .i64 n] 3 3; replace o_c := o_c.alloc (.cells #[.int .i64 p, .int .i64 q] 3); replace o_c := o_c.alloc (.cells #[.int .i64 n] 3); replace o_r := o_r.alloc (.cells #[.int .i64 p, .int .i64 q] 3); replace o_r := o_r.alloc (.cells #[.int .i64 n] 3); replace hbw := below6 hbw hz1; clear hz1
  go_wp2_with fail
  generalize ((wb.alloc (.cells #[.int .i64 p, .int .i64 q] 3)).alloc (.cells #[.int .i64 n] 3)) = wa2 at o_c o_r o_s0 o_s1 hbw ⊢; generalize wb.heap.size = g2 at o_s0 o_s1 ⊢; clear qc_0 qm0_0 qc_1 qm0_1 qc_2 qm0_2 qc_3 qm0_3; refine (no_quotient h _ _ _ _ _ _ _).mono ?_; rintro e w3 ⟨rfl, hb9⟩; replace o_c := o_c.below hb9 o_c.lt; replace o_r := o_r.below hb9 o_r.lt; replace hbw := below6 hbw hb9; clear hb9 o_s0 o_s1; obtain ⟨qr_0, qr_1, qr_2⟩ := o_r.cells3; obtain ⟨fr_0, fr_1, fr_2⟩ := o_r.frozens3; have oz := o_r.set3 (.bool false) (.string ⟨#[]⟩) (.string ⟨#[]⟩); have sz9 := Below.set3 hbw (g := w.heap.size + 1) (by omega) (.bool false) (.string ⟨#[]⟩) (.string ⟨#[]⟩)
  go_wp2_with fail
  generalize (((w3.setCell ⟨w.heap.size + 1, 0, none⟩ (.bool false)).setCell ⟨w.heap.size + 1, 1, none⟩ (.string ⟨#[]⟩)).setCell ⟨w.heap.size + 1, 2, none⟩ (.string ⟨#[]⟩)) = wz at oz sz9 ⊢; obtain ⟨z0, z1, z2⟩ := oz.cells3; exact bodyPost_ret (v := .tuple #[.agg #[.bool false, .string ⟨#[]⟩, .string ⟨#[]⟩], .int .i64 1]) (by simp [results, Tryz.results6, go_sem, z0, z1, z2]) rfl ⟨rfl, sz9⟩
theorem no_Dice {a p q n : Int} (h : ¬ VI a p q n) : RetV 10 #[.agg #[.int .i64 a, .int .i64 p, .int .i64 q, .int .i64 n]] (.tuple #[.agg #[.bool false, .string ⟨#[]⟩, .string ⟨#[]⟩], .int .i64 1]) := by
  intro w; obtain ⟨o_c, o_r, hbw⟩ := new2 w [.int .i64 a, .int .i64 p, .int .i64 q, .int .i64 n] [.bool false, .string ⟨#[]⟩, .string ⟨#[]⟩] 23 27
  go_enter Tryz.func10, Tryz.ntmps10
  go_upto_region 1 with (fail)
  generalize ((w.alloc (.cells #[.int .i64 a, .int .i64 p, .int .i64 q, .int .i64 n] 23)).alloc (.cells #[.bool false, .string ⟨#[]⟩, .string ⟨#[]⟩] 27)) = wb at o_c o_r hbw ⊢; obtain ⟨qc_0, qc_1, qc_2, qc_3⟩ := o_c.cells4; obtain ⟨qm0_0, qm0_1, qm0_2, qm0_3⟩ := (o_c.alloc (.cells #[.int .i64 2, .int .i64 a] 3)).cells4; obtain ⟨o_s0, o_s1, hz1⟩ := new2 wb [.int .i64 2, .int .i64 a] [.int .i64 (wrap64 (p + q))] 3 3; replace o_c := o_c.alloc (.cells #[.int .i64 2, .int .i64 a] 3); replace o_c := o_c.alloc (.cells #[.int .i64 (wrap64 (p + q))] 3); replace o_r := o_r.alloc (.cells #[.int .i64 2, .int .i64 a] 3); replace o_r := o_r.alloc (.cells #[.int .i64 (wrap64 (p + q))] 3); replace hbw := below6 hbw hz1; clear hz1
  go_wp2_with fail
  generalize ((wb.alloc (.cells #[.int .i64 2, .int .i64 a] 3)).alloc (.cells #[.int .i64 (wrap64 (p + q))] 3)) = wa2 at o_c o_r o_s0 o_s1 hbw ⊢; generalize wb.heap.size = g2 at o_s0 o_s1 ⊢; clear qc_0 qm0_0 qc_1 qm0_1 qc_2 qm0_2 qc_3 qm0_3; refine (no_quotient h _ _ _ _ _ _ _).mono ?_; rintro e w3 ⟨rfl, hb9⟩; replace o_c := o_c.below hb9 o_c.lt; replace o_r := o_r.below hb9 o_r.lt; replace hbw := below6 hbw hb9; clear hb9 o_s0 o_s1; obtain ⟨qr_0, qr_1, qr_2⟩ := o_r.cells3; obtain ⟨fr_0, fr_1, fr_2⟩ := o_r.frozens3; have oz := o_r.set3 (.bool false) (.string ⟨#[]⟩) (.string ⟨#[]⟩); have sz9 := Below.set3 hbw (g := w.heap.size + 1) (by omega) (.bool false) (.string ⟨#[]⟩) (.string ⟨#[]⟩)
  go_wp2_with fail
  generalize (((w3.setCell ⟨w.heap.size + 1, 0, none⟩ (.bool false)).setCell ⟨w.heap.size + 1, 1, none⟩ (.string ⟨#[]⟩)).setCell ⟨w.heap.size + 1, 2, none⟩ (.string ⟨#[]⟩)) = wz at oz sz9 ⊢; obtain ⟨z0, z1, z2⟩ := oz.cells3; exact bodyPost_ret (v := .tuple #[.agg #[.bool false, .string ⟨#[]⟩, .string ⟨#[]⟩], .int .i64 1]) (by simp [results, Tryz.results10, go_sem, z0, z1, z2]) rfl ⟨rfl, sz9⟩
theorem no_Jaccard {a p q n : Int} (h : ¬ VI a p q n) : RetV 12 #[.agg #[.int .i64 a, .int .i64 p, .int .i64 q, .int .i64 n]] (.tuple #[.agg #[.bool false, .string ⟨#[]⟩, .string ⟨#[]⟩], .int .i64 1]) := by
  intro w; obtain ⟨o_c, o_r, hbw⟩ := new2 w [.int .i64 a, .int .i64 p, .int .i64 q, .int .i64 n] [.bool false, .string ⟨#[]⟩, .string ⟨#[]⟩] 23 27
  go_enter Tryz.func12, Tryz.ntmps12
  go_upto_region 1 with (fail)
  generalize ((w.alloc (.cells #[.int .i64 a, .int .i64 p, .int .i64 q, .int .i64 n] 23)).alloc (.cells #[.bool false, .string ⟨#[]⟩, .string ⟨#[]⟩] 27)) = wb at o_c o_r hbw ⊢; obtain ⟨qc_0, qc_1, qc_2, qc_3⟩ := o_c.cells4; obtain ⟨qm0_0, qm0_1, qm0_2, qm0_3⟩ := (o_c.alloc (.cells #[.int .i64 a] 3)).cells4; obtain ⟨o_s0, o_s1, hz1⟩ := new2 wb [.int .i64 a] [.int .i64 (wrap64 (wrap64 (p + q) - a))] 3 3; replace o_c := o_c.alloc (.cells #[.int .i64 a] 3); replace o_c := o_c.alloc (.cells #[.int .i64 (wrap64 (wrap64 (p + q) - a))] 3); replace o_r := o_r.alloc (.cells #[.int .i64 a] 3); replace o_r := o_r.alloc (.cells #[.int .i64 (wrap64 (wrap64 (p + q) - a))] 3); replace hbw := below6 hbw hz1; clear hz1
  go_wp2_with fail
  generalize ((wb.alloc (.cells #[.int .i64 a] 3)).alloc (.cells #[.int .i64 (wrap64 (wrap64 (p + q) - a))] 3)) = wa2 at o_c o_r o_s0 o_s1 hbw ⊢; generalize wb.heap.size = g2 at o_s0 o_s1 ⊢; clear qc_0 qm0_0 qc_1 qm0_1 qc_2 qm0_2 qc_3 qm0_3; refine (no_quotient h _ _ _ _ _ _ _).mono ?_; rintro e w3 ⟨rfl, hb9⟩; replace o_c := o_c.below hb9 o_c.lt; replace o_r := o_r.below hb9 o_r.lt; replace hbw := below6 hbw hb9; clear hb9 o_s0 o_s1; obtain ⟨qr_0, qr_1, qr_2⟩ := o_r.cells3; obtain ⟨fr_0, fr_1, fr_2⟩ := o_r.frozens3; have oz := o_r.set3 (.bool false) (.string ⟨#[]⟩) (.string ⟨#[]⟩); have sz9 := Below.set3 hbw (g := w.heap.size + 1) (by omega) (.bool false) (.string ⟨#[]⟩) (.string ⟨#[]⟩)
  go_wp2_with fail
  generalize (((w3.setCell ⟨w.heap.size + 1, 0, none⟩ (.bool false)).setCell ⟨w.heap.size + 1, 1, none⟩ (.string ⟨#[]⟩)).setCell ⟨w.heap.size + 1, 2, none⟩ (.string ⟨#[]⟩)) = wz at oz sz9 ⊢; obtain ⟨z0, z1, z2⟩ := oz.cells3; exact bodyPost_ret (v := .tuple #[.agg #[.bool false, .string ⟨#[]⟩, .string ⟨#[]⟩], .int .i64 1]) (by simp [results, Tryz.results12, go_sem, z0, z1, z2]) rfl ⟨rfl, sz9⟩
theorem no_MinSensitivity {a p q n : Int} (h : ¬ VI a p q n) : RetV 14 #[.agg #[.int .i64 a, .int .i64 p, .int .i64 q, .int .i64 n]] (.tuple #[.agg #[.bool false, .string ⟨#[]⟩, .string ⟨#[]⟩], .int .i64 1]) := by
  intro w; obtain ⟨o_c, o_r, hbw⟩ := new2 w [.int .i64 a, .int .i64 p, .int .i64 q, .int .i64 n] [.bool false, .string ⟨#[]⟩, .string ⟨#[]⟩] 23 27
  go_enter Tryz.func14, Tryz.ntmps14
  go_upto_region 1 with (fail)
  generalize ((w.alloc (.cells #[.int .i64 a, .int .i64 p, .int .i64 q, .int .i64 n] 23)).alloc (.cells #[.bool false, .string ⟨#[]⟩, .string ⟨#[]⟩] 27)) = wb at o_c o_r hbw ⊢; obtain ⟨qc_0, qc_1, qc_2, qc_3⟩ := o_c.cells4; obtain ⟨qm0_0, qm0_1, qm0_2, qm0_3⟩ := (o_c.alloc (.cells #[.int .i64 a] 3)).cells4; obtain ⟨o_s0, o_s1, hz1⟩ := new2 wb [.int .i64 a] [.int .i64 p] 3 3; replace o_c := o_c.alloc (.cells #[.int .i64 a] 3); replace o_c := o_c.alloc (.cells #[.int .i64 p] 3); replace o_r := o_r.alloc (.cells #[.int .i64 a] 3); replace o_r := o_r.alloc (.cells #[.int .i64 p] 3); replace hbw := below6 hbw hz1; clear hz1
  go_wp2_with fail
  generalize ((wb.alloc (.cells #[.int .i64 a] 3)).alloc (.cells #[.int .i64 p] 3)) = wa2 at o_c o_r o_s0 o_s1 hbw ⊢; generalize wb.heap.size = g2 at o_s0 o_s1 ⊢; clear qc_0 qm0_0 qc_1 qm0_1 qc_2 qm0_2 qc_3 qm0_3; refine (no_quotient h _ _ _ _ _ _ _).mono ?_; rintro e w3 ⟨rfl, hb9⟩; replace o_c := o_c.below hb9 o_c.lt; replace o_r := o_r.below hb9 o_r.lt; replace hbw := below6 hbw hb9; clear hb9 o_s0 o_s1; obtain ⟨o_x, hz4⟩ := new1 w3 [.bool false, .string ⟨#[]⟩, .string ⟨#[]⟩] 27; replace o_c := o_c.alloc (.cells #[.bool false, .string ⟨#[]⟩, .string ⟨#[]⟩] 27); replace o_r := o_r.alloc (.cells #[.bool false, .string ⟨#[]⟩, .string ⟨#[]⟩] 27); replace hbw := below6 hbw hz4; clear hz4
  go_upto_region 3 with (fail)
  generalize (w3.alloc (.cells #[.bool false, .string ⟨#[]⟩, .string ⟨#[]⟩] 27)) = wa5 at o_c o_r o_x hbw ⊢; generalize w3.heap.size = g5 at o_x ⊢; obtain ⟨qr_0, qr_1, qr_2⟩ := o_r.cells3; obtain ⟨fr_0, fr_1, fr_2⟩ := o_r.frozens3; have oz := o_r.set3 (.bool false) (.string ⟨#[]⟩) (.string ⟨#[]⟩); have sz9 := Below.set3 hbw (g := w.heap.size + 1) (by omega) (.bool false) (.string ⟨#[]⟩) (.string ⟨#[]⟩)
  go_wp2_with fail
  generalize (((wa5.setCell ⟨w.heap.size + 1, 0, none⟩ (.bool false)).setCell ⟨w.heap.size + 1, 1, none⟩ (.string ⟨#[]⟩)).setCell ⟨w.heap.size + 1, 2, none⟩ (.string ⟨#[]⟩)) = wz at oz sz9 ⊢; obtain ⟨z0, z1, z2⟩ := oz.cells3; exact bodyPost_ret (v := .tuple #[.agg #[.bool false, .string ⟨#[]⟩, .string ⟨#[]⟩], .int .i64 1]) (by simp [results, Tryz.results14, go_sem, z0, z1, z2]) rfl ⟨rfl, sz9⟩
theorem check_no1 {a p q n : Int} {k : Int} (h : ¬ VI a p q n) : RetV 43 #[.agg #[.int .i64 a, .int .i64 p, .int .i64 q, .int .i64 n], .int .i64 k] (.int .i64 1) := by
  intro w; obtain ⟨o_c, hbw⟩ := new1 w [.int .i64 a, .int .i64 p, .int .i64 q, .int .i64 n] 23
  go_enter Tryz.func43, Tryz.ntmps43
  go_upto_region 1 with (fail)
  generalize (w.alloc (.cells #[.int .i64 a, .int .i64 p, .int .i64 q, .int .i64 n] 23)) = wb at o_c hbw ⊢; obtain ⟨qc_0, qc_1, qc_2, qc_3⟩ := o_c.cells4
  go_wp2_with fail
  clear qc_0 qc_1 qc_2 qc_3; refine (mvalid_no h _).mono ?_; rintro e w1 ⟨rfl, hb1⟩; replace o_c := o_c.below hb1 o_c.lt; replace hbw := below6 hbw hb1; clear hb1
  go_wp2
  go_ret
  exact ⟨rfl, hbw⟩
theorem check_no2 {a p q n : Nat} {k : Int} (hv : VC a p q n) (h : k < 0) : RetV 43 #[.agg #[.int .i64 (a : Int), .int .i64 (p : Int), .int .i64 (q : Int), .int .i64 (n : Int)], .int .i64 k] (.int .i64 1) := by
  intro w; obtain ⟨o_c, hbw⟩ := new1 w [.int .i64 (a : Int), .int .i64 (p : Int), .int .i64 (q : Int), .int .i64 (n : Int)] 23
  go_enter Tryz.func43, Tryz.ntmps43
  go_upto_region 1 with (fail)
  generalize (w.alloc (.cells #[.int .i64 (a : Int), .int .i64 (p : Int), .int .i64 (q : Int), .int .i64 (n : Int)] 23)) = wb at o_c hbw ⊢; have k1 : decide (k < 0) = true := decide_eq_true h; have k2 : decide (0 ≤ k) = false := decide_eq_false (by omega); obtain ⟨qc_0, qc_1, qc_2, qc_3⟩ := o_c.cells4
  go_wp2_with fail
  clear qc_0 qc_1 qc_2 qc_3; refine (mvalid_yes hv _).mono ?_; rintro e w1 ⟨rfl, hb1⟩; replace o_c := o_c.below hb1 o_c.lt; replace hbw := below6 hbw hb1; clear hb1
  go_wp2
  go_ret
  exact ⟨rfl, hbw⟩
theorem check_no3 {a p q n : Nat} {k : Int} (hv : VC a p q n) (h : 8 < k) : RetV 43 #[.agg #[.int .i64 (a : Int), .int .i64 (p : Int), .int .i64 (q : Int), .int .i64 (n : Int)], .int .i64 k] (.int .i64 1) := by
  intro w; obtain ⟨o_c, hbw⟩ := new1 w [.int .i64 (a : Int), .int .i64 (p : Int), .int .i64 (q : Int), .int .i64 (n : Int)] 23
  go_enter Tryz.func43, Tryz.ntmps43
  go_upto_region 1 with (fail)
  generalize (w.alloc (.cells #[.int .i64 (a : Int), .int .i64 (p : Int), .int .i64 (q : Int), .int .i64 (n : Int)] 23)) = wb at o_c hbw ⊢; have k1 : decide (k < 0) = false := decide_eq_false (by omega); have k2 : decide (8 < k) = true := decide_eq_true h; have k3 : decide (k > 8) = true := decide_eq_true h; have k4 : decide (0 ≤ k) = true := decide_eq_true (by omega); obtain ⟨qc_0, qc_1, qc_2, qc_3⟩ := o_c.cells4
  go_wp2_with fail
  clear qc_0 qc_1 qc_2 qc_3; refine (mvalid_yes hv _).mono ?_; rintro e w1 ⟨rfl, hb1⟩; replace o_c := o_c.below hb1 o_c.lt; replace hbw := below6 hbw hb1; clear hb1
  go_wp2
  go_ret
  exact ⟨rfl, hbw⟩
theorem may_no1 {a p q n : Int} {k : Int} (h : ¬ VI a p q n) : RetV 45 #[.agg #[.int .i64 a, .int .i64 p, .int .i64 q, .int .i64 n], .int .i64 k] (.int .i64 1) := by
  intro w; obtain ⟨o_c, hbw⟩ := new1 w [.int .i64 a, .int .i64 p, .int .i64 q, .int .i64 n] 23
  go_enter Tryz.func45, Tryz.ntmps45
  go_upto_region 1 with (fail)
  generalize (w.alloc (.cells #[.int .i64 a, .int .i64 p, .int .i64 q, .int .i64 n] 23)) = wb at o_c hbw ⊢; obtain ⟨qc_0, qc_1, qc_2, qc_3⟩ := o_c.cells4
  go_wp2_with fail
  clear qc_0 qc_1 qc_2 qc_3; refine (rmv_no h _).mono ?_; rintro e w1 ⟨rfl, hb1⟩; replace o_c := o_c.below hb1 o_c.lt; replace hbw := below6 hbw hb1; clear hb1
  go_wp2
  go_ret
  exact ⟨rfl, hbw⟩
theorem may_no2 {a p q n : Nat} {k : Int} (hv : VC a p q n) (h : k < 0) : RetV 45 #[.agg #[.int .i64 (a : Int), .int .i64 (p : Int), .int .i64 (q : Int), .int .i64 (n : Int)], .int .i64 k] (.int .i64 1) := by
  intro w; obtain ⟨o_c, hbw⟩ := new1 w [.int .i64 (a : Int), .int .i64 (p : Int), .int .i64 (q : Int), .int .i64 (n : Int)] 23
  go_enter Tryz.func45, Tryz.ntmps45
  go_upto_region 1 with (fail)
  generalize (w.alloc (.cells #[.int .i64 (a : Int), .int .i64 (p : Int), .int .i64 (q : Int), .int .i64 (n : Int)] 23)) = wb at o_c hbw ⊢; have k1 : decide (k < 0) = true := decide_eq_true h; have k2 : decide (0 ≤ k) = false := decide_eq_false (by omega); obtain ⟨qc_0, qc_1, qc_2, qc_3⟩ := o_c.cells4
  go_wp2_with fail
  clear qc_0 qc_1 qc_2 qc_3; refine (rmv_yes hv _).mono ?_; rintro e w1 ⟨rfl, hb1⟩; replace o_c := o_c.below hb1 o_c.lt; replace hbw := below6 hbw hb1; clear hb1
  go_wp2
  go_ret
  exact ⟨rfl, hbw⟩
theorem may_no3 {a p q n : Nat} {k : Int} (hv : VC a p q n) (h : 8 < k) : RetV 45 #[.agg #[.int .i64 (a : Int), .int .i64 (p : Int), .int .i64 (q : Int), .int .i64 (n : Int)], .int .i64 k] (.int .i64 1) := by
  intro w; obtain ⟨o_c, hbw⟩ := new1 w [.int .i64 (a : Int), .int .i64 (p : Int), .int .i64 (q : Int), .int .i64 (n : Int)] 23
  go_enter Tryz.func45, Tryz.ntmps45
  go_upto_region 1 with (fail)
  generalize (w.alloc (.cells #[.int .i64 (a : Int), .int .i64 (p : Int), .int .i64 (q : Int), .int .i64 (n : Int)] 23)) = wb at o_c hbw ⊢; have k1 : decide (k < 0) = false := decide_eq_false (by omega); have k2 : decide (8 < k) = true := decide_eq_true h; have k3 : decide (k > 8) = true := decide_eq_true h; have k4 : decide (0 ≤ k) = true := decide_eq_true (by omega); obtain ⟨qc_0, qc_1, qc_2, qc_3⟩ := o_c.cells4
  go_wp2_with fail
  clear qc_0 qc_1 qc_2 qc_3; refine (rmv_yes hv _).mono ?_; rintro e w1 ⟨rfl, hb1⟩; replace o_c := o_c.below hb1 o_c.lt; replace hbw := below6 hbw hb1; clear hb1
  go_wp2
  go_ret
  exact ⟨rfl, hbw⟩
theorem no_MutualInformation {a p q n k : Int} (h : RetV 43 #[.agg #[.int .i64 a, .int .i64 p, .int .i64 q, .int .i64 n], .int .i64 k] (.int .i64 1)) : RetV 22 #[.agg #[.int .i64 a, .int .i64 p, .int .i64 q, .int .i64 n], .int .i64 k] (.tuple #[.agg #[.bool false, .string ⟨#[]⟩, .string ⟨#[]⟩, .bool false, .string ⟨#[]⟩, .string ⟨#[]⟩], .int .i64 1]) := by
  intro w; have HC := Lib.hid h; clear h; obtain ⟨o_c, o_r, hbw⟩ := new2 w [.int .i64 a, .int .i64 p, .int .i64 q, .int .i64 n] [.bool false, .string ⟨#[]⟩, .string ⟨#[]⟩, .bool false, .string ⟨#[]⟩, .string ⟨#[]⟩] 23 33
  go_enter Tryz.func22, Tryz.ntmps22
  go_upto_region 1 with (fail)
  generalize ((w.alloc (.cells #[.int .i64 a, .int .i64 p, .int .i64 q, .int .i64 n] 23)).alloc (.cells #[.bool false, .string ⟨#[]⟩, .string ⟨#[]⟩, .bool false, .string ⟨#[]⟩, .string ⟨#[]⟩] 33)) = wb at o_c o_r hbw ⊢; obtain ⟨qc_0, qc_1, qc_2, qc_3⟩ := o_c.cells4
  go_wp2_with fail
  clear qc_0 qc_1 qc_2 qc_3; refine (HC.out _).mono ?_; rintro e w1 ⟨rfl, hb1⟩; replace o_c := o_c.below hb1 o_c.lt; replace o_r := o_r.below hb1 o_r.lt; replace hbw := below6 hbw hb1; clear hb1; obtain ⟨qr_0, qr_1, qr_2, qr_3, qr_4, qr_5⟩ := o_r.cells6; obtain ⟨fr_0, fr_1, fr_2, fr_3, fr_4, fr_5⟩ := o_r.frozens6; have oz := o_r.set6 (.bool false) (.string ⟨#[]⟩) (.string ⟨#[]⟩) (.bool false) (.string ⟨#[]⟩) (.string ⟨#[]⟩); have sz9 := Below.set6 hbw (g := w.heap.size + 1) (by omega) (.bool false) (.string ⟨#[]⟩) (.string ⟨#[]⟩) (.bool false) (.string ⟨#[]⟩) (.string ⟨#[]⟩)
  go_wp2_with fail
  generalize ((((((w1.setCell ⟨w.heap.size + 1, 0, none⟩ (.bool false)).setCell ⟨w.heap.size + 1, 1, none⟩ (.string ⟨#[]⟩)).setCell ⟨w.heap.size + 1, 2, none⟩ (.string ⟨#[]⟩)).setCell ⟨w.heap.size + 1, 3, none⟩ (.bool false)).setCell ⟨w.heap.size + 1, 4, none⟩ (.string ⟨#[]⟩)).setCell ⟨w.heap.size + 1, 5, none⟩ (.string ⟨#[]⟩)) = wz at oz sz9 ⊢; obtain ⟨z0, z1, z2, z3, z4, z5⟩ := oz.cells6; exact bodyPost_ret (v := .tuple #[.agg #[.bool false, .string ⟨#[]⟩, .string ⟨#[]⟩, .bool false, .string ⟨#[]⟩, .string ⟨#[]⟩], .int .i64 1]) (by simp [results, Tryz.results22, go_sem, z0, z1, z2, z3, z4, z5]) rfl ⟨rfl, sz9⟩
theorem nor_MutualInformation {a p q n k : Int} (h : RetV 45 #[.agg #[.int .i64 a, .int .i64 p, .int .i64 q, .int .i64 n], .int .i64 k] (.int .i64 1)) : RetV 23 #[.agg #[.int .i64 a, .int .i64 p, .int .i64 q, .int .i64 n], .int .i64 k] (.tuple #[.agg #[.bool false, .string ⟨#[]⟩, .string ⟨#[]⟩, .bool false, .string ⟨#[]⟩, .string ⟨#[]⟩], .int .i64 1]) := by
  intro w; have HC := Lib.hid h; clear h; obtain ⟨o_c, o_r, hbw⟩ := new2 w [.int .i64 a, .int .i64 p, .int .i64 q, .int .i64 n] [.bool false, .string ⟨#[]⟩, .string ⟨#[]⟩, .bool false, .string ⟨#[]⟩, .string ⟨#[]⟩] 23 33
  go_enter Tryz.func23, Tryz.ntmps23
  go_upto_region 1 with (fail)
  generalize ((w.alloc (.cells #[.int .i64 a, .int .i64 p, .int .i64 q, .int .i64 n] 23)).alloc (.cells #[.bool false, .string ⟨#[]⟩, .string ⟨#[]⟩, .bool false, .string ⟨#[]⟩, .string ⟨#[]⟩] 33)) = wb at o_c o_r hbw ⊢; obtain ⟨qc_0, qc_1, qc_2, qc_3⟩ := o_c.cells4
  go_wp2_with fail
  clear qc_0 qc_1 qc_2 qc_3; refine (HC.out _).mono ?_; rintro e w1 ⟨rfl, hb1⟩; replace o_c := o_c.below hb1 o_c.lt; replace o_r := o_r.below hb1 o_r.lt; replace hbw := below6 hbw hb1; clear hb1; obtain ⟨qr_0, qr_1, qr_2, qr_3, qr_4, qr_5⟩ := o_r.cells6; obtain ⟨fr_0, fr_1, fr_2, fr_3, fr_4, fr_5⟩ := o_r.frozens6; have oz := o_r.set6 (.bool false) (.string ⟨#[]⟩) (.string ⟨#[]⟩) (.bool false) (.string ⟨#[]⟩) (.string ⟨#[]⟩); have sz9 := Below.set6 hbw (g := w.heap.size + 1) (by omega) (.bool false) (.string ⟨#[]⟩) (.string ⟨#[]⟩) (.bool false) (.string ⟨#[]⟩) (.string ⟨#[]⟩)
  go_wp2_with fail
  generalize ((((((w1.setCell ⟨w.heap.size + 1, 0, none⟩ (.bool false)).setCell ⟨w.heap.size + 1, 1, none⟩ (.string ⟨#[]⟩)).setCell ⟨w.heap.size + 1, 2, none⟩ (.string ⟨#[]⟩)).setCell ⟨w.heap.size + 1, 3, none⟩ (.bool false)).setCell ⟨w.heap.size + 1, 4, none⟩ (.string ⟨#[]⟩)).setCell ⟨w.heap.size + 1, 5, none⟩ (.string ⟨#[]⟩)) = wz at oz sz9 ⊢; obtain ⟨z0, z1, z2, z3, z4, z5⟩ := oz.cells6; exact bodyPost_ret (v := .tuple #[.agg #[.bool false, .string ⟨#[]⟩, .string ⟨#[]⟩, .bool false, .string ⟨#[]⟩, .string ⟨#[]⟩], .int .i64 1]) (by simp [results, Tryz.results23, go_sem, z0, z1, z2, z3, z4, z5]) rfl ⟨rfl, sz9⟩
theorem no_LogLikelihood {a p q n k : Int} (h : RetV 43 #[.agg #[.int .i64 a, .int .i64 p, .int .i64 q, .int .i64 n], .int .i64 k] (.int .i64 1)) : RetV 24 #[.agg #[.int .i64 a, .int .i64 p, .int .i64 q, .int .i64 n], .int .i64 k] (.tuple #[.agg #[.bool false, .string ⟨#[]⟩, .string ⟨#[]⟩, .bool false, .string ⟨#[]⟩, .string ⟨#[]⟩], .int .i64 1]) := by
  intro w; have HC := Lib.hid h; clear h; obtain ⟨o_c, o_r, hbw⟩ := new2 w [.int .i64 a, .int .i64 p, .int .i64 q, .int .i64 n] [.bool false, .string ⟨#[]⟩, .string ⟨#[]⟩, .bool false, .string ⟨#[]⟩, .string ⟨#[]⟩] 23 33
  go_enter Tryz.func24, Tryz.ntmps24
  go_upto_region 1 with (fail)
  generalize ((w.alloc (.cells #[.int .i64 a, .int .i64 p, .int .i64 q, .int .i64 n] 23)).alloc (.cells #[.bool false, .string ⟨#[]⟩, .string ⟨#[]⟩, .bool false, .string ⟨#[]⟩, .string ⟨#[]⟩] 33)) = wb at o_c o_r hbw ⊢; obtain ⟨qc_0, qc_1, qc_2, qc_3⟩ := o_c.cells4
  go_wp2_with fail
  clear qc_0 qc_1 qc_2 qc_3; refine (HC.out _).mono ?_; rintro e w1 ⟨rfl, hb1⟩; replace o_c := o_c.below hb1 o_c.lt; replace o_r := o_r.below hb1 o_r.lt; replace hbw := below6 hbw hb1; clear hb1; obtain ⟨qr_0, qr_1, qr_2, qr_3, qr_4, qr_5⟩ := o_r.cells6; obtain ⟨fr_0, fr_1, fr_2, fr_3, fr_4, fr_5⟩ := o_r.frozens6; have oz := o_r.set6 (.bool false) (.string ⟨#[]⟩) (.string ⟨#[]⟩) (.bool false) (.string ⟨#[]⟩) (.string ⟨#[]⟩); have sz9 := Below.set6 hbw (g := w.heap.size + 1) (by omega) (.bool false) (.string ⟨#[]⟩) (.string ⟨#[]⟩) (.bool false) (.string ⟨#[]⟩) (.string ⟨#[]⟩)
  go_wp2_with fail
  generalize ((((((w1.setCell ⟨w.heap.size + 1, 0, none⟩ (.bool false)).setCell ⟨w.heap.size + 1, 1, none⟩ (.string ⟨#[]⟩)).setCell ⟨w.heap.size + 1, 2, none⟩ (.string ⟨#[]⟩)).setCell ⟨w.heap.size + 1, 3, none⟩ (.bool false)).setCell ⟨w.heap.size + 1, 4, none⟩ (.string ⟨#[]⟩)).setCell ⟨w.heap.size + 1, 5, none⟩ (.string ⟨#[]⟩)) = wz at oz sz9 ⊢; obtain ⟨z0, z1, z2, z3, z4, z5⟩ := oz.cells6; exact bodyPost_ret (v := .tuple #[.agg #[.bool false, .string ⟨#[]⟩, .string ⟨#[]⟩, .bool false, .string ⟨#[]⟩, .string ⟨#[]⟩], .int .i64 1]) (by simp [results, Tryz.results24, go_sem, z0, z1, z2, z3, z4, z5]) rfl ⟨rfl, sz9⟩
theorem nor_LogLikelihood {a p q n k : Int} (h : RetV 45 #[.agg #[.int .i64 a, .int .i64 p, .int .i64 q, .int .i64 n], .int .i64 k] (.int .i64 1)) : RetV 25 #[.agg #[.int .i64 a, .int .i64 p, .int .i64 q, .int .i64 n], .int .i64 k] (.tuple #[.agg #[.bool false, .string ⟨#[]⟩, .string ⟨#[]⟩, .bool false, .string ⟨#[]⟩, .string ⟨#[]⟩], .int .i64 1]) := by
  intro w; have HC := Lib.hid h; clear h; obtain ⟨o_c, o_r, hbw⟩ := new2 w [.int .i64 a, .int .i64 p, .int .i64 q, .int .i64 n] [.bool false, .string ⟨#[]⟩, .string ⟨#[]⟩, .bool false, .string ⟨#[]⟩, .string ⟨#[]⟩] 23 33
  go_enter Tryz.func25, Tryz.ntmps25
  go_upto_region 1 with (fail)
  generalize ((w.alloc (.cells #[.int .i64 a, .int .i64 p, .int .i64 q, .int .i64 n] 23)).alloc (.cells #[.bool false, .string ⟨#[]⟩, .string ⟨#[]⟩, .bool false, .string ⟨#[]⟩, .string ⟨#[]⟩] 33)) = wb at o_c o_r hbw ⊢; obtain ⟨qc_0, qc_1, qc_2, qc_3⟩ := o_c.cells4
  go_wp2_with fail
  clear qc_0 qc_1 qc_2 qc_3; refine (HC.out _).mono ?_; rintro e w1 ⟨rfl, hb1⟩; replace o_c := o_c.below hb1 o_c.lt; replace o_r := o_r.below hb1 o_r.lt; replace hbw := below6 hbw hb1; clear hb1; obtain ⟨qr_0, qr_1, qr_2, qr_3, qr_4, qr_5⟩ := o_r.cells6; obtain ⟨fr_0, fr_1, fr_2, fr_3, fr_4, fr_5⟩ := o_r.frozens6; have oz := o_r.set6 (.bool false) (.string ⟨#[]⟩) (.string ⟨#[]⟩) (.bool false) (.string ⟨#[]⟩) (.string ⟨#[]⟩); have sz9 := Below.set6 hbw (g := w.heap.size + 1) (by omega) (.bool false) (.string ⟨#[]⟩) (.string ⟨#[]⟩) (.bool false) (.string ⟨#[]⟩) (.string ⟨#[]⟩)
  go_wp2_with fail
  generalize ((((((w1.setCell ⟨w.heap.size + 1, 0, none⟩ (.bool false)).setCell ⟨w.heap.size + 1, 1, none⟩ (.string ⟨#[]⟩)).setCell ⟨w.heap.size + 1, 2, none⟩ (.string ⟨#[]⟩)).setCell ⟨w.heap.size + 1, 3, none⟩ (.bool false)).setCell ⟨w.heap.size + 1, 4, none⟩ (.string ⟨#[]⟩)).setCell ⟨w.heap.size + 1, 5, none⟩ (.string ⟨#[]⟩)) = wz at oz sz9 ⊢; obtain ⟨z0, z1, z2, z3, z4, z5⟩ := oz.cells6; exact bodyPost_ret (v := .tuple #[.agg #[.bool false, .string ⟨#[]⟩, .string ⟨#[]⟩, .bool false, .string ⟨#[]⟩, .string ⟨#[]⟩], .int .i64 1]) (by simp [results, Tryz.results25, go_sem, z0, z1, z2, z3, z4, z5]) rfl ⟨rfl, sz9⟩
theorem no_LogDice {a p q n k : Int} (h : RetV 43 #[.agg #[.int .i64 a, .int .i64 p, .int .i64 q, .int .i64 n], .int .i64 k] (.int .i64 1)) : RetV 26 #[.agg #[.int .i64 a, .int .i64 p, .int .i64 q, .int .i64 n], .int .i64 k] (.tuple #[.agg #[.bool false, .string ⟨#[]⟩, .string ⟨#[]⟩, .bool false, .string ⟨#[]⟩, .string ⟨#[]⟩], .int .i64 1]) := by
  intro w; have HC := Lib.hid h; clear h; obtain ⟨o_c, o_r, hbw⟩ := new2 w [.int .i64 a, .int .i64 p, .int .i64 q, .int .i64 n] [.bool false, .string ⟨#[]⟩, .string ⟨#[]⟩, .bool false, .string ⟨#[]⟩, .string ⟨#[]⟩] 23 33
  go_enter Tryz.func26, Tryz.ntmps26
  go_upto_region 1 with (fail)
  generalize ((w.alloc (.cells #[.int .i64 a, .int .i64 p, .int .i64 q, .int .i64 n] 23)).alloc (.cells #[.bool false, .string ⟨#[]⟩, .string ⟨#[]⟩, .bool false, .string ⟨#[]⟩, .string ⟨#[]⟩] 33)) = wb at o_c o_r hbw ⊢; obtain ⟨qc_0, qc_1, qc_2, qc_3⟩ := o_c.cells4
  go_wp2_with fail
  clear qc_0 qc_1 qc_2 qc_3; refine (HC.out _).mono ?_; rintro e w1 ⟨rfl, hb1⟩; replace o_c := o_c.below hb1 o_c.lt; replace o_r := o_r.below hb1 o_r.lt; replace hbw := below6 hbw hb1; clear hb1; obtain ⟨qr_0, qr_1, qr_2, qr_3, qr_4, qr_5⟩ := o_r.cells6; obtain ⟨fr_0, fr_1, fr_2, fr_3, fr_4, fr_5⟩ := o_r.frozens6; have oz := o_r.set6 (.bool false) (.string ⟨#[]⟩) (.string ⟨#[]⟩) (.bool false) (.string ⟨#[]⟩) (.string ⟨#[]⟩); have sz9 := Below.set6 hbw (g := w.heap.size + 1) (by omega) (.bool false) (.string ⟨#[]⟩) (.string ⟨#[]⟩) (.bool false) (.string ⟨#[]⟩) (.string ⟨#[]⟩)
  go_wp2_with fail
  generalize ((((((w1.setCell ⟨w.heap.size + 1, 0, none⟩ (.bool false)).setCell ⟨w.heap.size + 1, 1, none⟩ (.string ⟨#[]⟩)).setCell ⟨w.heap.size + 1, 2, none⟩ (.string ⟨#[]⟩)).setCell ⟨w.heap.size + 1, 3, none⟩ (.bool false)).setCell ⟨w.heap.size + 1, 4, none⟩ (.string ⟨#[]⟩)).setCell ⟨w.heap.size + 1, 5, none⟩ (.string ⟨#[]⟩)) = wz at oz sz9 ⊢; obtain ⟨z0, z1, z2, z3, z4, z5⟩ := oz.cells6; exact bodyPost_ret (v := .tuple #[.agg #[.bool false, .string ⟨#[]⟩, .string ⟨#[]⟩, .bool false, .string ⟨#[]⟩, .string ⟨#[]⟩], .int .i64 1]) (by simp [results, Tryz.results26, go_sem, z0, z1, z2, z3, z4, z5]) rfl ⟨rfl, sz9⟩
theorem nor_LogDice {a p q n k : Int} (h : RetV 45 #[.agg #[.int .i64 a, .int .i64 p, .int .i64 q, .int .i64 n], .int .i64 k] (.int .i64 1)) : RetV 27 #[.agg #[.int .i64 a, .int .i64 p, .int .i64 q, .int .i64 n], .int .i64 k] (.tuple #[.agg #[.bool false, .string ⟨#[]⟩, .string ⟨#[]⟩, .bool false, .string ⟨#[]⟩, .string ⟨#[]⟩], .int .i64 1]) := by
  intro w; have HC := Lib.hid h; clear h; obtain ⟨o_c, o_r, hbw⟩ := new2 w [.int .i64 a, .int .i64 p, .int .i64 q, .int .i64 n] [.bool false, .string ⟨#[]⟩, .string ⟨#[]⟩, .bool false, .string ⟨#[]⟩, .string ⟨#[]⟩] 23 33
  go_enter Tryz.func27, Tryz.ntmps27
  go_upto_region 1 with (fail)
  generalize ((w.alloc (.cells #[.int .i64 a, .int .i64 p, .int .i64 q, .int .i64 n] 23)).alloc (.cells #[.bool false, .string ⟨#[]⟩, .string ⟨#[]⟩, .bool false, .string ⟨#[]⟩, .string ⟨#[]⟩] 33)) = wb at o_c o_r hbw ⊢; obtain ⟨qc_0, qc_1, qc_2, qc_3⟩ := o_c.cells4
  go_wp2_with fail
  clear qc_0 qc_1 qc_2 qc_3; refine (HC.out _).mono ?_; rintro e w1 ⟨rfl, hb1⟩; replace o_c := o_c.below hb1 o_c.lt; replace o_r := o_r.below hb1 o_r.lt; replace hbw := below6 hbw hb1; clear hb1; obtain ⟨qr_0, qr_1, qr_2, qr_3, qr_4, qr_5⟩ := o_r.cells6; obtain ⟨fr_0, fr_1, fr_2, fr_3, fr_4, fr_5⟩ := o_r.frozens6; have oz := o_r.set6 (.bool false) (.string ⟨#[]⟩) (.string ⟨#[]⟩) (.bool false) (.string ⟨#[]⟩) (.string ⟨#[]⟩); have sz9 := Below.set6 hbw (g := w.heap.size + 1) (by omega) (.bool false) (.string ⟨#[]⟩) (.string ⟨#[]⟩) (.bool false) (.string ⟨#[]⟩) (.string ⟨#[]⟩)
  go_wp2_with fail
  generalize ((((((w1.setCell ⟨w.heap.size + 1, 0, none⟩ (.bool false)).setCell ⟨w.heap.size + 1, 1, none⟩ (.string ⟨#[]⟩)).setCell ⟨w.heap.size + 1, 2, none⟩ (.string ⟨#[]⟩)).setCell ⟨w.heap.size + 1, 3, none⟩ (.bool false)).setCell ⟨w.heap.size + 1, 4, none⟩ (.string ⟨#[]⟩)).setCell ⟨w.heap.size + 1, 5, none⟩ (.string ⟨#[]⟩)) = wz at oz sz9 ⊢; obtain ⟨z0, z1, z2, z3, z4, z5⟩ := oz.cells6; exact bodyPost_ret (v := .tuple #[.agg #[.bool false, .string ⟨#[]⟩, .string ⟨#[]⟩, .bool false, .string ⟨#[]⟩, .string ⟨#[]⟩], .int .i64 1]) (by simp [results, Tryz.results27, go_sem, z0, z1, z2, z3, z4, z5]) rfl ⟨rfl, sz9⟩
theorem RetV.tab {f : FuncId} {args : Array Value} {v : Value} (h : RetV f args v) : RetT f args v := fun w _ => h w
theorem all_raw (a p q n k : Int) (w : World) (ht : Tab w) :
    Calls Tryz.prog 4 #[.agg #[.int .i64 a, .int .i64 p, .int .i64 q, .int .i64 n], .int .i64 k] w fun e w' => e = .returned (.bool true) ∧ Below w.heap.size w w' := by
  by_cases hv : VI a p q n
  · obtain ⟨a, p, q, n, rfl, rfl, rfl, rfl, hvc⟩ := hv.nat
    by_cases hk : 0 ≤ k ∧ k ≤ 8
    · obtain ⟨k', rfl⟩ : ∃ k' : Nat, k = (k' : Int) := ⟨k.toNat, by omega⟩; exact all_valid hvc (by omega) w ht
    · have hc : RetV 43 #[CV a p q n, .int .i64 k] (.int .i64 1) := by
        rcases Int.lt_or_le k 0 with h | h
        · exact check_no2 hvc h
        · exact check_no3 hvc (by omega)
      have hm : RetV 45 #[CV a p q n, .int .i64 k] (.int .i64 1) := by
        rcases Int.lt_or_le k 0 with h | h
        · exact may_no2 hvc h
        · exact may_no3 hvc (by omega)
      obtain ⟨_, _, _, _, p0, r0⟩ := both_q (fun w ht => expected_yes hvc w ht) (fun w _ => expected_ref hvc w); obtain ⟨_, _, _, _, p1, r1⟩ := both_q (fun w ht => dice_yes hvc w ht) (fun w _ => dice_ref hvc w); obtain ⟨_, _, _, _, p2, r2⟩ := both_q (fun w ht => jaccard_yes hvc w ht) (fun w _ => jaccard_ref hvc w); obtain ⟨_, _, _, _, p3, r3⟩ := ms_both hvc; obtain ⟨_, _, _, _, p4, r4⟩ := both_q (fun w ht => chi_yes hvc w ht) (fun w _ => chi_ref hvc w); obtain ⟨_, _, _, _, p5, r5⟩ := ts_both hvc; obtain ⟨_, _, _, _, p6, r6⟩ := both_q (fun w ht => odds_yes hvc w ht) (fun w _ => odds_ref hvc w); exact all_core _ _ _ _ _ _ _ _ _ _ _ _ _ _ _ _ _ _ _ _ _ _ _ _ _ _ _ _ _ _ _ _ _ _ _ _ _ _ _ _ _ _ _ _ _ _ _ _ _ _ _ _ _ _ true p0 r0 p1 r1 p2 r2 p3 r3 p4 r4 p5 r5 p6 r6 (no_MutualInformation hc).tab (nor_MutualInformation hm).tab (no_LogLikelihood hc).tab (nor_LogLikelihood hm).tab (no_LogDice hc).tab (nor_LogDice hm).tab (fun w => mvalid_yes hvc w) (fun w => rmv_yes hvc w) w ht
  · have hc := check_no1 (k := k) hv; have hm := may_no1 (k := k) hv; exact all_core _ _ _ _ _ _ _ _ _ _ _ _ _ _ _ _ _ _ _ _ _ _ _ _ _ _ _ _ _ _ _ _ _ _ _ _ _ _ _ _ _ _ _ _ _ _ _ _ _ _ _ _ _ _ false (no_Expected hv).tab (nor_Expected hv).tab (no_Dice hv).tab (nor_Dice hv).tab (no_Jaccard hv).tab (nor_Jaccard hv).tab (no_MinSensitivity hv).tab (nor_MinSensitivity hv).tab (no_ChiSquared hv).tab (nor_ChiSquared hv).tab (no_TSquared hv).tab (nor_TSquared hv).tab (no_Odds hv).tab (nor_Odds hv).tab (no_MutualInformation hc).tab (nor_MutualInformation hm).tab (no_LogLikelihood hc).tab (nor_LogLikelihood hm).tab (no_LogDice hc).tab (nor_LogDice hm).tab (mvalid_no hv) (rmv_no hv) w ht
end Go.Proofs.YtocknfhgjmaibaaGreatDoor
